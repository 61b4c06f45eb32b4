/-
  What the statement leans on, part 6: FnsEv, EvalRuns, AskH, Bag2, BagH, AskR, EvOnly, LawKit0, LawL, Laid.
-/
import Derived.WalkLawsBesides
import Derived.WalkSpells
import Derived.Deep.Cut
import Derived.Deep.Light
import Derived.Test.YtlmgamnpfdgdeaaGreatDoorRows
import Derived.Lib.LaidTab
import Derived.Lib.LaidU8
import Derived.LaidLaws
import Derived.LaidHandle
import Derived.Stop.Joined
import Derived.ChangeSame
import Derived.ChangeVars
import Derived.JoinedOf
import Derived.RowKitTokens
import Derived.Test.YtlmgamnpfdgdeaaGreatDoorPk1
import Derived.Test.YtlmgamnpfdgdeaaGreatDoorPk2
import Derived.Test.YtlmgamnpfdgdeaaGreatDoorPk3
import Derived.Test.YtlmgamnpfdgdeaaGreatDoorPk4
import Derived.Test.YtlmgamnpfdgdeaaGreatDoorPk5
namespace Go.Proofs.YtlmgamnpfdgdeaaGreatDoor
open Go.RowKit
noncomputable def fnsev34 : FnI := ⟨6, Tryz.f34.body.getD .skip, [.tmp 2], []⟩
theorem fnsev34_ok : FnOk Tryz.prog 34 fnsev34 := ⟨_, Tryz.func34, by kernel_rfl, by kernel_rfl, by kernel_rfl, by kernel_rfl, by kernel_rfl, by kernel_rfl⟩
noncomputable def fnsev33 : FnI := ⟨13, Tryz.f33.body.getD .skip, [.cell 2 28], []⟩
theorem fnsev33_ok : FnOk Tryz.prog 33 fnsev33 := ⟨_, Tryz.func33, by kernel_rfl, by kernel_rfl, by kernel_rfl, by kernel_rfl, by kernel_rfl, by kernel_rfl⟩
noncomputable def fnsev41 : FnI := ⟨61, Tryz.f41.body.getD .skip, [.cell 2 28, .tmp 3, .tmp 4], [(11, [(0, true), (1, true), (2, true), (3, true), (4, true), (5, true), (6, true), (7, true), (8, true), (9, false), (10, false), (11, false)])]⟩
theorem fnsev41_ok : FnOk Tryz.prog 41 fnsev41 := ⟨_, Tryz.func41, by kernel_rfl, by kernel_rfl, by kernel_rfl, by kernel_rfl, by kernel_rfl, by kernel_rfl⟩
noncomputable def fnsev74 : FnI := ⟨19, Tryz.f74.body.getD .skip, [], []⟩
theorem fnsev74_ok : FnOk Tryz.prog 74 fnsev74 := ⟨_, Tryz.func74, by kernel_rfl, by kernel_rfl, by kernel_rfl, by kernel_rfl, by kernel_rfl, by kernel_rfl⟩
noncomputable def fnsev10 : FnI := ⟨10, Tryz.f10.body.getD .skip, [.tmp 2], []⟩
theorem fnsev10_ok : FnOk Tryz.prog 10 fnsev10 := ⟨_, Tryz.func10, by kernel_rfl, by kernel_rfl, by kernel_rfl, by kernel_rfl, by kernel_rfl, by kernel_rfl⟩
noncomputable def fnsev32 : FnI := ⟨52, Tryz.f32.body.getD .skip, [.tmp 6], []⟩
theorem fnsev32_ok : FnOk Tryz.prog 32 fnsev32 := ⟨_, Tryz.func32, by kernel_rfl, by kernel_rfl, by kernel_rfl, by kernel_rfl, by kernel_rfl, by kernel_rfl⟩
noncomputable def fnsev56 : FnI := ⟨39, Tryz.f56.body.getD .skip, [.tmp 4], []⟩
theorem fnsev56_ok : FnOk Tryz.prog 56 fnsev56 := ⟨_, Tryz.func56, by kernel_rfl, by kernel_rfl, by kernel_rfl, by kernel_rfl, by kernel_rfl, by kernel_rfl⟩
noncomputable def fnsev84 : FnI := ⟨39, Tryz.f84.body.getD .skip, [.tmp 2], []⟩
theorem fnsev84_ok : FnOk Tryz.prog 84 fnsev84 := ⟨_, Tryz.func84, by kernel_rfl, by kernel_rfl, by kernel_rfl, by kernel_rfl, by kernel_rfl, by kernel_rfl⟩
noncomputable def fnsev29 : FnI := ⟨49, Tryz.f29.body.getD .skip, [.tmp 2], []⟩
theorem fnsev29_ok : FnOk Tryz.prog 29 fnsev29 := ⟨_, Tryz.func29, by kernel_rfl, by kernel_rfl, by kernel_rfl, by kernel_rfl, by kernel_rfl, by kernel_rfl⟩
noncomputable def fnsev85 : FnI := ⟨38, Tryz.f85.body.getD .skip, [.tmp 2], []⟩
theorem fnsev85_ok : FnOk Tryz.prog 85 fnsev85 := ⟨_, Tryz.func85, by kernel_rfl, by kernel_rfl, by kernel_rfl, by kernel_rfl, by kernel_rfl, by kernel_rfl⟩
noncomputable def fnsev118 : FnI := ⟨60, Tryz.f118.body.getD .skip, [.tmp 4, .tmp 5], [(11, [(0, true), (1, true), (2, true), (3, false), (4, false), (5, false), (6, false), (7, false), (8, false), (9, false)])]⟩
theorem fnsev118_ok : FnOk Tryz.prog 118 fnsev118 := ⟨_, Tryz.func118, by kernel_rfl, by kernel_rfl, by kernel_rfl, by kernel_rfl, by kernel_rfl, by kernel_rfl⟩
noncomputable def fnsev160 : FnI := ⟨37, Tryz.f160.body.getD .skip, [.tmp 2], []⟩
theorem fnsev160_ok : FnOk Tryz.prog 160 fnsev160 := ⟨_, Tryz.func160, by kernel_rfl, by kernel_rfl, by kernel_rfl, by kernel_rfl, by kernel_rfl, by kernel_rfl⟩
noncomputable def fnsev169 : FnI := ⟨16, Tryz.f169.body.getD .skip, [.tmp 2], []⟩
theorem fnsev169_ok : FnOk Tryz.prog 169 fnsev169 := ⟨_, Tryz.func169, by kernel_rfl, by kernel_rfl, by kernel_rfl, by kernel_rfl, by kernel_rfl, by kernel_rfl⟩
noncomputable def fnsev52 : FnI := ⟨61, Tryz.f52.body.getD .skip, [.tmp 2], []⟩
theorem fnsev52_ok : FnOk Tryz.prog 52 fnsev52 := ⟨_, Tryz.func52, by kernel_rfl, by kernel_rfl, by kernel_rfl, by kernel_rfl, by kernel_rfl, by kernel_rfl⟩
noncomputable def fnsev159 : FnI := ⟨35, Tryz.f159.body.getD .skip, [.tmp 2, .tmp 3], []⟩
theorem fnsev159_ok : FnOk Tryz.prog 159 fnsev159 := ⟨_, Tryz.func159, by kernel_rfl, by kernel_rfl, by kernel_rfl, by kernel_rfl, by kernel_rfl, by kernel_rfl⟩
noncomputable def fnsev83 : FnI := ⟨21, Tryz.f83.body.getD .skip, [.tmp 2], []⟩
theorem fnsev83_ok : FnOk Tryz.prog 83 fnsev83 := ⟨_, Tryz.func83, by kernel_rfl, by kernel_rfl, by kernel_rfl, by kernel_rfl, by kernel_rfl, by kernel_rfl⟩
noncomputable def fnsev117 : FnI := ⟨25, Tryz.f117.body.getD .skip, [.tmp 2], []⟩
theorem fnsev117_ok : FnOk Tryz.prog 117 fnsev117 := ⟨_, Tryz.func117, by kernel_rfl, by kernel_rfl, by kernel_rfl, by kernel_rfl, by kernel_rfl, by kernel_rfl⟩
noncomputable def fnsev158 : FnI := ⟨22, Tryz.f158.body.getD .skip, [.tmp 2], []⟩
theorem fnsev158_ok : FnOk Tryz.prog 158 fnsev158 := ⟨_, Tryz.func158, by kernel_rfl, by kernel_rfl, by kernel_rfl, by kernel_rfl, by kernel_rfl, by kernel_rfl⟩
noncomputable def fnsev191 : FnI := ⟨21, Tryz.f191.body.getD .skip, [.tmp 2], []⟩
theorem fnsev191_ok : FnOk Tryz.prog 191 fnsev191 := ⟨_, Tryz.func191, by kernel_rfl, by kernel_rfl, by kernel_rfl, by kernel_rfl, by kernel_rfl, by kernel_rfl⟩
noncomputable def fnsev157 : FnI := ⟨9, Tryz.f157.body.getD .skip, [.tmp 2], []⟩
theorem fnsev157_ok : FnOk Tryz.prog 157 fnsev157 := ⟨_, Tryz.func157, by kernel_rfl, by kernel_rfl, by kernel_rfl, by kernel_rfl, by kernel_rfl, by kernel_rfl⟩
noncomputable def fnsev82 : FnI := ⟨28, Tryz.f82.body.getD .skip, [.tmp 4], []⟩
theorem fnsev82_ok : FnOk Tryz.prog 82 fnsev82 := ⟨_, Tryz.func82, by kernel_rfl, by kernel_rfl, by kernel_rfl, by kernel_rfl, by kernel_rfl, by kernel_rfl⟩
noncomputable def fnsev55 : FnI := ⟨68, Tryz.f55.body.getD .skip, [.tmp 4], []⟩
theorem fnsev55_ok : FnOk Tryz.prog 55 fnsev55 := ⟨_, Tryz.func55, by kernel_rfl, by kernel_rfl, by kernel_rfl, by kernel_rfl, by kernel_rfl, by kernel_rfl⟩
noncomputable def fnsev73 : FnI := ⟨7, Tryz.f73.body.getD .skip, [], []⟩
theorem fnsev73_ok : FnOk Tryz.prog 73 fnsev73 := ⟨_, Tryz.func73, by kernel_rfl, by kernel_rfl, by kernel_rfl, by kernel_rfl, by kernel_rfl, by kernel_rfl⟩
noncomputable def fnsev72 : FnI := ⟨13, Tryz.f72.body.getD .skip, [.cell 2 145], [(1, [(0, true), (1, true), (2, true), (3, true), (4, false), (5, false), (6, false), (7, false), (8, false), (9, false), (10, false)])]⟩
theorem fnsev72_ok : FnOk Tryz.prog 72 fnsev72 := ⟨_, Tryz.func72, by kernel_rfl, by kernel_rfl, by kernel_rfl, by kernel_rfl, by kernel_rfl, by kernel_rfl⟩
noncomputable def fnsev71 : FnI := ⟨39, Tryz.f71.body.getD .skip, [.cell 4 28], []⟩
theorem fnsev71_ok : FnOk Tryz.prog 71 fnsev71 := ⟨_, Tryz.func71, by kernel_rfl, by kernel_rfl, by kernel_rfl, by kernel_rfl, by kernel_rfl, by kernel_rfl⟩
noncomputable def fnsev110 : FnI := ⟨28, Tryz.f110.body.getD .skip, [.tmp 2], []⟩
theorem fnsev110_ok : FnOk Tryz.prog 110 fnsev110 := ⟨_, Tryz.func110, by kernel_rfl, by kernel_rfl, by kernel_rfl, by kernel_rfl, by kernel_rfl, by kernel_rfl⟩
noncomputable def fnsev148 : FnI := ⟨10, Tryz.f148.body.getD .skip, [], []⟩
theorem fnsev148_ok : FnOk Tryz.prog 148 fnsev148 := ⟨_, Tryz.func148, by kernel_rfl, by kernel_rfl, by kernel_rfl, by kernel_rfl, by kernel_rfl, by kernel_rfl⟩
noncomputable def fnsev105 : FnI := ⟨25, Tryz.f105.body.getD .skip, [.tmp 2], []⟩
theorem fnsev105_ok : FnOk Tryz.prog 105 fnsev105 := ⟨_, Tryz.func105, by kernel_rfl, by kernel_rfl, by kernel_rfl, by kernel_rfl, by kernel_rfl, by kernel_rfl⟩
noncomputable def fnsev104 : FnI := ⟨28, Tryz.f104.body.getD .skip, [.tmp 4], []⟩
theorem fnsev104_ok : FnOk Tryz.prog 104 fnsev104 := ⟨_, Tryz.func104, by kernel_rfl, by kernel_rfl, by kernel_rfl, by kernel_rfl, by kernel_rfl, by kernel_rfl⟩
noncomputable def fnsev146 : FnI := ⟨18, Tryz.f146.body.getD .skip, [.tmp 4], []⟩
theorem fnsev146_ok : FnOk Tryz.prog 146 fnsev146 := ⟨_, Tryz.func146, by kernel_rfl, by kernel_rfl, by kernel_rfl, by kernel_rfl, by kernel_rfl, by kernel_rfl⟩
noncomputable def fnsev149 : FnI := ⟨29, Tryz.f149.body.getD .skip, [.tmp 4], []⟩
theorem fnsev149_ok : FnOk Tryz.prog 149 fnsev149 := ⟨_, Tryz.func149, by kernel_rfl, by kernel_rfl, by kernel_rfl, by kernel_rfl, by kernel_rfl, by kernel_rfl⟩
noncomputable def fnsev145 : FnI := ⟨19, Tryz.f145.body.getD .skip, [.tmp 4], []⟩
theorem fnsev145_ok : FnOk Tryz.prog 145 fnsev145 := ⟨_, Tryz.func145, by kernel_rfl, by kernel_rfl, by kernel_rfl, by kernel_rfl, by kernel_rfl, by kernel_rfl⟩
noncomputable def fnsev109 : FnI := ⟨51, Tryz.f109.body.getD .skip, [.tmp 2], []⟩
theorem fnsev109_ok : FnOk Tryz.prog 109 fnsev109 := ⟨_, Tryz.func109, by kernel_rfl, by kernel_rfl, by kernel_rfl, by kernel_rfl, by kernel_rfl, by kernel_rfl⟩
noncomputable def fnsev150 : FnI := ⟨23, Tryz.f150.body.getD .skip, [.cell 4 117], []⟩
theorem fnsev150_ok : FnOk Tryz.prog 150 fnsev150 := ⟨_, Tryz.func150, by kernel_rfl, by kernel_rfl, by kernel_rfl, by kernel_rfl, by kernel_rfl, by kernel_rfl⟩
noncomputable def fnsev107 : FnI := ⟨10, Tryz.f107.body.getD .skip, [], []⟩
theorem fnsev107_ok : FnOk Tryz.prog 107 fnsev107 := ⟨_, Tryz.func107, by kernel_rfl, by kernel_rfl, by kernel_rfl, by kernel_rfl, by kernel_rfl, by kernel_rfl⟩
noncomputable def fnsev186 : FnI := ⟨25, Tryz.f186.body.getD .skip, [.tmp 6], []⟩
theorem fnsev186_ok : FnOk Tryz.prog 186 fnsev186 := ⟨_, Tryz.func186, by kernel_rfl, by kernel_rfl, by kernel_rfl, by kernel_rfl, by kernel_rfl, by kernel_rfl⟩
noncomputable def fnsev204 : FnI := ⟨52, Tryz.f204.body.getD .skip, [.tmp 4, .tmp 5], [(10, [(0, true), (1, true), (2, true), (3, true), (4, false), (5, false)])]⟩
theorem fnsev204_ok : FnOk Tryz.prog 204 fnsev204 := ⟨_, Tryz.func204, by kernel_rfl, by kernel_rfl, by kernel_rfl, by kernel_rfl, by kernel_rfl, by kernel_rfl⟩
noncomputable def fnsev221 : FnI := ⟨56, Tryz.f221.body.getD .skip, [.cell 2 31], []⟩
theorem fnsev221_ok : FnOk Tryz.prog 221 fnsev221 := ⟨_, Tryz.func221, by kernel_rfl, by kernel_rfl, by kernel_rfl, by kernel_rfl, by kernel_rfl, by kernel_rfl⟩
noncomputable def fnsev220 : FnI := ⟨17, Tryz.f220.body.getD .skip, [.cell 2 102], []⟩
theorem fnsev220_ok : FnOk Tryz.prog 220 fnsev220 := ⟨_, Tryz.func220, by kernel_rfl, by kernel_rfl, by kernel_rfl, by kernel_rfl, by kernel_rfl, by kernel_rfl⟩
noncomputable def fnsev222 : FnI := ⟨36, Tryz.f222.body.getD .skip, [.tmp 4, .cell 5 119], [(9, [(0, true), (1, true), (2, false), (3, false)])]⟩
theorem fnsev222_ok : FnOk Tryz.prog 222 fnsev222 := ⟨_, Tryz.func222, by kernel_rfl, by kernel_rfl, by kernel_rfl, by kernel_rfl, by kernel_rfl, by kernel_rfl⟩
noncomputable def fnsev231 : FnI := ⟨15, Tryz.f231.body.getD .skip, [.tmp 2], []⟩
theorem fnsev231_ok : FnOk Tryz.prog 231 fnsev231 := ⟨_, Tryz.func231, by kernel_rfl, by kernel_rfl, by kernel_rfl, by kernel_rfl, by kernel_rfl, by kernel_rfl⟩
noncomputable def fnsev106 : FnI := ⟨23, Tryz.f106.body.getD .skip, [.tmp 2], []⟩
theorem fnsev106_ok : FnOk Tryz.prog 106 fnsev106 := ⟨_, Tryz.func106, by kernel_rfl, by kernel_rfl, by kernel_rfl, by kernel_rfl, by kernel_rfl, by kernel_rfl⟩
noncomputable def fnsev147 : FnI := ⟨24, Tryz.f147.body.getD .skip, [.tmp 2], []⟩
theorem fnsev147_ok : FnOk Tryz.prog 147 fnsev147 := ⟨_, Tryz.func147, by kernel_rfl, by kernel_rfl, by kernel_rfl, by kernel_rfl, by kernel_rfl, by kernel_rfl⟩
noncomputable def fnsev185 : FnI := ⟨20, Tryz.f185.body.getD .skip, [.tmp 2], []⟩
theorem fnsev185_ok : FnOk Tryz.prog 185 fnsev185 := ⟨_, Tryz.func185, by kernel_rfl, by kernel_rfl, by kernel_rfl, by kernel_rfl, by kernel_rfl, by kernel_rfl⟩
noncomputable def fnsev203 : FnI := ⟨32, Tryz.f203.body.getD .skip, [.cell 2 104], []⟩
theorem fnsev203_ok : FnOk Tryz.prog 203 fnsev203 := ⟨_, Tryz.func203, by kernel_rfl, by kernel_rfl, by kernel_rfl, by kernel_rfl, by kernel_rfl, by kernel_rfl⟩
noncomputable def fnsev108 : FnI := ⟨33, Tryz.f108.body.getD .skip, [.tmp 4], []⟩
theorem fnsev108_ok : FnOk Tryz.prog 108 fnsev108 := ⟨_, Tryz.func108, by kernel_rfl, by kernel_rfl, by kernel_rfl, by kernel_rfl, by kernel_rfl, by kernel_rfl⟩
noncomputable def fnsev70 : FnI := ⟨52, Tryz.f70.body.getD .skip, [.tmp 2, .tmp 3, .tmp 4], []⟩
theorem fnsev70_ok : FnOk Tryz.prog 70 fnsev70 := ⟨_, Tryz.func70, by kernel_rfl, by kernel_rfl, by kernel_rfl, by kernel_rfl, by kernel_rfl, by kernel_rfl⟩
noncomputable def fnsev103 : FnI := ⟨106, Tryz.f103.body.getD .skip, [.cell 2 145, .tmp 3], [(30, [(0, true), (1, true), (2, false), (3, false), (4, false), (5, false), (6, false)])]⟩
theorem fnsev103_ok : FnOk Tryz.prog 103 fnsev103 := ⟨_, Tryz.func103, by kernel_rfl, by kernel_rfl, by kernel_rfl, by kernel_rfl, by kernel_rfl, by kernel_rfl⟩
noncomputable def fnsev143 : FnI := ⟨50, Tryz.f143.body.getD .skip, [.tmp 2, .tmp 3], []⟩
theorem fnsev143_ok : FnOk Tryz.prog 143 fnsev143 := ⟨_, Tryz.func143, by kernel_rfl, by kernel_rfl, by kernel_rfl, by kernel_rfl, by kernel_rfl, by kernel_rfl⟩
noncomputable def fnsev183 : FnI := ⟨38, Tryz.f183.body.getD .skip, [.tmp 2, .tmp 3], [(3, [(0, true), (1, true), (4, true), (5, true), (2, false), (3, true), (6, false), (7, false), (8, false), (9, false)])]⟩
theorem fnsev183_ok : FnOk Tryz.prog 183 fnsev183 := ⟨_, Tryz.func183, by kernel_rfl, by kernel_rfl, by kernel_rfl, by kernel_rfl, by kernel_rfl, by kernel_rfl⟩
noncomputable def fnsev182 : FnI := ⟨17, Tryz.f182.body.getD .skip, [.tmp 2], []⟩
theorem fnsev182_ok : FnOk Tryz.prog 182 fnsev182 := ⟨_, Tryz.func182, by kernel_rfl, by kernel_rfl, by kernel_rfl, by kernel_rfl, by kernel_rfl, by kernel_rfl⟩
noncomputable def fnsev201 : FnI := ⟨20, Tryz.f201.body.getD .skip, [.tmp 2], []⟩
theorem fnsev201_ok : FnOk Tryz.prog 201 fnsev201 := ⟨_, Tryz.func201, by kernel_rfl, by kernel_rfl, by kernel_rfl, by kernel_rfl, by kernel_rfl, by kernel_rfl⟩
noncomputable def fnsev141 : FnI := ⟨9, Tryz.f141.body.getD .skip, [.tmp 2], []⟩
theorem fnsev141_ok : FnOk Tryz.prog 141 fnsev141 := ⟨_, Tryz.func141, by kernel_rfl, by kernel_rfl, by kernel_rfl, by kernel_rfl, by kernel_rfl, by kernel_rfl⟩
noncomputable def fnsev142 : FnI := ⟨35, Tryz.f142.body.getD .skip, [.tmp 4, .tmp 5], []⟩
theorem fnsev142_ok : FnOk Tryz.prog 142 fnsev142 := ⟨_, Tryz.func142, by kernel_rfl, by kernel_rfl, by kernel_rfl, by kernel_rfl, by kernel_rfl, by kernel_rfl⟩
noncomputable def fnsev179 : FnI := ⟨20, Tryz.f179.body.getD .skip, [.tmp 4], []⟩
theorem fnsev179_ok : FnOk Tryz.prog 179 fnsev179 := ⟨_, Tryz.func179, by kernel_rfl, by kernel_rfl, by kernel_rfl, by kernel_rfl, by kernel_rfl, by kernel_rfl⟩
noncomputable def fnsev140 : FnI := ⟨12, Tryz.f140.body.getD .skip, [.tmp 2], []⟩
theorem fnsev140_ok : FnOk Tryz.prog 140 fnsev140 := ⟨_, Tryz.func140, by kernel_rfl, by kernel_rfl, by kernel_rfl, by kernel_rfl, by kernel_rfl, by kernel_rfl⟩
noncomputable def fnsev180 : FnI := ⟨17, Tryz.f180.body.getD .skip, [.tmp 2], []⟩
theorem fnsev180_ok : FnOk Tryz.prog 180 fnsev180 := ⟨_, Tryz.func180, by kernel_rfl, by kernel_rfl, by kernel_rfl, by kernel_rfl, by kernel_rfl, by kernel_rfl⟩
noncomputable def fnsev15 : FnI := ⟨17, Tryz.f15.body.getD .skip, [.tmp 4], []⟩
theorem fnsev15_ok : FnOk Tryz.prog 15 fnsev15 := ⟨_, Tryz.func15, by kernel_rfl, by kernel_rfl, by kernel_rfl, by kernel_rfl, by kernel_rfl, by kernel_rfl⟩
noncomputable def fnsev39 : FnI := ⟨26, Tryz.f39.body.getD .skip, [.tmp 4], [(6, [(0, true), (1, true), (2, true), (3, true), (4, true), (5, false), (6, false), (7, false), (8, false)])]⟩
theorem fnsev39_ok : FnOk Tryz.prog 39 fnsev39 := ⟨_, Tryz.func39, by kernel_rfl, by kernel_rfl, by kernel_rfl, by kernel_rfl, by kernel_rfl, by kernel_rfl⟩
noncomputable def fnsev12 : FnI := ⟨13, Tryz.f12.body.getD .skip, [.cell 4 44, .tmp 5], []⟩
theorem fnsev12_ok : FnOk Tryz.prog 12 fnsev12 := ⟨_, Tryz.func12, by kernel_rfl, by kernel_rfl, by kernel_rfl, by kernel_rfl, by kernel_rfl, by kernel_rfl⟩
noncomputable def fnsev35 : FnI := ⟨50, Tryz.f35.body.getD .skip, [.cell 4 44], []⟩
theorem fnsev35_ok : FnOk Tryz.prog 35 fnsev35 := ⟨_, Tryz.func35, by kernel_rfl, by kernel_rfl, by kernel_rfl, by kernel_rfl, by kernel_rfl, by kernel_rfl⟩
noncomputable def fnsev59 : FnI := ⟨84, Tryz.f59.body.getD .skip, [.cell 6 44], [(22, [(0, true), (1, true), (2, true), (3, true), (4, false), (5, false), (6, false), (7, false), (8, false)])]⟩
theorem fnsev59_ok : FnOk Tryz.prog 59 fnsev59 := ⟨_, Tryz.func59, by kernel_rfl, by kernel_rfl, by kernel_rfl, by kernel_rfl, by kernel_rfl, by kernel_rfl⟩
noncomputable def fnsev90 : FnI := ⟨36, Tryz.f90.body.getD .skip, [.tmp 4], []⟩
theorem fnsev90_ok : FnOk Tryz.prog 90 fnsev90 := ⟨_, Tryz.func90, by kernel_rfl, by kernel_rfl, by kernel_rfl, by kernel_rfl, by kernel_rfl, by kernel_rfl⟩
noncomputable def fnsev89 : FnI := ⟨9, Tryz.f89.body.getD .skip, [.tmp 2], []⟩
theorem fnsev89_ok : FnOk Tryz.prog 89 fnsev89 := ⟨_, Tryz.func89, by kernel_rfl, by kernel_rfl, by kernel_rfl, by kernel_rfl, by kernel_rfl, by kernel_rfl⟩
noncomputable def fnsev88 : FnI := ⟨49, Tryz.f88.body.getD .skip, [.tmp 4, .tmp 5], []⟩
theorem fnsev88_ok : FnOk Tryz.prog 88 fnsev88 := ⟨_, Tryz.func88, by kernel_rfl, by kernel_rfl, by kernel_rfl, by kernel_rfl, by kernel_rfl, by kernel_rfl⟩
noncomputable def fnsev125 : FnI := ⟨12, Tryz.f125.body.getD .skip, [.tmp 6], []⟩
theorem fnsev125_ok : FnOk Tryz.prog 125 fnsev125 := ⟨_, Tryz.func125, by kernel_rfl, by kernel_rfl, by kernel_rfl, by kernel_rfl, by kernel_rfl, by kernel_rfl⟩
noncomputable def fnsev168 : FnI := ⟨9, Tryz.f168.body.getD .skip, [.tmp 4], []⟩
theorem fnsev168_ok : FnOk Tryz.prog 168 fnsev168 := ⟨_, Tryz.func168, by kernel_rfl, by kernel_rfl, by kernel_rfl, by kernel_rfl, by kernel_rfl, by kernel_rfl⟩
noncomputable def fnsev192 : FnI := ⟨19, Tryz.f192.body.getD .skip, [.tmp 4], []⟩
theorem fnsev192_ok : FnOk Tryz.prog 192 fnsev192 := ⟨_, Tryz.func192, by kernel_rfl, by kernel_rfl, by kernel_rfl, by kernel_rfl, by kernel_rfl, by kernel_rfl⟩
noncomputable def fnsev124 : FnI := ⟨20, Tryz.f124.body.getD .skip, [.tmp 2], []⟩
theorem fnsev124_ok : FnOk Tryz.prog 124 fnsev124 := ⟨_, Tryz.func124, by kernel_rfl, by kernel_rfl, by kernel_rfl, by kernel_rfl, by kernel_rfl, by kernel_rfl⟩
noncomputable def fnsev167 : FnI := ⟨31, Tryz.f167.body.getD .skip, [.tmp 6], []⟩
theorem fnsev167_ok : FnOk Tryz.prog 167 fnsev167 := ⟨_, Tryz.func167, by kernel_rfl, by kernel_rfl, by kernel_rfl, by kernel_rfl, by kernel_rfl, by kernel_rfl⟩
noncomputable def fnsev120 : FnI := ⟨26, Tryz.f120.body.getD .skip, [.tmp 4], []⟩
theorem fnsev120_ok : FnOk Tryz.prog 120 fnsev120 := ⟨_, Tryz.func120, by kernel_rfl, by kernel_rfl, by kernel_rfl, by kernel_rfl, by kernel_rfl, by kernel_rfl⟩
noncomputable def fnsev163 : FnI := ⟨8, Tryz.f163.body.getD .skip, [.tmp 4], []⟩
theorem fnsev163_ok : FnOk Tryz.prog 163 fnsev163 := ⟨_, Tryz.func163, by kernel_rfl, by kernel_rfl, by kernel_rfl, by kernel_rfl, by kernel_rfl, by kernel_rfl⟩
noncomputable def fnsev162 : FnI := ⟨10, Tryz.f162.body.getD .skip, [.tmp 2, .tmp 3], []⟩
theorem fnsev162_ok : FnOk Tryz.prog 162 fnsev162 := ⟨_, Tryz.func162, by kernel_rfl, by kernel_rfl, by kernel_rfl, by kernel_rfl, by kernel_rfl, by kernel_rfl⟩
noncomputable def fnsev166 : FnI := ⟨13, Tryz.f166.body.getD .skip, [.tmp 2], []⟩
theorem fnsev166_ok : FnOk Tryz.prog 166 fnsev166 := ⟨_, Tryz.func166, by kernel_rfl, by kernel_rfl, by kernel_rfl, by kernel_rfl, by kernel_rfl, by kernel_rfl⟩
noncomputable def fnsev123 : FnI := ⟨12, Tryz.f123.body.getD .skip, [.tmp 2], []⟩
theorem fnsev123_ok : FnOk Tryz.prog 123 fnsev123 := ⟨_, Tryz.func123, by kernel_rfl, by kernel_rfl, by kernel_rfl, by kernel_rfl, by kernel_rfl, by kernel_rfl⟩
noncomputable def fnsev165 : FnI := ⟨5, Tryz.f165.body.getD .skip, [.tmp 2], []⟩
theorem fnsev165_ok : FnOk Tryz.prog 165 fnsev165 := ⟨_, Tryz.func165, by kernel_rfl, by kernel_rfl, by kernel_rfl, by kernel_rfl, by kernel_rfl, by kernel_rfl⟩
noncomputable def fnsev164 : FnI := ⟨19, Tryz.f164.body.getD .skip, [.tmp 4], []⟩
theorem fnsev164_ok : FnOk Tryz.prog 164 fnsev164 := ⟨_, Tryz.func164, by kernel_rfl, by kernel_rfl, by kernel_rfl, by kernel_rfl, by kernel_rfl, by kernel_rfl⟩
noncomputable def fnsev122 : FnI := ⟨13, Tryz.f122.body.getD .skip, [.tmp 2], []⟩
theorem fnsev122_ok : FnOk Tryz.prog 122 fnsev122 := ⟨_, Tryz.func122, by kernel_rfl, by kernel_rfl, by kernel_rfl, by kernel_rfl, by kernel_rfl, by kernel_rfl⟩
noncomputable def fnsev121 : FnI := ⟨29, Tryz.f121.body.getD .skip, [.tmp 2], []⟩
theorem fnsev121_ok : FnOk Tryz.prog 121 fnsev121 := ⟨_, Tryz.func121, by kernel_rfl, by kernel_rfl, by kernel_rfl, by kernel_rfl, by kernel_rfl, by kernel_rfl⟩
noncomputable def fnsev119 : FnI := ⟨6, Tryz.f119.body.getD .skip, [.tmp 2], []⟩
theorem fnsev119_ok : FnOk Tryz.prog 119 fnsev119 := ⟨_, Tryz.func119, by kernel_rfl, by kernel_rfl, by kernel_rfl, by kernel_rfl, by kernel_rfl, by kernel_rfl⟩
noncomputable def fnsev161 : FnI := ⟨16, Tryz.f161.body.getD .skip, [.tmp 2], []⟩
theorem fnsev161_ok : FnOk Tryz.prog 161 fnsev161 := ⟨_, Tryz.func161, by kernel_rfl, by kernel_rfl, by kernel_rfl, by kernel_rfl, by kernel_rfl, by kernel_rfl⟩
noncomputable def fnsev58 : FnI := ⟨15, Tryz.f58.body.getD .skip, [.cell 4 44], [(1, [(0, true), (1, true), (2, true), (3, true), (5, true), (6, true), (7, true), (4, false), (8, false), (9, false), (10, false)])]⟩
theorem fnsev58_ok : FnOk Tryz.prog 58 fnsev58 := ⟨_, Tryz.func58, by kernel_rfl, by kernel_rfl, by kernel_rfl, by kernel_rfl, by kernel_rfl, by kernel_rfl⟩
noncomputable def fnsev87 : FnI := ⟨38, Tryz.f87.body.getD .skip, [.cell 6 44], []⟩
theorem fnsev87_ok : FnOk Tryz.prog 87 fnsev87 := ⟨_, Tryz.func87, by kernel_rfl, by kernel_rfl, by kernel_rfl, by kernel_rfl, by kernel_rfl, by kernel_rfl⟩
noncomputable def fnsev76 : FnI := ⟨26, Tryz.f76.body.getD .skip, [.tmp 4], []⟩
theorem fnsev76_ok : FnOk Tryz.prog 76 fnsev76 := ⟨_, Tryz.func76, by kernel_rfl, by kernel_rfl, by kernel_rfl, by kernel_rfl, by kernel_rfl, by kernel_rfl⟩
noncomputable def fnsev112 : FnI := ⟨15, Tryz.f112.body.getD .skip, [.tmp 4], []⟩
theorem fnsev112_ok : FnOk Tryz.prog 112 fnsev112 := ⟨_, Tryz.func112, by kernel_rfl, by kernel_rfl, by kernel_rfl, by kernel_rfl, by kernel_rfl, by kernel_rfl⟩
noncomputable def fnsev111 : FnI := ⟨51, Tryz.f111.body.getD .skip, [.cell 4 31, .tmp 5], [(8, [(0, true), (1, true), (2, true), (3, true), (4, true), (5, true), (6, true), (7, false), (8, false), (9, false), (10, false), (11, false)]), (10, [(0, true), (1, true), (2, true), (3, true), (4, true), (5, true), (6, true), (7, true), (8, false), (9, false)])]⟩
theorem fnsev111_ok : FnOk Tryz.prog 111 fnsev111 := ⟨_, Tryz.func111, by kernel_rfl, by kernel_rfl, by kernel_rfl, by kernel_rfl, by kernel_rfl, by kernel_rfl⟩
noncomputable def fnsev152 : FnI := ⟨122, Tryz.f152.body.getD .skip, [.cell 6 200], [(28, [(0, true), (1, true), (2, true), (3, true), (4, false), (5, false), (6, false), (7, false), (8, false), (9, false), (10, false)])]⟩
theorem fnsev152_ok : FnOk Tryz.prog 152 fnsev152 := ⟨_, Tryz.func152, by kernel_rfl, by kernel_rfl, by kernel_rfl, by kernel_rfl, by kernel_rfl, by kernel_rfl⟩
noncomputable def fnsev189 : FnI := ⟨111, Tryz.f189.body.getD .skip, [.cell 4 31, .tmp 5], [(5, [(0, true), (1, true), (2, true), (3, true), (4, false), (5, false), (6, false), (7, false), (8, false)]), (7, [(0, true), (1, true), (2, true), (3, false), (4, false), (5, false), (6, false), (7, false), (8, false), (9, false)]), (9, [(0, true), (1, true), (2, true), (3, false), (4, false), (5, false), (6, false), (7, false), (8, true), (9, true), (10, false), (11, false)])]⟩
theorem fnsev189_ok : FnOk Tryz.prog 189 fnsev189 := ⟨_, Tryz.func189, by kernel_rfl, by kernel_rfl, by kernel_rfl, by kernel_rfl, by kernel_rfl, by kernel_rfl⟩
noncomputable def fnsev212 : FnI := ⟨18, Tryz.f212.body.getD .skip, [.tmp 4], []⟩
theorem fnsev212_ok : FnOk Tryz.prog 212 fnsev212 := ⟨_, Tryz.func212, by kernel_rfl, by kernel_rfl, by kernel_rfl, by kernel_rfl, by kernel_rfl, by kernel_rfl⟩
noncomputable def fnsev211 : FnI := ⟨36, Tryz.f211.body.getD .skip, [.tmp 4, .tmp 5], []⟩
theorem fnsev211_ok : FnOk Tryz.prog 211 fnsev211 := ⟨_, Tryz.func211, by kernel_rfl, by kernel_rfl, by kernel_rfl, by kernel_rfl, by kernel_rfl, by kernel_rfl⟩
noncomputable def fnsev210 : FnI := ⟨27, Tryz.f210.body.getD .skip, [.tmp 4, .tmp 5], []⟩
theorem fnsev210_ok : FnOk Tryz.prog 210 fnsev210 := ⟨_, Tryz.func210, by kernel_rfl, by kernel_rfl, by kernel_rfl, by kernel_rfl, by kernel_rfl, by kernel_rfl⟩
noncomputable def fnsev209 : FnI := ⟨27, Tryz.f209.body.getD .skip, [.tmp 4, .tmp 5], []⟩
theorem fnsev209_ok : FnOk Tryz.prog 209 fnsev209 := ⟨_, Tryz.func209, by kernel_rfl, by kernel_rfl, by kernel_rfl, by kernel_rfl, by kernel_rfl, by kernel_rfl⟩
noncomputable def fnsev208 : FnI := ⟨31, Tryz.f208.body.getD .skip, [.cell 4 31, .tmp 5], [(3, [(0, true), (1, true), (2, true), (3, true), (4, true), (5, false), (6, false), (7, false), (8, false), (9, false), (10, false), (11, true), (12, true), (13, false), (14, false)])]⟩
theorem fnsev208_ok : FnOk Tryz.prog 208 fnsev208 := ⟨_, Tryz.func208, by kernel_rfl, by kernel_rfl, by kernel_rfl, by kernel_rfl, by kernel_rfl, by kernel_rfl⟩
noncomputable def fnsev153 : FnI := ⟨40, Tryz.f153.body.getD .skip, [.tmp 4, .tmp 5], []⟩
theorem fnsev153_ok : FnOk Tryz.prog 153 fnsev153 := ⟨_, Tryz.func153, by kernel_rfl, by kernel_rfl, by kernel_rfl, by kernel_rfl, by kernel_rfl, by kernel_rfl⟩
noncomputable def fnsev190 : FnI := ⟨9, Tryz.f190.body.getD .skip, [.tmp 2], []⟩
theorem fnsev190_ok : FnOk Tryz.prog 190 fnsev190 := ⟨_, Tryz.func190, by kernel_rfl, by kernel_rfl, by kernel_rfl, by kernel_rfl, by kernel_rfl, by kernel_rfl⟩
noncomputable def fnsev207 : FnI := ⟨8, Tryz.f207.body.getD .skip, [.cell 2 31], []⟩
theorem fnsev207_ok : FnOk Tryz.prog 207 fnsev207 := ⟨_, Tryz.func207, by kernel_rfl, by kernel_rfl, by kernel_rfl, by kernel_rfl, by kernel_rfl, by kernel_rfl⟩
noncomputable def fnsev206 : FnI := ⟨32, Tryz.f206.body.getD .skip, [.tmp 4], []⟩
theorem fnsev206_ok : FnOk Tryz.prog 206 fnsev206 := ⟨_, Tryz.func206, by kernel_rfl, by kernel_rfl, by kernel_rfl, by kernel_rfl, by kernel_rfl, by kernel_rfl⟩
noncomputable def fnsev188 : FnI := ⟨8, Tryz.f188.body.getD .skip, [.tmp 4], []⟩
theorem fnsev188_ok : FnOk Tryz.prog 188 fnsev188 := ⟨_, Tryz.func188, by kernel_rfl, by kernel_rfl, by kernel_rfl, by kernel_rfl, by kernel_rfl, by kernel_rfl⟩
noncomputable def fnsev205 : FnI := ⟨9, Tryz.f205.body.getD .skip, [.tmp 4], []⟩
theorem fnsev205_ok : FnOk Tryz.prog 205 fnsev205 := ⟨_, Tryz.func205, by kernel_rfl, by kernel_rfl, by kernel_rfl, by kernel_rfl, by kernel_rfl, by kernel_rfl⟩
noncomputable def fnsev223 : FnI := ⟨19, Tryz.f223.body.getD .skip, [.tmp 4], [(4, [(0, true), (1, true), (2, false), (3, false), (4, false), (5, false)])]⟩
theorem fnsev223_ok : FnOk Tryz.prog 223 fnsev223 := ⟨_, Tryz.func223, by kernel_rfl, by kernel_rfl, by kernel_rfl, by kernel_rfl, by kernel_rfl, by kernel_rfl⟩
noncomputable def fnsev187 : FnI := ⟨10, Tryz.f187.body.getD .skip, [.cell 2 200], []⟩
theorem fnsev187_ok : FnOk Tryz.prog 187 fnsev187 := ⟨_, Tryz.func187, by kernel_rfl, by kernel_rfl, by kernel_rfl, by kernel_rfl, by kernel_rfl, by kernel_rfl⟩
noncomputable def fnsev113 : FnI := ⟨30, Tryz.f113.body.getD .skip, [.tmp 4, .tmp 5], []⟩
theorem fnsev113_ok : FnOk Tryz.prog 113 fnsev113 := ⟨_, Tryz.func113, by kernel_rfl, by kernel_rfl, by kernel_rfl, by kernel_rfl, by kernel_rfl, by kernel_rfl⟩
noncomputable def fnsev38 : FnI := ⟨8, Tryz.f38.body.getD .skip, [.tmp 2], []⟩
theorem fnsev38_ok : FnOk Tryz.prog 38 fnsev38 := ⟨_, Tryz.func38, by kernel_rfl, by kernel_rfl, by kernel_rfl, by kernel_rfl, by kernel_rfl, by kernel_rfl⟩
noncomputable def fnsev31 : FnI := ⟨10, Tryz.f31.body.getD .skip, [.tmp 6], []⟩
theorem fnsev31_ok : FnOk Tryz.prog 31 fnsev31 := ⟨_, Tryz.func31, by kernel_rfl, by kernel_rfl, by kernel_rfl, by kernel_rfl, by kernel_rfl, by kernel_rfl⟩
noncomputable def fnsev53 : FnI := ⟨19, Tryz.f53.body.getD .skip, [.tmp 4], []⟩
theorem fnsev53_ok : FnOk Tryz.prog 53 fnsev53 := ⟨_, Tryz.func53, by kernel_rfl, by kernel_rfl, by kernel_rfl, by kernel_rfl, by kernel_rfl, by kernel_rfl⟩
noncomputable def fnsev54 : FnI := ⟨15, Tryz.f54.body.getD .skip, [.tmp 4], []⟩
theorem fnsev54_ok : FnOk Tryz.prog 54 fnsev54 := ⟨_, Tryz.func54, by kernel_rfl, by kernel_rfl, by kernel_rfl, by kernel_rfl, by kernel_rfl, by kernel_rfl⟩
noncomputable def fnsev151 : FnI := ⟨11, Tryz.f151.body.getD .skip, [.tmp 2], []⟩
theorem fnsev151_ok : FnOk Tryz.prog 151 fnsev151 := ⟨_, Tryz.func151, by kernel_rfl, by kernel_rfl, by kernel_rfl, by kernel_rfl, by kernel_rfl, by kernel_rfl⟩
noncomputable def fnsev57 : FnI := ⟨34, Tryz.f57.body.getD .skip, [.tmp 4], []⟩
theorem fnsev57_ok : FnOk Tryz.prog 57 fnsev57 := ⟨_, Tryz.func57, by kernel_rfl, by kernel_rfl, by kernel_rfl, by kernel_rfl, by kernel_rfl, by kernel_rfl⟩
noncomputable def fnsev86 : FnI := ⟨21, Tryz.f86.body.getD .skip, [.tmp 4], []⟩
theorem fnsev86_ok : FnOk Tryz.prog 86 fnsev86 := ⟨_, Tryz.func86, by kernel_rfl, by kernel_rfl, by kernel_rfl, by kernel_rfl, by kernel_rfl, by kernel_rfl⟩
noncomputable def fnsev77 : FnI := ⟨38, Tryz.f77.body.getD .skip, [.tmp 4], []⟩
theorem fnsev77_ok : FnOk Tryz.prog 77 fnsev77 := ⟨_, Tryz.func77, by kernel_rfl, by kernel_rfl, by kernel_rfl, by kernel_rfl, by kernel_rfl, by kernel_rfl⟩
noncomputable def fnsev114 : FnI := ⟨42, Tryz.f114.body.getD .skip, [.tmp 4, .tmp 5], []⟩
theorem fnsev114_ok : FnOk Tryz.prog 114 fnsev114 := ⟨_, Tryz.func114, by kernel_rfl, by kernel_rfl, by kernel_rfl, by kernel_rfl, by kernel_rfl, by kernel_rfl⟩
noncomputable def FnsEvF : List (FuncId × FnI) := [(34, fnsev34),
  (33, fnsev33),
  (41, fnsev41),
  (74, fnsev74),
  (10, fnsev10),
  (32, fnsev32),
  (56, fnsev56),
  (84, fnsev84),
  (29, fnsev29),
  (85, fnsev85),
  (118, fnsev118),
  (160, fnsev160),
  (169, fnsev169),
  (52, fnsev52),
  (159, fnsev159),
  (83, fnsev83),
  (117, fnsev117),
  (158, fnsev158),
  (191, fnsev191),
  (157, fnsev157),
  (82, fnsev82),
  (55, fnsev55),
  (73, fnsev73),
  (72, fnsev72),
  (71, fnsev71),
  (110, fnsev110),
  (148, fnsev148),
  (105, fnsev105),
  (104, fnsev104),
  (146, fnsev146),
  (149, fnsev149),
  (145, fnsev145),
  (109, fnsev109),
  (150, fnsev150),
  (107, fnsev107),
  (186, fnsev186),
  (204, fnsev204),
  (221, fnsev221),
  (220, fnsev220),
  (222, fnsev222),
  (231, fnsev231),
  (106, fnsev106),
  (147, fnsev147),
  (185, fnsev185),
  (203, fnsev203),
  (108, fnsev108),
  (70, fnsev70),
  (103, fnsev103),
  (143, fnsev143),
  (183, fnsev183),
  (182, fnsev182),
  (201, fnsev201),
  (141, fnsev141),
  (142, fnsev142),
  (179, fnsev179),
  (140, fnsev140),
  (180, fnsev180),
  (15, fnsev15),
  (39, fnsev39),
  (12, fnsev12),
  (35, fnsev35),
  (59, fnsev59),
  (90, fnsev90),
  (89, fnsev89),
  (88, fnsev88),
  (125, fnsev125),
  (168, fnsev168),
  (192, fnsev192),
  (124, fnsev124),
  (167, fnsev167),
  (120, fnsev120),
  (163, fnsev163),
  (162, fnsev162),
  (166, fnsev166),
  (123, fnsev123),
  (165, fnsev165),
  (164, fnsev164),
  (122, fnsev122),
  (121, fnsev121),
  (119, fnsev119),
  (161, fnsev161),
  (58, fnsev58),
  (87, fnsev87),
  (76, fnsev76),
  (112, fnsev112),
  (111, fnsev111),
  (152, fnsev152),
  (189, fnsev189),
  (212, fnsev212),
  (211, fnsev211),
  (210, fnsev210),
  (209, fnsev209),
  (208, fnsev208),
  (153, fnsev153),
  (190, fnsev190),
  (207, fnsev207),
  (206, fnsev206),
  (188, fnsev188),
  (205, fnsev205),
  (223, fnsev223),
  (187, fnsev187),
  (113, fnsev113),
  (38, fnsev38),
  (31, fnsev31),
  (53, fnsev53),
  (54, fnsev54),
  (151, fnsev151),
  (57, fnsev57),
  (86, fnsev86),
  (77, fnsev77),
  (114, fnsev114)]
theorem zZ (C : FuncId → List PV → Option SV) : FOk Tryz.prog ⟨TTab, FnsEvF, C⟩ := qf fnsev34_ok <|
  qf fnsev33_ok <|
  qf fnsev41_ok <|
  qf fnsev74_ok <|
  qf fnsev10_ok <|
  qf fnsev32_ok <|
  qf fnsev56_ok <|
  qf fnsev84_ok <|
  qf fnsev29_ok <|
  qf fnsev85_ok <|
  qf fnsev118_ok <|
  qf fnsev160_ok <|
  qf fnsev169_ok <|
  qf fnsev52_ok <|
  qf fnsev159_ok <|
  qf fnsev83_ok <|
  qf fnsev117_ok <|
  qf fnsev158_ok <|
  qf fnsev191_ok <|
  qf fnsev157_ok <|
  qf fnsev82_ok <|
  qf fnsev55_ok <|
  qf fnsev73_ok <|
  qf fnsev72_ok <|
  qf fnsev71_ok <|
  qf fnsev110_ok <|
  qf fnsev148_ok <|
  qf fnsev105_ok <|
  qf fnsev104_ok <|
  qf fnsev146_ok <|
  qf fnsev149_ok <|
  qf fnsev145_ok <|
  qf fnsev109_ok <|
  qf fnsev150_ok <|
  qf fnsev107_ok <|
  qf fnsev186_ok <|
  qf fnsev204_ok <|
  qf fnsev221_ok <|
  qf fnsev220_ok <|
  qf fnsev222_ok <|
  qf fnsev231_ok <|
  qf fnsev106_ok <|
  qf fnsev147_ok <|
  qf fnsev185_ok <|
  qf fnsev203_ok <|
  qf fnsev108_ok <|
  qf fnsev70_ok <|
  qf fnsev103_ok <|
  qf fnsev143_ok <|
  qf fnsev183_ok <|
  qf fnsev182_ok <|
  qf fnsev201_ok <|
  qf fnsev141_ok <|
  qf fnsev142_ok <|
  qf fnsev179_ok <|
  qf fnsev140_ok <|
  qf fnsev180_ok <|
  qf fnsev15_ok <|
  qf fnsev39_ok <|
  qf fnsev12_ok <|
  qf fnsev35_ok <|
  qf fnsev59_ok <|
  qf fnsev90_ok <|
  qf fnsev89_ok <|
  qf fnsev88_ok <|
  qf fnsev125_ok <|
  qf fnsev168_ok <|
  qf fnsev192_ok <|
  qf fnsev124_ok <|
  qf fnsev167_ok <|
  qf fnsev120_ok <|
  qf fnsev163_ok <|
  qf fnsev162_ok <|
  qf fnsev166_ok <|
  qf fnsev123_ok <|
  qf fnsev165_ok <|
  qf fnsev164_ok <|
  qf fnsev122_ok <|
  qf fnsev121_ok <|
  qf fnsev119_ok <|
  qf fnsev161_ok <|
  qf fnsev58_ok <|
  qf fnsev87_ok <|
  qf fnsev76_ok <|
  qf fnsev112_ok <|
  qf fnsev111_ok <|
  qf fnsev152_ok <|
  qf fnsev189_ok <|
  qf fnsev212_ok <|
  qf fnsev211_ok <|
  qf fnsev210_ok <|
  qf fnsev209_ok <|
  qf fnsev208_ok <|
  qf fnsev153_ok <|
  qf fnsev190_ok <|
  qf fnsev207_ok <|
  qf fnsev206_ok <|
  qf fnsev188_ok <|
  qf fnsev205_ok <|
  qf fnsev223_ok <|
  qf fnsev187_ok <|
  qf fnsev113_ok <|
  qf fnsev38_ok <|
  qf fnsev31_ok <|
  qf fnsev53_ok <|
  qf fnsev54_ok <|
  qf fnsev151_ok <|
  qf fnsev57_ok <|
  qf fnsev86_ok <|
  qf fnsev77_ok <|
  qf fnsev114_ok <| fok_nil
end Go.Proofs.YtlmgamnpfdgdeaaGreatDoor
namespace Go.Proofs.YtlmgamnpfdgdeaaGreatDoor
set_option linter.unusedVariables false
set_option linter.unusedSimpArgs false
open Go.RowKit
set_option maxHeartbeats 2000000
set_option maxRecDepth 100000
theorem evRead : Holds Tryz.prog 33 [.v (.string ⟨#[112, 111, 108, 105, 99, 121, 32, 112, 32, 100, 101, 110, 121, 111, 118, 101, 114, 32, 123, 32, 112, 101, 114, 109, 105, 116, 32, 114, 32, 111, 110, 32, 112, 101, 114, 109, 105, 116, 32, 108, 111, 103, 32, 97, 59, 32, 100, 101, 110, 121, 32, 100, 32, 119, 104, 101, 110, 32, 40, 99, 97, 115, 101, 46, 120, 32, 61, 32, 49, 41, 32, 111, 110, 32, 100, 101, 110, 121, 32, 110, 111, 116, 105, 102, 121, 32, 98, 59, 32, 125, 32, 111, 110, 32, 112, 101, 114, 109, 105, 116, 32, 114, 101, 118, 105, 101, 119, 32, 99]⟩)] (.agg [.p (.v (.string ⟨#[112]⟩)), .p (.v (.bool false)), .p (.v (.int .i64 1)), .p (.v (.slice none 0 0)), .row 1, .p (.v (.slice none 0 0)), .row 0]) [(0, .row 79 3 [[(.v (.int .i64 1)), (.v (.int .i64 3)), (.v (.string ⟨#[99]⟩))]]), (1, .row 117 5 [[(.v (.string ⟨#[114]⟩)), (.v (.bool false)), (.v (.slice none 0 0)), (.v (.slice none 0 0)), (.sl 3 [[(.v (.int .i64 1)), (.v (.int .i64 1)), (.v (.string ⟨#[97]⟩))]])], [(.v (.string ⟨#[100]⟩)), (.v (.bool true)), (.sl 1 [[(.sl 1 [[(.sl 7 [[(.v (.int .i64 3)), (.v (.string ⟨#[120]⟩)), (.v (.bool false)), (.v (.int .i64 1)), (.v (.int .i64 2)), (.v (.int .i64 1)), (.v (.string ⟨#[]⟩))]])]])]]), (.v (.slice none 0 0)), (.sl 3 [[(.v (.int .i64 2)), (.v (.int .i64 4)), (.v (.string ⟨#[98]⟩))]])]])] :=
  .ofW (zu (n := 5000) qa (zr _) (zZ ctab) (by kernel_rfl) (by kernel_rfl))
theorem evPol0 : Holds Tryz.prog 12 [(.agg [(.v (.string ⟨#[112]⟩)), (.v (.bool false)), (.v (.int .i64 1)), (.v (.slice none 0 0)), (.sl 5 [[(.v (.string ⟨#[114]⟩)), (.v (.bool false)), (.v (.slice none 0 0)), (.v (.slice none 0 0)), (.sl 3 [[(.v (.int .i64 1)), (.v (.int .i64 1)), (.v (.string ⟨#[97]⟩))]])], [(.v (.string ⟨#[100]⟩)), (.v (.bool true)), (.sl 1 [[(.sl 1 [[(.sl 7 [[(.v (.int .i64 3)), (.v (.string ⟨#[120]⟩)), (.v (.bool false)), (.v (.int .i64 1)), (.v (.int .i64 2)), (.v (.int .i64 1)), (.v (.string ⟨#[]⟩))]])]])]]), (.v (.slice none 0 0)), (.sl 3 [[(.v (.int .i64 2)), (.v (.int .i64 4)), (.v (.string ⟨#[98]⟩))]])]]), (.v (.slice none 0 0)), (.sl 3 [[(.v (.int .i64 1)), (.v (.int .i64 3)), (.v (.string ⟨#[99]⟩))]])]), (.v (.slice none 0 0))] (.tup [.agg [.p (.v (.complex .f64 4607182418800017408 0)), .row 0], .p (.v (.int .i64 0))]) [(0, .row 79 3 [[(.v (.int .i64 1)), (.v (.int .i64 1)), (.v (.string ⟨#[97]⟩))], [(.v (.int .i64 1)), (.v (.int .i64 3)), (.v (.string ⟨#[99]⟩))]])] :=
  .ofW (zu (n := 5000) qa (zr _) (zZ ctab) (by kernel_rfl) (by kernel_rfl))
theorem evPol1 : Holds Tryz.prog 12 [(.agg [(.v (.string ⟨#[112]⟩)), (.v (.bool false)), (.v (.int .i64 1)), (.v (.slice none 0 0)), (.sl 5 [[(.v (.string ⟨#[114]⟩)), (.v (.bool false)), (.v (.slice none 0 0)), (.v (.slice none 0 0)), (.sl 3 [[(.v (.int .i64 1)), (.v (.int .i64 1)), (.v (.string ⟨#[97]⟩))]])], [(.v (.string ⟨#[100]⟩)), (.v (.bool true)), (.sl 1 [[(.sl 1 [[(.sl 7 [[(.v (.int .i64 3)), (.v (.string ⟨#[120]⟩)), (.v (.bool false)), (.v (.int .i64 1)), (.v (.int .i64 2)), (.v (.int .i64 1)), (.v (.string ⟨#[]⟩))]])]])]]), (.v (.slice none 0 0)), (.sl 3 [[(.v (.int .i64 2)), (.v (.int .i64 4)), (.v (.string ⟨#[98]⟩))]])]]), (.v (.slice none 0 0)), (.sl 3 [[(.v (.int .i64 1)), (.v (.int .i64 3)), (.v (.string ⟨#[99]⟩))]])]), (.sl 3 [[(.v (.int .i64 3)), (.v (.string ⟨#[120]⟩)), (.sl 3 [[(.v (.int .i64 2)), (.v (.int .i64 1)), (.v (.string ⟨#[]⟩))]])]])] (.tup [.agg [.p (.v (.complex .f64 0 4607182418800017408)), .row 0], .p (.v (.int .i64 0))]) [(0, .row 79 3 [[(.v (.int .i64 2)), (.v (.int .i64 4)), (.v (.string ⟨#[98]⟩))]])] :=
  .ofW (zu (n := 5000) qa (zr _) (zZ ctab) (by kernel_rfl) (by kernel_rfl))
theorem evPol2 : Holds Tryz.prog 12 [(.agg [(.v (.string ⟨#[112]⟩)), (.v (.bool false)), (.v (.int .i64 1)), (.v (.slice none 0 0)), (.sl 5 [[(.v (.string ⟨#[114]⟩)), (.v (.bool false)), (.v (.slice none 0 0)), (.v (.slice none 0 0)), (.sl 3 [[(.v (.int .i64 1)), (.v (.int .i64 1)), (.v (.string ⟨#[97]⟩))]])], [(.v (.string ⟨#[100]⟩)), (.v (.bool true)), (.sl 1 [[(.sl 1 [[(.sl 7 [[(.v (.int .i64 3)), (.v (.string ⟨#[120]⟩)), (.v (.bool false)), (.v (.int .i64 1)), (.v (.int .i64 2)), (.v (.int .i64 1)), (.v (.string ⟨#[]⟩))]])]])]]), (.v (.slice none 0 0)), (.sl 3 [[(.v (.int .i64 2)), (.v (.int .i64 4)), (.v (.string ⟨#[98]⟩))]])]]), (.v (.slice none 0 0)), (.sl 3 [[(.v (.int .i64 1)), (.v (.int .i64 3)), (.v (.string ⟨#[99]⟩))]])]), (.sl 3 [[(.v (.int .i64 3)), (.v (.string ⟨#[120]⟩)), (.sl 3 [[(.v (.int .i64 3)), (.v (.int .i64 0)), (.v (.string ⟨#[97]⟩))]])]])] (.tup [.p (.agg [(.v (.complex .f64 4602678819172646912 4602678819172646912)), (.v (.slice none 0 0))]), .p (.v (.int .i64 0))]) [] :=
  .ofW (zu (n := 5000) qa (zr _) (zZ ctab) (by kernel_rfl) (by kernel_rfl))
theorem evX0 : Holds Tryz.prog 34 [(.sl 3 [[(.v (.int .i64 2)), (.v (.int .i64 1)), (.v (.string ⟨#[]⟩))]])] ((.row 0)) [(0, .row 34 3 [[(.v (.int .i64 3)), (.v (.string ⟨#[120]⟩)), .sl 3 [[(.v (.int .i64 2)), (.v (.int .i64 1)), (.v (.string ⟨#[]⟩))]]]])] :=
  .ofW (zu (n := 5000) qa (zr _) (zZ ctab) (by kernel_rfl) (by kernel_rfl))
theorem evX1 : Holds Tryz.prog 34 [(.sl 3 [[(.v (.int .i64 3)), (.v (.int .i64 0)), (.v (.string ⟨#[97]⟩))]])] ((.row 0)) [(0, .row 34 3 [[(.v (.int .i64 3)), (.v (.string ⟨#[120]⟩)), .sl 3 [[(.v (.int .i64 3)), (.v (.int .i64 0)), (.v (.string ⟨#[97]⟩))]]]])] :=
  .ofW (zu (n := 5000) qa (zr _) (zZ ctab) (by kernel_rfl) (by kernel_rfl))
theorem evRes0 : Holds Tryz.prog 15 [.agg [(.v (.complex .f64 4607182418800017408 0)), (.sl 3 [[(.v (.int .i64 1)), (.v (.int .i64 1)), (.v (.string ⟨#[97]⟩))], [(.v (.int .i64 1)), (.v (.int .i64 3)), (.v (.string ⟨#[99]⟩))]])], .agg [(.v (.complex .f64 4607182418800017408 0)), (.sl 3 [[(.v (.int .i64 1)), (.v (.int .i64 1)), (.v (.string ⟨#[97]⟩))], [(.v (.int .i64 1)), (.v (.int .i64 3)), (.v (.string ⟨#[99]⟩))]])]] (.p (.v (.bool true))) [] :=
  .ofW (zu (n := 5000) qa (zr _) (zZ ctab) (by kernel_rfl) (by kernel_rfl))
theorem evRes1 : Holds Tryz.prog 15 [.agg [(.v (.complex .f64 0 4607182418800017408)), (.sl 3 [[(.v (.int .i64 2)), (.v (.int .i64 4)), (.v (.string ⟨#[98]⟩))]])], .agg [(.v (.complex .f64 0 4607182418800017408)), (.sl 3 [[(.v (.int .i64 2)), (.v (.int .i64 4)), (.v (.string ⟨#[98]⟩))]])]] (.p (.v (.bool true))) [] :=
  .ofW (zu (n := 5000) qa (zr _) (zZ ctab) (by kernel_rfl) (by kernel_rfl))
theorem evRes2 : Holds Tryz.prog 15 [.agg [(.v (.complex .f64 4602678819172646912 4602678819172646912)), (.v (.slice none 0 0))], .agg [(.v (.complex .f64 4602678819172646912 4602678819172646912)), (.v (.slice none 0 0))]] (.p (.v (.bool true))) [] :=
  .ofW (zu (n := 5000) qa (zr _) (zZ ctab) (by kernel_rfl) (by kernel_rfl))
theorem js : Holds Tryz.prog 11 [] (.p (.v (.bool true))) [] := by
  refine qo (ts := [0]) Tryz.func11 (by kernel_rfl) rfl rfl rfl ?_
  refine uA ?_
  refine uR ?_
  refine uO evRead ?_
  refine qd ?_
  refine SW.wk ((we (k := 10000) rfl).trans (we (k := 10001) rfl)) ?_
  refine uZ [1] [(1, 1)] ?_
  refine uR ?_
  refine uO evPol0 ?_
  refine qd ?_
  refine SW.wk (we (k := 13000) rfl) ?_
  refine uZ [1, 2, 3] [(1, 1), (2, 2)] ?_
  (repeat refine qF ?_); refine ze 11 rfl (by kernel_rfl) ?_
  refine qm (i := 0) (K := [18, 19, 4, 20000, 21000]) (by kernel_rfl) (by kernel_rfl) rfl rfl (qe qa rfl (by exact True.intro)) rfl ?_
  refine qm (i := 1) (K := [18, 19, 4, 20000, 21000]) (by kernel_rfl) (by kernel_rfl) rfl rfl (qe qa rfl (by exact True.intro)) rfl ?_
  refine zt 2 8 (by kernel_rfl) ?_ ?_
  first | refine qb rfl rfl rfl (aM (h := ?_)) | refine qb rfl rfl rfl (aB (h := ?_)) | refine qb rfl rfl rfl (aA (h := ?_)) | refine qb rfl rfl rfl (aS (h := ?_)) | refine qb rfl rfl rfl (aL (h := ?_)) | refine qb rfl rfl rfl (qy (K := []) (qe qa rfl (by exact True.intro)) rfl ?_)
  refine zt 3 8 (by kernel_rfl) ?_ ?_
  refine qb rfl rfl rfl (ActOk.frz (i := 18) rfl (qR rfl rfl rfl rfl evX0 rfl rfl rfl ?_))
  refine zt 4 8 (by kernel_rfl) ?_ ?_
  refine qb rfl rfl rfl (ActOk.frz (i := 20000) rfl (qR rfl rfl rfl rfl evPol1 rfl rfl rfl ?_))
  refine qm (i := 5) (K := [18, 19, 4, 20000, 21000]) (by kernel_rfl) (by kernel_rfl) rfl rfl (qe qa rfl (by exact True.intro)) rfl ?_
  refine qm (i := 6) (K := [18, 19, 4, 20000, 21000]) (by kernel_rfl) (by kernel_rfl) rfl rfl (qe qa rfl (by exact True.intro)) rfl ?_
  refine qm (i := 7) (K := [18, 19, 4, 20000, 21000]) (by kernel_rfl) (by kernel_rfl) rfl rfl (qe qa rfl (by exact True.intro)) rfl ?_
  refine qn 8 (by kernel_rfl) ?_
  first | refine qb rfl rfl rfl (aM (h := ?_)) | refine qb rfl rfl rfl (aB (h := ?_)) | refine qb rfl rfl rfl (aA (h := ?_)) | refine qb rfl rfl rfl (aS (h := ?_)) | refine qb rfl rfl rfl (aL (h := ?_)) | refine qb rfl rfl rfl (qy (K := []) (qe qa rfl (by exact True.intro)) rfl ?_)
  refine qn 9 (by kernel_rfl) ?_
  first | refine qb rfl rfl rfl (aM (h := ?_)) | refine qb rfl rfl rfl (aB (h := ?_)) | refine qb rfl rfl rfl (aA (h := ?_)) | refine qb rfl rfl rfl (aS (h := ?_)) | refine qb rfl rfl rfl (aL (h := ?_)) | refine qb rfl rfl rfl (qy (K := []) (qe qa rfl (by exact True.intro)) rfl ?_)
  refine qm (i := 10) (K := [18, 19, 4, 20000, 21000]) (by kernel_rfl) (by kernel_rfl) rfl rfl (qe qa rfl (by exact True.intro)) rfl ?_
  refine qY (by kernel_rfl) ?_
  refine SW.wk (qu [1, 2, 3, 4, 5] [(1, 1), (2, 2), (4, 4), (21000, 700)] rfl rfl) ?_
  refine ?fk3_45
  rotate_left
  first | refine qb rfl rfl rfl (aM (h := ?_)) | refine qb rfl rfl rfl (aB (h := ?_)) | refine qb rfl rfl rfl (aA (h := ?_)) | refine qb rfl rfl rfl (aS (h := ?_)) | refine qb rfl rfl rfl (aL (h := ?_)) | refine qb rfl rfl rfl (qy (K := []) (qe qa rfl (by exact True.intro)) rfl ?_)
  refine qn 4 (by kernel_rfl) ?_
  refine qb rfl rfl rfl (ActOk.frz (i := 20000) rfl (qR rfl rfl rfl rfl evPol1 rfl rfl rfl ?_))
  refine qm (i := 5) (K := [18, 19, 4, 20000, 21000]) (by kernel_rfl) (by kernel_rfl) rfl rfl (qe qa rfl (by exact True.intro)) rfl ?_
  refine qm (i := 6) (K := [18, 19, 4, 20000, 21000]) (by kernel_rfl) (by kernel_rfl) rfl rfl (qe qa rfl (by exact True.intro)) rfl ?_
  refine qm (i := 7) (K := [18, 19, 4, 20000, 21000]) (by kernel_rfl) (by kernel_rfl) rfl rfl (qe qa rfl (by exact True.intro)) rfl ?_
  refine qn 9 (by kernel_rfl) ?_
  first | refine qb rfl rfl rfl (aM (h := ?_)) | refine qb rfl rfl rfl (aB (h := ?_)) | refine qb rfl rfl rfl (aA (h := ?_)) | refine qb rfl rfl rfl (aS (h := ?_)) | refine qb rfl rfl rfl (aL (h := ?_)) | refine qb rfl rfl rfl (qy (K := []) (qe qa rfl (by exact True.intro)) rfl ?_)
  refine qm (i := 10) (K := [18, 19, 4, 20000, 21000]) (by kernel_rfl) (by kernel_rfl) rfl rfl (qe qa rfl (by exact True.intro)) rfl ?_
  refine qY (by kernel_rfl) ?_
  refine SW.wk (qu [1, 2, 3, 4, 5] [(1, 1), (2, 2), (4, 4), (21000, 700)] rfl rfl) ?_
  exact ?fk3_45
  first | refine qb rfl rfl rfl (aM (h := ?_)) | refine qb rfl rfl rfl (aB (h := ?_)) | refine qb rfl rfl rfl (aA (h := ?_)) | refine qb rfl rfl rfl (aS (h := ?_)) | refine qb rfl rfl rfl (aL (h := ?_)) | refine qb rfl rfl rfl (qy (K := []) (qe qa rfl (by exact True.intro)) rfl ?_)
  refine qn 3 (by kernel_rfl) ?_
  refine qb rfl rfl rfl (ActOk.frz (i := 18) rfl (qR rfl rfl rfl rfl evX0 rfl rfl rfl ?_))
  refine qn 4 (by kernel_rfl) ?_
  refine qb rfl rfl rfl (ActOk.frz (i := 20000) rfl (qR rfl rfl rfl rfl evPol1 rfl rfl rfl ?_))
  refine qm (i := 5) (K := [18, 19, 4, 20000, 21000]) (by kernel_rfl) (by kernel_rfl) rfl rfl (qe qa rfl (by exact True.intro)) rfl ?_
  refine qm (i := 6) (K := [18, 19, 4, 20000, 21000]) (by kernel_rfl) (by kernel_rfl) rfl rfl (qe qa rfl (by exact True.intro)) rfl ?_
  refine qm (i := 7) (K := [18, 19, 4, 20000, 21000]) (by kernel_rfl) (by kernel_rfl) rfl rfl (qe qa rfl (by exact True.intro)) rfl ?_
  refine qn 9 (by kernel_rfl) ?_
  first | refine qb rfl rfl rfl (aM (h := ?_)) | refine qb rfl rfl rfl (aB (h := ?_)) | refine qb rfl rfl rfl (aA (h := ?_)) | refine qb rfl rfl rfl (aS (h := ?_)) | refine qb rfl rfl rfl (aL (h := ?_)) | refine qb rfl rfl rfl (qy (K := []) (qe qa rfl (by exact True.intro)) rfl ?_)
  refine qm (i := 10) (K := [18, 19, 4, 20000, 21000]) (by kernel_rfl) (by kernel_rfl) rfl rfl (qe qa rfl (by exact True.intro)) rfl ?_
  refine qY (by kernel_rfl) ?_
  refine SW.wk (qu [1, 2, 3, 4, 5] [(1, 1), (2, 2), (4, 4), (21000, 700)] rfl rfl) ?_
  exact ?fk3_45
  first | refine qb rfl rfl rfl (aM (h := ?_)) | refine qb rfl rfl rfl (aB (h := ?_)) | refine qb rfl rfl rfl (aA (h := ?_)) | refine qb rfl rfl rfl (aS (h := ?_)) | refine qb rfl rfl rfl (aL (h := ?_)) | refine qb rfl rfl rfl (qy (K := []) (qe qa rfl (by exact True.intro)) rfl ?_)
  refine qn 2 (by kernel_rfl) ?_
  first | refine qb rfl rfl rfl (aM (h := ?_)) | refine qb rfl rfl rfl (aB (h := ?_)) | refine qb rfl rfl rfl (aA (h := ?_)) | refine qb rfl rfl rfl (aS (h := ?_)) | refine qb rfl rfl rfl (aL (h := ?_)) | refine qb rfl rfl rfl (qy (K := []) (qe qa rfl (by exact True.intro)) rfl ?_)
  refine qn 3 (by kernel_rfl) ?_
  refine qb rfl rfl rfl (ActOk.frz (i := 18) rfl (qR rfl rfl rfl rfl evX0 rfl rfl rfl ?_))
  refine qn 4 (by kernel_rfl) ?_
  refine qb rfl rfl rfl (ActOk.frz (i := 20000) rfl (qR rfl rfl rfl rfl evPol1 rfl rfl rfl ?_))
  refine qm (i := 5) (K := [18, 19, 4, 20000, 21000]) (by kernel_rfl) (by kernel_rfl) rfl rfl (qe qa rfl (by exact True.intro)) rfl ?_
  refine qm (i := 6) (K := [18, 19, 4, 20000, 21000]) (by kernel_rfl) (by kernel_rfl) rfl rfl (qe qa rfl (by exact True.intro)) rfl ?_
  refine qm (i := 7) (K := [18, 19, 4, 20000, 21000]) (by kernel_rfl) (by kernel_rfl) rfl rfl (qe qa rfl (by exact True.intro)) rfl ?_
  refine qn 9 (by kernel_rfl) ?_
  first | refine qb rfl rfl rfl (aM (h := ?_)) | refine qb rfl rfl rfl (aB (h := ?_)) | refine qb rfl rfl rfl (aA (h := ?_)) | refine qb rfl rfl rfl (aS (h := ?_)) | refine qb rfl rfl rfl (aL (h := ?_)) | refine qb rfl rfl rfl (qy (K := []) (qe qa rfl (by exact True.intro)) rfl ?_)
  refine qm (i := 10) (K := [18, 19, 4, 20000, 21000]) (by kernel_rfl) (by kernel_rfl) rfl rfl (qe qa rfl (by exact True.intro)) rfl ?_
  refine qY (by kernel_rfl) ?_
  refine SW.wk (qu [1, 2, 3, 4, 5] [(1, 1), (2, 2), (4, 4), (21000, 700)] rfl rfl) ?_
  exact ?fk3_45
  refine SW.wk (we (k := 700) rfl) ?_
  refine uZ [1, 2, 3, 4, 5] [(1, 1), (2, 2), (4, 4)] ?_
  (repeat refine qF ?_); refine ze 11 rfl (by kernel_rfl) ?_
  refine qm (i := 0) (K := [26, 27, 6, 28000, 29000]) (by kernel_rfl) (by kernel_rfl) rfl rfl (qe qa rfl (by exact True.intro)) rfl ?_
  refine qm (i := 1) (K := [26, 27, 6, 28000, 29000]) (by kernel_rfl) (by kernel_rfl) rfl rfl (qe qa rfl (by exact True.intro)) rfl ?_
  refine zt 2 8 (by kernel_rfl) ?_ ?_
  first | refine qb rfl rfl rfl (aM (h := ?_)) | refine qb rfl rfl rfl (aB (h := ?_)) | refine qb rfl rfl rfl (aA (h := ?_)) | refine qb rfl rfl rfl (aS (h := ?_)) | refine qb rfl rfl rfl (aL (h := ?_)) | refine qb rfl rfl rfl (qy (K := []) (qe qa rfl (by exact True.intro)) rfl ?_)
  refine zt 3 8 (by kernel_rfl) ?_ ?_
  refine qb rfl rfl rfl (ActOk.frz (i := 26) rfl (qR rfl rfl rfl rfl evX1 rfl rfl rfl ?_))
  refine zt 4 8 (by kernel_rfl) ?_ ?_
  refine qb rfl rfl rfl (ActOk.frz (i := 28000) rfl (qR rfl rfl rfl rfl evPol2 rfl rfl rfl ?_))
  refine qm (i := 5) (K := [26, 27, 6, 28000, 29000]) (by kernel_rfl) (by kernel_rfl) rfl rfl (qe qa rfl (by exact True.intro)) rfl ?_
  refine qm (i := 6) (K := [26, 27, 6, 28000, 29000]) (by kernel_rfl) (by kernel_rfl) rfl rfl (qe qa rfl (by exact True.intro)) rfl ?_
  refine qm (i := 7) (K := [26, 27, 6, 28000, 29000]) (by kernel_rfl) (by kernel_rfl) rfl rfl (qe qa rfl (by exact True.intro)) rfl ?_
  refine qn 8 (by kernel_rfl) ?_
  first | refine qb rfl rfl rfl (aM (h := ?_)) | refine qb rfl rfl rfl (aB (h := ?_)) | refine qb rfl rfl rfl (aA (h := ?_)) | refine qb rfl rfl rfl (aS (h := ?_)) | refine qb rfl rfl rfl (aL (h := ?_)) | refine qb rfl rfl rfl (qy (K := []) (qe qa rfl (by exact True.intro)) rfl ?_)
  refine qn 9 (by kernel_rfl) ?_
  first | refine qb rfl rfl rfl (aM (h := ?_)) | refine qb rfl rfl rfl (aB (h := ?_)) | refine qb rfl rfl rfl (aA (h := ?_)) | refine qb rfl rfl rfl (aS (h := ?_)) | refine qb rfl rfl rfl (aL (h := ?_)) | refine qb rfl rfl rfl (qy (K := []) (qe qa rfl (by exact True.intro)) rfl ?_)
  refine qm (i := 10) (K := [26, 27, 6, 28000, 29000]) (by kernel_rfl) (by kernel_rfl) rfl rfl (qe qa rfl (by exact True.intro)) rfl ?_
  refine qY (by kernel_rfl) ?_
  refine SW.wk (qu [1, 2, 3, 4, 5, 6, 7] [(1, 1), (2, 2), (4, 4), (6, 6)] rfl rfl) ?_
  refine ?fk4_110
  rotate_left
  first | refine qb rfl rfl rfl (aM (h := ?_)) | refine qb rfl rfl rfl (aB (h := ?_)) | refine qb rfl rfl rfl (aA (h := ?_)) | refine qb rfl rfl rfl (aS (h := ?_)) | refine qb rfl rfl rfl (aL (h := ?_)) | refine qb rfl rfl rfl (qy (K := []) (qe qa rfl (by exact True.intro)) rfl ?_)
  refine qn 4 (by kernel_rfl) ?_
  refine qb rfl rfl rfl (ActOk.frz (i := 28000) rfl (qR rfl rfl rfl rfl evPol2 rfl rfl rfl ?_))
  refine qm (i := 5) (K := [26, 27, 6, 28000, 29000]) (by kernel_rfl) (by kernel_rfl) rfl rfl (qe qa rfl (by exact True.intro)) rfl ?_
  refine qm (i := 6) (K := [26, 27, 6, 28000, 29000]) (by kernel_rfl) (by kernel_rfl) rfl rfl (qe qa rfl (by exact True.intro)) rfl ?_
  refine qm (i := 7) (K := [26, 27, 6, 28000, 29000]) (by kernel_rfl) (by kernel_rfl) rfl rfl (qe qa rfl (by exact True.intro)) rfl ?_
  refine qn 9 (by kernel_rfl) ?_
  first | refine qb rfl rfl rfl (aM (h := ?_)) | refine qb rfl rfl rfl (aB (h := ?_)) | refine qb rfl rfl rfl (aA (h := ?_)) | refine qb rfl rfl rfl (aS (h := ?_)) | refine qb rfl rfl rfl (aL (h := ?_)) | refine qb rfl rfl rfl (qy (K := []) (qe qa rfl (by exact True.intro)) rfl ?_)
  refine qm (i := 10) (K := [26, 27, 6, 28000, 29000]) (by kernel_rfl) (by kernel_rfl) rfl rfl (qe qa rfl (by exact True.intro)) rfl ?_
  refine qY (by kernel_rfl) ?_
  refine SW.wk (qu [1, 2, 3, 4, 5, 6, 7] [(1, 1), (2, 2), (4, 4), (6, 6)] rfl rfl) ?_
  exact ?fk4_110
  first | refine qb rfl rfl rfl (aM (h := ?_)) | refine qb rfl rfl rfl (aB (h := ?_)) | refine qb rfl rfl rfl (aA (h := ?_)) | refine qb rfl rfl rfl (aS (h := ?_)) | refine qb rfl rfl rfl (aL (h := ?_)) | refine qb rfl rfl rfl (qy (K := []) (qe qa rfl (by exact True.intro)) rfl ?_)
  refine qn 3 (by kernel_rfl) ?_
  refine qb rfl rfl rfl (ActOk.frz (i := 26) rfl (qR rfl rfl rfl rfl evX1 rfl rfl rfl ?_))
  refine qn 4 (by kernel_rfl) ?_
  refine qb rfl rfl rfl (ActOk.frz (i := 28000) rfl (qR rfl rfl rfl rfl evPol2 rfl rfl rfl ?_))
  refine qm (i := 5) (K := [26, 27, 6, 28000, 29000]) (by kernel_rfl) (by kernel_rfl) rfl rfl (qe qa rfl (by exact True.intro)) rfl ?_
  refine qm (i := 6) (K := [26, 27, 6, 28000, 29000]) (by kernel_rfl) (by kernel_rfl) rfl rfl (qe qa rfl (by exact True.intro)) rfl ?_
  refine qm (i := 7) (K := [26, 27, 6, 28000, 29000]) (by kernel_rfl) (by kernel_rfl) rfl rfl (qe qa rfl (by exact True.intro)) rfl ?_
  refine qn 9 (by kernel_rfl) ?_
  first | refine qb rfl rfl rfl (aM (h := ?_)) | refine qb rfl rfl rfl (aB (h := ?_)) | refine qb rfl rfl rfl (aA (h := ?_)) | refine qb rfl rfl rfl (aS (h := ?_)) | refine qb rfl rfl rfl (aL (h := ?_)) | refine qb rfl rfl rfl (qy (K := []) (qe qa rfl (by exact True.intro)) rfl ?_)
  refine qm (i := 10) (K := [26, 27, 6, 28000, 29000]) (by kernel_rfl) (by kernel_rfl) rfl rfl (qe qa rfl (by exact True.intro)) rfl ?_
  refine qY (by kernel_rfl) ?_
  refine SW.wk (qu [1, 2, 3, 4, 5, 6, 7] [(1, 1), (2, 2), (4, 4), (6, 6)] rfl rfl) ?_
  exact ?fk4_110
  first | refine qb rfl rfl rfl (aM (h := ?_)) | refine qb rfl rfl rfl (aB (h := ?_)) | refine qb rfl rfl rfl (aA (h := ?_)) | refine qb rfl rfl rfl (aS (h := ?_)) | refine qb rfl rfl rfl (aL (h := ?_)) | refine qb rfl rfl rfl (qy (K := []) (qe qa rfl (by exact True.intro)) rfl ?_)
  refine qn 2 (by kernel_rfl) ?_
  first | refine qb rfl rfl rfl (aM (h := ?_)) | refine qb rfl rfl rfl (aB (h := ?_)) | refine qb rfl rfl rfl (aA (h := ?_)) | refine qb rfl rfl rfl (aS (h := ?_)) | refine qb rfl rfl rfl (aL (h := ?_)) | refine qb rfl rfl rfl (qy (K := []) (qe qa rfl (by exact True.intro)) rfl ?_)
  refine qn 3 (by kernel_rfl) ?_
  refine qb rfl rfl rfl (ActOk.frz (i := 26) rfl (qR rfl rfl rfl rfl evX1 rfl rfl rfl ?_))
  refine qn 4 (by kernel_rfl) ?_
  refine qb rfl rfl rfl (ActOk.frz (i := 28000) rfl (qR rfl rfl rfl rfl evPol2 rfl rfl rfl ?_))
  refine qm (i := 5) (K := [26, 27, 6, 28000, 29000]) (by kernel_rfl) (by kernel_rfl) rfl rfl (qe qa rfl (by exact True.intro)) rfl ?_
  refine qm (i := 6) (K := [26, 27, 6, 28000, 29000]) (by kernel_rfl) (by kernel_rfl) rfl rfl (qe qa rfl (by exact True.intro)) rfl ?_
  refine qm (i := 7) (K := [26, 27, 6, 28000, 29000]) (by kernel_rfl) (by kernel_rfl) rfl rfl (qe qa rfl (by exact True.intro)) rfl ?_
  refine qn 9 (by kernel_rfl) ?_
  first | refine qb rfl rfl rfl (aM (h := ?_)) | refine qb rfl rfl rfl (aB (h := ?_)) | refine qb rfl rfl rfl (aA (h := ?_)) | refine qb rfl rfl rfl (aS (h := ?_)) | refine qb rfl rfl rfl (aL (h := ?_)) | refine qb rfl rfl rfl (qy (K := []) (qe qa rfl (by exact True.intro)) rfl ?_)
  refine qm (i := 10) (K := [26, 27, 6, 28000, 29000]) (by kernel_rfl) (by kernel_rfl) rfl rfl (qe qa rfl (by exact True.intro)) rfl ?_
  refine qY (by kernel_rfl) ?_
  refine SW.wk (qu [1, 2, 3, 4, 5, 6, 7] [(1, 1), (2, 2), (4, 4), (6, 6)] rfl rfl) ?_
  exact ?fk4_110
  refine uA ?_
  refine uR ?_
  refine qI rfl (ActOk.frz (i := 33) rfl (qA rfl rfl rfl rfl evRes0 rfl rfl ?_))
  refine uS ?_
  refine qI rfl (ActOk.frz (i := 53) rfl (qA rfl rfl rfl rfl evRes1 rfl rfl ?_))
  refine uS ?_
  refine uK evRes2 ?_
  refine qd ?_
  refine uQ ?_
  exact uF []
end Go.Proofs.YtlmgamnpfdgdeaaGreatDoor
namespace Go.Proofs.YtlmgamnpfdgdeaaGreatDoor
set_option linter.unusedVariables false
set_option linter.unusedSimpArgs false
open Go.RowKit
set_option maxHeartbeats 1000000
theorem cloneG_h (l : List Giv) (hn : l.length ≤ 1000000) : Holds Tryz.prog 64 [zj l] (.row 0) [(0, .row 34 3 (l.map Giv.pv))] := by
  refine qo (ts := [2]) Tryz.func64 (by kernel_rfl) rfl rfl rfl ?_
  refine uA ?_
  refine uR ?_
  refine qI rfl (act_nilcmp qa rfl rfl rfl rfl rfl rfl (fun b hb => ?_))
  refine qd ?_
  refine uC (fun hc => ?_) (fun hc => ?_)
  · have hl := hb hc
    have hl' : l = [] := by simpa using hl
    subst hl'
    refine uA ?_
    refine uQ ?_
    exact ⟨Or.inr rfl, _, _, [(0, 0)], jo 2 0 34 3 rfl rfl, rfl, rfl, rfl, rfl⟩
  · refine qg ?_
    refine uR ?_
    refine qI rfl (qr qa rfl rfl rfl rfl rfl rfl rfl rfl rfl rfl rfl rfl rfl rfl rfl rfl (by simp [reachBytes]; omega) (by simp; omega) ?_)
    refine uS ?_
    refine qd ?_
    refine uQ ?_
    exact uF [(7, 0)]
theorem giv_set (l : List Giv) (k : Nat) (hk : k < l.length) (xs : List PV) (hx : xs = [valsP l[k].bag]) : (l.map Giv.pv).set (Int.toNat (k : Int)) (((l.map Giv.pv).getD (Int.toNat (k : Int)) []).take 2 ++ xs ++ ((l.map Giv.pv).getD (Int.toNat (k : Int)) []).drop (2 + xs.length)) = l.map Giv.pv := by
  subst hx
  rw [qx hk]
  have : (l[k].pv.take 2 ++ [valsP l[k].bag] ++ l[k].pv.drop (2 + [valsP l[k].bag].length)) = l[k].pv := rfl
  rw [this, Int.toNat_natCast]
  refine List.ext_getElem? fun i => ?_
  by_cases e : i = k
  · subst e; rw [List.getElem?_set_self (by simpa using hk)]; simp [hk]
  · rw [List.getElem?_set_ne (Ne.symm e)]
theorem copied_h (l : List Giv) (hn : l.length ≤ 1000000) (hb : ∀ g ∈ l, g.bag.length ≤ 1000000) : Holds Tryz.prog 37 [zj l] (.row 0) [(0, .row 34 3 (l.map Giv.pv))] := by
  refine qo (ts := [2]) Tryz.func37 (by kernel_rfl) rfl rfl rfl ?_
  refine uA ?_
  refine uR ?_
  refine uO (cloneG_h l hn) ?_
  refine qd ?_
  refine uA ?_
  refine uB ?_
  refine SW.wk (qu [3, 8, 9] [(7000, 0)] rfl rfl) ?_
  refine qC (fun n s => ∃ (k : Nat) (kk : Int) (L : List (List PV)), k ≤ l.length ∧ n = l.length - k ∧ kk = k ∧ L = l.map Giv.pv ∧ s = ⟨24, [(3, .row 0), (8, .p (pI (l.map Giv.pv).length)), (9, .p (pI kk))], [(0, .row 34 3 L)]⟩) l.length ⟨0, 0, _, Nat.zero_le _, rfl, rfl, rfl, rfl⟩ ?_
  rintro n s ⟨k, _, _, hk, rfl, rfl, rfl, rfl⟩
  refine uA ?_
  refine uC (fun hlt => ?_) (fun hlt => ?_)
  · refine qg ?_
    simp only [List.length_map, decide_eq_true_eq] at hlt
    have hlt' : k < l.length := by omega
    refine uB ?_
    refine uA ?_
    refine uR ?_
    refine qh qa rfl rfl (by simp only [List.length_map]; omega) rfl ?_
    refine uS ?_
    refine qh qa rfl (qP rfl rfl rfl rfl rfl (qx hlt') rfl) (by simp only [List.length_map, Int.toNat_natCast]; omega) rfl ?_
    refine uO ((cloneV_h l[k].bag (hb _ (List.getElem_mem hlt'))).row_sl) ?_
    refine qh qa rfl rfl (by simp only [List.length_map]; omega) rfl ?_
    refine uS ?_
    refine qI rfl (wA qa rfl rfl rfl rfl rfl (by simp only [List.length_map, Int.toNat_natCast]; omega) rfl rfl rfl rfl rfl ?_)
    refine qd ?_
    refine uA ?_
    refine ⟨_, _, ?_, qu [3, 8, 9] [(0, 0)] rfl rfl, k + 1, _, _, hlt', rfl, qt hlt' (by omega), ?_, rfl⟩
    · omega
    · exact giv_set l k hlt' _ rfl
  · refine qz ?_
    refine uA ?_
    refine uQ ?_
    exact uF [(0, 0)]
theorem set_all (l : List Giv) (g : Giv) (k : Nat) (hk : k < l.length) (xs : List PV) (hx : xs = g.pv) : (l.map Giv.pv).set (Int.toNat (k : Int)) (((l.map Giv.pv).getD (Int.toNat (k : Int)) []).take 0 ++ xs ++ ((l.map Giv.pv).getD (Int.toNat (k : Int)) []).drop (0 + xs.length)) = (l.set k g).map Giv.pv := by
  subst hx
  rw [qx hk, Int.toNat_natCast, List.map_set]
  rfl
theorem with_h (l : List Giv) (g : Giv) (hn : l.length ≤ 1000000) (hb : ∀ g ∈ l, g.bag.length ≤ 1000000) (hg : g.bag.length ≤ 1000000) : Holds Tryz.prog 14 [zj l, .agg g.pv] (.row 0) [(0, .row 34 3 ((withS l g).map Giv.pv))] := by
  refine qo (ts := [4]) Tryz.func14 (by kernel_rfl) rfl rfl rfl ?_
  refine uA ?_
  refine uR ?_
  refine uO (copied_h l hn hb) ?_
  refine qd ?_
  refine uR ?_
  refine uO ((cloneV_h g.bag hg).row_sl) ?_
  refine qd ?_
  refine uR ?_
  refine uK (place_h g.cat g.name l hn) ?_
  refine qd ?_
  refine uA ?_
  unfold placeS withS
  by_cases hf : l.findIdx (isG g.cat g.name) < l.length
  · rw [if_pos hf, if_pos hf]
    refine uC (fun hc => ?_) (fun hc => ?_)
    · refine uR ?_
      refine qh qa rfl rfl (by simp only [List.length_map]; omega) rfl ?_
      refine qI rfl (wA qa rfl rfl rfl rfl rfl (by simp only [List.length_map, Int.toNat_natCast]; omega) rfl rfl rfl rfl rfl ?_)
      refine qd ?_
      refine uA ?_
      refine uQ ?_
      refine ⟨Or.inr rfl, _, _, [(9000, 0)], Wk.refl _, rfl, rfl, ?_, rfl⟩
      exact congrArg (fun L => some [(0, Box.row 34 3 L)]) (set_all l g _ hf _ rfl)
    · simp at hc
  · rw [if_neg hf, if_neg hf]
    refine uC (fun hc => ?_) (fun hc => ?_)
    · cases hc
    · refine qg ?_
      refine uR ?_
      refine qI rfl (qr qa rfl rfl rfl rfl rfl rfl rfl rfl rfl rfl rfl rfl rfl rfl rfl rfl (by simp [reachBytes]; omega) (by simp; omega) ?_)
      refine uS ?_
      refine qd ?_
      refine uQ ?_
      refine ⟨Or.inr rfl, _, _, [(29, 0)], Wk.refl _, rfl, rfl, ?_, rfl⟩
      exact congrArg (fun L => some [(0, Box.row 34 3 L)]) (by rw [List.map_append]; rfl)
end Go.Proofs.YtlmgamnpfdgdeaaGreatDoor
namespace Go.Proofs.YtlmgamnpfdgdeaaGreatDoor
open Go.RowKit
set_option linter.unusedSimpArgs false
set_option linter.unusedVariables false
attribute [local go_sem] jG zC extB_cell extB_frozen
attribute [local go_sem low] zx zb
attribute [local go_sem ↓] eql_val
def inBag (k : Int) (v : Val) : Bool := v.right && decide (v.kind = k)
def bagOk (l : List Val) : Bool := l.all (inBag (l.getD 0 noVal).kind) && decide (l.length ≤ 16)
set_option maxRecDepth 100000 in
set_option maxHeartbeats 1000000 in
theorem bag_any (l : List Val) (A : Option Addr) (c : Nat) (w : World) (hn : l.length ≤ reachBytes) (h : SlAt rVal 3 w A l) :
    Calls Tryz.prog 30 #[.slice A l.length c] w fun e w' => e = .returned (.bool (bagOk l)) ∧ Below w.heap.size w w' := by
  unfold reachBytes at hn
  replace h := hide h
  go_enter Tryz.func30, Tryz.ntmps30
  go_wp2
  go_loopw [4, 7] (fun _ i wr => ∃ k : Nat, k ≤ l.length ∧ i = .int .i64 k ∧ Below w.heap.size w wr ∧ Hid ((l.take k).all (inBag (l.getD 0 noVal).kind) = true)) (fun _ i _ => l.length - (intOf i).toNat)
  case atStart => exact ⟨0, Nat.zero_le _, rfl, Below.refl _ _, by simp [Hid]⟩
  case round =>
    obtain ⟨k, hk, rfl, hB, hall⟩ := hrel
    by_cases hlt : k < l.length
    · have h0 : 0 < l.length := by omega
      obtain ⟨b, o, rfl, hbb, c0, c1, c2, hf⟩ := (h.out.keep qN hB).val hlt
      obtain ⟨b', o', he, _, d0, d1, d2, hf0⟩ := (h.out.keep qN hB).val h0
      simp only [Option.some.injEq, Addr.mk.injEq, and_true] at he
      obtain ⟨rfl, rfl⟩ := he
      simp only [Nat.zero_mul, Nat.add_zero] at d0
      clear d1 d2 hf0
      have hg : (l.getD 0 noVal).kind = l[0].kind := by
        rw [List.getD_eq_getElem?_getD, List.getElem?_eq_getElem h0]; rfl
      rw [hg] at hall
      replace hg := hide hg
      go_upto_region 4 with (fail)
      refine wj (by kernel_rfl) (by kernel_rfl) (by kernel_rfl) ?_
      repeat (refine qw ?_; intro K hK; go_big_quiet_op; go_big_quiet_on)
      refine qw ?_; intro K hK; go_big_quiet_op
      refine ⟨_, fun _ => jV (right_any _ _ _ _ hf.s), ?_⟩
      go_big_quiet_on
      repeat (refine qw ?_; intro K hK; go_big_quiet_op; go_big_quiet_on)
      refine qZ ?_
      intro us w4 hB4
      simp only [junk, Act.put, List.setIfInBounds_toArray, List.set_cons_zero, List.set_cons_succ]
      obtain ⟨hc4, hf4⟩ := ji hB4; have hz4 := hB4.size; try simp only [World.size_alloc, World.size_drew] at hc4 hf4 hz4
      go_wp2
      · go_ret
        refine ⟨ja ?_, (by repeat (first | exact Below.refl _ _ | assumption | refine Below.alloc1 ?_ _ | refine Below.drew ?_ | refine qk ?_ | refine Below.setCell ?_ (by first | exact Nat.le_refl _ | (simp; done) | omega | (simp; omega)) _ | refine Below.lift ?_ (by assumption)))⟩
        have e : l.all (inBag l[0].kind) = false := by
          refine all_no hlt ?_
          go_light
          simp_all [inBag]
          try
            intro p1 p2
            rename _ ∨ _ => ho
            rcases ho with ho | ho
            · exact absurd (p1.symm.trans ho) (by simp)
            · exact ho p2
        unfold bagOk
        rw [hg.out, e]; rfl
      · have e : inBag l[0].kind l[k] = true := by
          go_light
          simp_all [inBag]
        go_roundw
        case rel => exact ⟨k + 1, by omega, by go_num, (by repeat (first | exact Below.refl _ _ | assumption | refine Below.alloc1 ?_ _ | refine Below.drew ?_ | refine qk ?_ | refine Below.setCell ?_ (by first | exact Nat.le_refl _ | (simp; done) | omega | (simp; omega)) _ | refine Below.lift ?_ (by assumption))), by rw [hg.out]; exact all_step hlt hall.out e⟩
        case measure => simp [intOf]; omega
    · obtain rfl : k = l.length := by omega
      rw [take_all] at hall
      go_wp2
      go_ret
      refine ⟨ja ?_, (by repeat (first | exact Below.refl _ _ | assumption | refine Below.alloc1 ?_ _ | refine Below.drew ?_ | refine qk ?_ | refine Below.setCell ?_ (by first | exact Nat.le_refl _ | (simp; done) | omega | (simp; omega)) _ | refine Below.lift ?_ (by assumption)))⟩
      unfold bagOk
      rw [hall.out]
      rw [Bool.eq_iff_iff]; simp
      try omega
end Go.Proofs.YtlmgamnpfdgdeaaGreatDoor
namespace Go.Proofs.YtlmgamnpfdgdeaaGreatDoor
set_option linter.unusedVariables false
set_option linter.unusedSimpArgs false
open Go.RowKit
set_option maxHeartbeats 1000000
theorem bag_h (l : List Val) (hf : ∀ x ∈ l, x.Fit) : Holds Tryz.prog 30 [valsP l] (.p (pB (bagOk l))) [] :=
  .of_calls Tryz.func30 (by kernel_rfl) rfl (fun w vs hl hr => by
    obtain ⟨u, rfl⟩ := one_arg hl
    obtain ⟨A, c, rfl, h1, h2, h3⟩ := vals_typed (hr 0 _ u rfl rfl) hf
    exact bag_any l A c w h2.1 h3) rfl fun w => .p (.v rfl)
end Go.Proofs.YtlmgamnpfdgdeaaGreatDoor
namespace Go.Proofs.YtlmgamnpfdgdeaaGreatDoor
set_option linter.unusedVariables false
set_option linter.unusedSimpArgs false
open Go.RowKit
set_option maxHeartbeats 1000000
def askE (l : List Giv) (k : Nat) : Int := match l[k]? with
  | none => 0
  | some g => if decide (g.cat < 1) || decide (4 < g.cat) || !wC g.name || !bagOk g.bag then 1 else if placeS g.cat g.name l < k then 11 else 0
def askRS (l : List Giv) : Int := if 64 < l.length then 6 else wa (askE l) (List.range l.length)
theorem firstE_range {f : Nat → Int} {n k : Nat} (hk : k < n) (h : ∀ j, j < k → f j = 0) (h1 : f k ≠ 0) : wa f (List.range n) = f k := by
  have := jL (f := f) (l := List.range n) (k := k) (by simpa using hk) (fun x hx => by
    obtain ⟨i, hi, rfl⟩ := List.mem_take_iff_getElem.1 hx
    simp only [List.getElem_range]
    exact h i (by omega)) (by simpa using h1)
  simpa using this
theorem askRight_h (l : List Giv) (hf : ∀ x ∈ l, x.Fit) : Holds Tryz.prog 9 [zj l] (.p (pI (askRS l))) [] := by
  have lm : (l.map Giv.pv).length = l.length := by simp
  refine qo (ts := [2]) Tryz.func9 (by kernel_rfl) rfl rfl rfl ?_
  refine uA ?_
  refine uA ?_
  rw [lm]
  refine uC (fun h => ?_) (fun h => ?_)
  · have h0 : 64 < l.length := by simp at h; omega
    refine uA ?_
    refine uQ ?_
    exact qW rfl (by unfold askRS; rw [if_pos h0])
  · have h0 : ¬ 64 < l.length := by simp at h; omega
    have e0 : askRS l = wa (askE l) (List.range l.length) := by unfold askRS; rw [if_neg h0]
    rw [e0]
    refine qg ?_
    refine uA ?_
    refine uB ?_
    refine uZ [0, 8, 9, 10] [] ?_
    refine qC (fun m s => ∃ (k : Nat) (kk : Int), k ≤ l.length ∧ m = l.length - k ∧ kk = k ∧ (∀ j, j < k → askE l j = 0) ∧ s = ⟨44, [(0, .p (zj l)), (8, .p (zj l)), (9, .p (pI (l.map Giv.pv).length)), (10, .p (pI kk))], []⟩) l.length ⟨0, 0, Nat.zero_le _, rfl, rfl, fun j hj => absurd hj (Nat.not_lt_zero _), rfl⟩ ?_
    rintro m s ⟨k, _, hk, rfl, rfl, ha, rfl⟩
    refine uA ?_
    refine uC (fun hlt => ?_) (fun hlt => ?_)
    · refine qg ?_
      rw [lm] at hlt
      simp only [decide_eq_true_eq] at hlt
      have hlt' : k < l.length := by omega
      have hx : l[k]? = some l[k] := List.getElem?_eq_getElem hlt'
      have hfk := hf _ (List.getElem_mem hlt')
      refine uB ?_
      refine uR ?_
      refine qh qa rfl rfl (by rw [lm]; omega) rfl ?_
      rw [qx hlt']
      refine uS ?_
      refine qd ?_
      (repeat refine qF ?_); refine ql (by kernel_rfl) ?_
      repeat (refine qi qa rfl (by exact True.intro) rfl ?_)
      refine qV rfl rfl rfl rfl (name_h l[k].name hfk.name) rfl rfl ?_
      repeat (refine qi qa rfl (by exact True.intro) rfl ?_)
      refine qV rfl rfl rfl rfl (bag_h l[k].bag hfk.bag) rfl rfl ?_
      repeat (refine qi qa rfl (by exact True.intro) rfl ?_)
      refine qH ?_
      have hc : (decide (l[k].cat < 1) || decide (4 < l[k].cat) || !wC l[k].name || !bagOk l[k].bag) = (bif bif bif decide (l[k].cat < 1) then true else decide (l[k].cat > 4) then true else !wC l[k].name then true else !bagOk l[k].bag) := by
        cases decide (l[k].cat < 1) <;> cases h2 : decide (4 < l[k].cat) <;> cases wC l[k].name <;> cases bagOk l[k].bag <;> simp_all
      refine uC (fun h1 => ?_) (fun h1 => ?_)
      · have e1 : askE l k = 1 := by
          unfold askE
          rw [hx]
          simp only
          rw [hc, h1, if_pos rfl]
        refine uA ?_
        refine uQ ?_
        exact qW rfl (by rw [firstE_range hlt' ha (by omega), e1])
      · refine qg ?_
        refine uR ?_
        refine uK (place_h l[k].cat l[k].name l (by omega)) ?_
        refine qd ?_
        refine uC (fun h2 => ?_) (fun h2 => ?_)
        · have e1 : askE l k = 11 := by
            unfold askE
            rw [hx]
            simp only
            rw [hc, h1, if_neg (by simp), if_pos (by simpa using h2)]
          refine uA ?_
          refine uQ ?_
          exact qW rfl (by rw [firstE_range hlt' ha (by omega), e1])
        · have e1 : askE l k = 0 := by
            unfold askE
            rw [hx]
            simp only
            rw [hc, h1, if_neg (by simp), if_neg (by simpa using h2)]
          refine qg ?_
          refine uA ?_
          refine ⟨_, _, ?_, qu [0, 8, 9, 10] [] rfl rfl, k + 1, _, hlt', rfl, qt hlt' (by omega), ?_, rfl⟩
          · omega
          · intro j hj
            by_cases e : j = k
            · subst e; exact e1
            · exact ha j (by omega)
    · refine qz ?_
      rw [lm] at hlt
      simp only [decide_eq_false_iff_not] at hlt
      have hkk : k = l.length := by omega
      subst hkk
      refine uA ?_
      refine uQ ?_
      exact qW rfl (jN fun x hx => ha x (by simpa using hx)).symm
end Go.Proofs.YtlmgamnpfdgdeaaGreatDoor
namespace Go.Proofs.YtlmgamnpfdgdeaaGreatDoor
set_option linter.unusedVariables false
set_option linter.unusedSimpArgs false
open Go.RowKit
set_option maxHeartbeats 4000000
def sNo : ByteArray := ⟨#[122, 122, 95, 110, 111, 119, 104, 101, 114, 101]⟩
theorem withS_mem' {g : List Giv} {x y : Giv} (h : y ∈ withS g x) : y = x ∨ y ∈ g := by
  unfold withS at h
  split at h
  · rcases List.mem_or_eq_of_mem_set h with h | h
    · exact Or.inr h
    · exact Or.inl h
  · rcases List.mem_append.1 h with h | h
    · exact Or.inr h
    · exact Or.inl (by simpa using h)
theorem evalOnly_h {n : Nat} (p : Pol) (hf : PolF n p) (g : List Giv) (hg : ∀ x ∈ g, x.Fit) (v : Val) (hv : v.Fit) : Holds Tryz.prog 3 [.agg (polP p), zj g, .agg v.pv] (.p (pB true)) [] := by
  have HS := small_h p hf
  have HR := right_h p (polF_fit 4 hf)
  have HW := fun h => show_h p hf h
  have hE0 := fun h g hG => evPol_h p hf h g hG
  rw [zh] at HS HR HW hE0 ⊢
  refine qo (ts := [6]) Tryz.func3 (by kernel_rfl) rfl rfl rfl ?_
  refine uA ?_
  refine uR ?_
  refine qh qa rfl rfl (by (show (0 : Int) ≤ 0 ∧ (0 : Int) ≤ (if (80 : Int) < (v.s.size : Int) then (80 : Int) else (v.s.size : Int)) ∧ (if (80 : Int) < (v.s.size : Int) then (80 : Int) else (v.s.size : Int)) ≤ (v.s.size : Int); split <;> omega)) rfl ?_
  generalize hS : v.s.extract (Int.toNat 0) (Int.toNat (if (80 : Int) < v.s.size then 80 else v.s.size)) = S
  refine uS ?_
  refine qd ?_
  refine uZ [1, 3, 5] [(3, 3), (5, 5)] ?_
  refine uA ?_
  refine SW.wk (we (k := 23) rfl) ?_
  refine uZ [1, 3, 7] [(3, 3), (7, 7)] ?_
  change SW _ _ _ ⟨91, [(1, .p (zj g)), (3, .ptr 3 0), (7, .ptr 7 0)], [(3, .cells [.p (pS p.id), .p (pB p.set), .p (pI p.alg), .p (tgtP p.target), .p (.sl 5 (p.rules.map jl)), .p (.sl 7 (p.kids.map polP)), .p (jt p.obls)]), (7, .cells ((⟨4, sNo, [⟨v.kind, v.n, S⟩]⟩ : Giv).pv.map .p))]⟩
  have hSz : S.size ≤ v.s.size := by
    rw [← hS, ByteArray.size_extract]; omega
  obtain ⟨x, hx⟩ : ∃ x : Giv, x = ⟨4, sNo, [⟨v.kind, v.n, S⟩]⟩ := ⟨_, rfl⟩
  have hxn : x.name = sNo := by rw [hx]
  have hxb : x.bag.length = 1 := by rw [hx]; rfl
  have hxf : x.Fit := by
    rw [hx]
    refine ⟨?_, ?_, fun y hy => ?_⟩
    · show R64 4
      exact ⟨by decide, by decide⟩
    · show sNo.size ≤ reachBytes
      decide
    · rw [List.mem_singleton] at hy
      subst hy
      exact ⟨hv.kind, hv.n, Nat.le_trans hSz hv.s⟩
  rw [← hx]
  clear hx hS hSz
  refine uR ?_
  refine qI rfl (act_call_E rfl rfl rfl rfl (HS) rfl ?_)
  rintro _ ⟨b1, rfl, h1⟩
  cases b1 with
  | false =>
    refine uS ?_
    refine qd ?_
    refine uC (fun hc => ?_) (fun hc => ?_)
    · refine uR ?_
      refine uK js ?_
      refine qd ?_
      refine uQ ?_
      exact wJ rfl rfl
    · cases hc
  | true =>
    refine uS ?_
    refine qI rfl (act_call_E rfl rfl rfl rfl (few_h g hg) rfl ?_)
    rintro _ ⟨b2, rfl, h2⟩
    cases b2 with
    | false =>
      refine uS ?_
      refine qd ?_
      refine uC (fun hc => ?_) (fun hc => ?_)
      · refine uR ?_
        refine uK js ?_
        refine qd ?_
        refine uQ ?_
        exact wJ rfl rfl
      · cases hc
    | true =>
      refine uS ?_
      refine uK (askRight_h g hg) ?_
      by_cases e1 : askRS g = 0
      rotate_left
      · rw [show (askRS g != 0) = true by simpa using e1]
        refine uS ?_
        refine qd ?_
        refine uC (fun hc => ?_) (fun hc => ?_)
        · refine uR ?_
          refine uK js ?_
          refine qd ?_
          refine uQ ?_
          exact wJ rfl rfl
        · cases hc
      rw [show (askRS g != 0) = false by simpa using e1]
      refine uS ?_
      refine uK (askRight_h [x] (by simpa using hxf)) ?_
      by_cases e2 : askRS [x] = 0
      rotate_left
      · rw [show (askRS [x] != 0) = true by simpa using e2]
        refine uS ?_
        refine qd ?_
        refine uC (fun hc => ?_) (fun hc => ?_)
        · refine uR ?_
          refine uK js ?_
          refine qd ?_
          refine uQ ?_
          exact wJ rfl rfl
        · cases hc
      rw [show (askRS [x] != 0) = false by simpa using e2]
      refine uS ?_
      refine uK HR ?_
      by_cases e3 : wG p = 0
      rotate_left
      · rw [show (wG p != 0) = true by simpa using e3]
        refine uS ?_
        refine qd ?_
        refine uC (fun hc => ?_) (fun hc => ?_)
        · refine uR ?_
          refine uK js ?_
          refine qd ?_
          refine uQ ?_
          exact wJ rfl rfl
        · cases hc
      rw [show (wG p != 0) = false by simpa using e3]
      refine uS ?_
      refine qd ?_
      refine uC (fun hc => ?_) (fun hc => ?_)
      · cases hc
      refine qg ?_
      have hsz := h1 rfl
      have hG := givOk_of hg (h2 rfl)
      obtain ⟨g1, g2⟩ := few_len (h2 rfl)
      replace g2 : ∀ x ∈ g, x.bag.length ≤ 1000000 := fun x hx => Nat.le_trans (g2 x hx) (by omega)
      have hG2 : GivOk (withS g x) := ⟨fun y hy => by
        rcases withS_mem' hy with rfl | h
        · exact hxf
        · exact hg y h, by unfold withS; split <;> simp <;> omega, fun y hy => by
        rcases withS_mem' hy with rfl | h
        · omega
        · exact g2 y h⟩
      have HWi := (with_h g x (by omega) g2 (by omega)).row_sl
      have hE := hE0 (by omega) g hG
      have hF := hE0 (by omega) (withS g x) hG2
      have HS' := HW e3
      have hz := show_size e3
      have hon := fun h => eval_only e3 g x h
      have hmx := decideS_mem g 4 p
      have hx : (qE g 4 p).obls.length ≤ 1000000 := by have := decideS_len g 4 p; omega
      have eE := evalS_right (g := g) e3
      clear HS HW hE0 HR
      have hRX := results_h _ hmx hx
      rw [eE] at hE hon
      generalize polB 4 p = T at *
      generalize qE g 4 p = X at *
      obtain ⟨xm, xo⟩ := X
      clear hmx hx
      refine uZ [1, 3, 7] [(3, 3), (7, 7)] ?_
      refine uR ?_
      refine uO hE ?_
      refine qd ?_
      refine uR ?_
      refine uK HS' ?_
      refine qd ?_
      refine uA ?_
      refine uB ?_
      refine uZ [1, 3, 7, 8, 9, 10, 11] [(3, 3), (7, 7), (8, 8)] ?_
      refine qC (fun m s => ∃ (k : Nat) (kk : Int), k ≤ T.size ∧ m = T.size - k ∧ kk = k ∧ (∀ j : Nat, j < k → T.extract j (j + 10) ≠ sNo) ∧ s = ⟨91, [(1, .p (zj g)), (3, .ptr 3 0), (7, .ptr 7 0), (8, .ptr 8 0), (9, .p (pI 0)), (10, .p (pS T)), (11, .p (pI kk))], [(3, .cells [.p (pS p.id), .p (pB p.set), .p (pI p.alg), .p (tgtP p.target), .p (.sl 5 (p.rules.map jl)), .p (.sl 7 (p.kids.map polP)), .p (jt p.obls)]), (7, .cells (x.pv.map .p)), (8, .cells ((rsP ⟨xm, xo⟩).map .p))]⟩) T.size ⟨0, 0, Nat.zero_le _, rfl, rfl, fun j hj => absurd hj (Nat.not_lt_zero j), rfl⟩ ?_
      rintro m s ⟨k, _, hk, rfl, rfl, ha, rfl⟩
      refine uR ?_
      rw [show IntKind.i64.wrap ((k : Int) + 10) = ((k + 10 : Nat) : Int) from IntWalk.i64_in _ (by omega)]
      refine uS ?_
      refine qd ?_
      refine uC (fun hlt => ?_) (fun hlt => ?_)
      · refine qg ?_
        have hlt' : k + 10 ≤ T.size := by
          have := of_decide_eq_true hlt
          omega
        refine uB ?_
        refine uR ?_
        rw [show IntKind.i64.wrap ((k : Int) + 10) = ((k + 10 : Nat) : Int) from IntWalk.i64_in _ (by omega)]
        refine uS ?_
        refine qh qa rfl rfl (by omega) rfl ?_
        refine uS ?_
        refine qd ?_
        refine uC (fun ht => ?_) (fun ht => ?_)
        · refine uR ?_
          refine uK js ?_
          refine qd ?_
          refine uQ ?_
          exact wJ rfl rfl
        · have h2 : T.extract k (k + 10) ≠ sNo := by
            change ((T.extract (Int.toNat (k : Int)) (Int.toNat ((k + 10 : Nat) : Int))).toList == sNo.toList) = false at ht
            rw [beq_bytes, Int.toNat_natCast, Int.toNat_natCast] at ht
            exact of_decide_eq_false ht
          refine qg ?_
          refine uA ?_
          refine ⟨_, _, ?_, qu [1, 3, 7, 8, 9, 10, 11] [(3, 3), (7, 7), (8, 8)] rfl rfl, k + 1, _, by omega, rfl, qt (show k < T.size by omega) (by omega), fun j hj => ?_, rfl⟩
          · omega
          · by_cases e : j = k
            · rw [e]; exact h2
            · exact ha j (by omega)
      · refine qz ?_
        have hno : ¬ Inf x.name T := by
          rw [hxn]
          intro hi
          obtain ⟨j, h1, h2⟩ := inf_at hi
          have h3 : sNo.size = 10 := rfl
          have h4 := of_decide_eq_false hlt
          rw [h3] at h1 h2
          exact ha j (by omega) h2
        rw [hon hno] at hF
        (repeat refine qF ?_); refine ze 11 rfl (by kernel_rfl) ?_
        refine qm (i := 0) (K := [12]) (by kernel_rfl) (by kernel_rfl) rfl rfl (qe qa rfl (by exact True.intro)) rfl ?_
        refine qm (i := 1) (K := [12]) (by kernel_rfl) (by kernel_rfl) rfl rfl (qe qa rfl (by exact True.intro)) rfl ?_
        refine qm (i := 2) (K := [12]) (by kernel_rfl) (by kernel_rfl) rfl rfl (qe qa rfl (by exact True.intro)) rfl ?_
        refine zt 3 8 (by kernel_rfl) ?_ ?_
        refine qb rfl rfl rfl (qR rfl rfl rfl rfl (HWi) rfl rfl rfl ?_)
        refine zt 4 8 (by kernel_rfl) ?_ ?_
        refine qb rfl rfl rfl (qR rfl rfl rfl rfl (hF) rfl rfl rfl ?_)
        refine qm (i := 5) (K := [12]) (by kernel_rfl) (by kernel_rfl) rfl rfl (qe qa rfl (by exact True.intro)) rfl ?_
        refine qm (i := 6) (K := [12]) (by kernel_rfl) (by kernel_rfl) rfl rfl (qe qa rfl (by exact True.intro)) rfl ?_
        refine qm (i := 7) (K := [12]) (by kernel_rfl) (by kernel_rfl) rfl rfl (qe qa rfl (by exact True.intro)) rfl ?_
        refine qn 8 (by kernel_rfl) ?_
        first | refine qb rfl rfl rfl (aM (h := ?_)) | refine qb rfl rfl rfl (aB (h := ?_)) | refine qb rfl rfl rfl (aA (h := ?_)) | refine qb rfl rfl rfl (aS (h := ?_)) | refine qb rfl rfl rfl (aL (h := ?_)) | refine qb rfl rfl rfl (qy (K := []) (qe qa rfl (by exact True.intro)) rfl ?_)
        refine qn 9 (by kernel_rfl) ?_
        first | refine qb rfl rfl rfl (aM (h := ?_)) | refine qb rfl rfl rfl (aB (h := ?_)) | refine qb rfl rfl rfl (aA (h := ?_)) | refine qb rfl rfl rfl (aS (h := ?_)) | refine qb rfl rfl rfl (aL (h := ?_)) | refine qb rfl rfl rfl (qy (K := []) (qe qa rfl (by exact True.intro)) rfl ?_)
        refine qm (i := 10) (K := [12]) (by kernel_rfl) (by kernel_rfl) rfl rfl (qe qa rfl (by exact True.intro)) rfl ?_
        refine qY (by kernel_rfl) ?_
        refine SW.wk (qu [8, 9, 12, 13] [(8, 8), (12, 12)] rfl rfl) ?_
        refine ?fk12_224
        rotate_left
        first | refine qb rfl rfl rfl (aM (h := ?_)) | refine qb rfl rfl rfl (aB (h := ?_)) | refine qb rfl rfl rfl (aA (h := ?_)) | refine qb rfl rfl rfl (aS (h := ?_)) | refine qb rfl rfl rfl (aL (h := ?_)) | refine qb rfl rfl rfl (qy (K := []) (qe qa rfl (by exact True.intro)) rfl ?_)
        refine qn 4 (by kernel_rfl) ?_
        refine qb rfl rfl rfl (qR rfl rfl rfl rfl (hF) rfl rfl rfl ?_)
        refine qm (i := 5) (K := [12]) (by kernel_rfl) (by kernel_rfl) rfl rfl (qe qa rfl (by exact True.intro)) rfl ?_
        refine qm (i := 6) (K := [12]) (by kernel_rfl) (by kernel_rfl) rfl rfl (qe qa rfl (by exact True.intro)) rfl ?_
        refine qm (i := 7) (K := [12]) (by kernel_rfl) (by kernel_rfl) rfl rfl (qe qa rfl (by exact True.intro)) rfl ?_
        refine qn 9 (by kernel_rfl) ?_
        first | refine qb rfl rfl rfl (aM (h := ?_)) | refine qb rfl rfl rfl (aB (h := ?_)) | refine qb rfl rfl rfl (aA (h := ?_)) | refine qb rfl rfl rfl (aS (h := ?_)) | refine qb rfl rfl rfl (aL (h := ?_)) | refine qb rfl rfl rfl (qy (K := []) (qe qa rfl (by exact True.intro)) rfl ?_)
        refine qm (i := 10) (K := [12]) (by kernel_rfl) (by kernel_rfl) rfl rfl (qe qa rfl (by exact True.intro)) rfl ?_
        refine qY (by kernel_rfl) ?_
        refine SW.wk (qu [8, 9, 12, 13] [(8, 8), (12, 12)] rfl rfl) ?_
        exact ?fk12_224
        first | refine qb rfl rfl rfl (aM (h := ?_)) | refine qb rfl rfl rfl (aB (h := ?_)) | refine qb rfl rfl rfl (aA (h := ?_)) | refine qb rfl rfl rfl (aS (h := ?_)) | refine qb rfl rfl rfl (aL (h := ?_)) | refine qb rfl rfl rfl (qy (K := []) (qe qa rfl (by exact True.intro)) rfl ?_)
        refine qn 3 (by kernel_rfl) ?_
        refine qb rfl rfl rfl (qR rfl rfl rfl rfl (HWi) rfl rfl rfl ?_)
        refine qn 4 (by kernel_rfl) ?_
        refine qb rfl rfl rfl (qR rfl rfl rfl rfl (hF) rfl rfl rfl ?_)
        refine qm (i := 5) (K := [12]) (by kernel_rfl) (by kernel_rfl) rfl rfl (qe qa rfl (by exact True.intro)) rfl ?_
        refine qm (i := 6) (K := [12]) (by kernel_rfl) (by kernel_rfl) rfl rfl (qe qa rfl (by exact True.intro)) rfl ?_
        refine qm (i := 7) (K := [12]) (by kernel_rfl) (by kernel_rfl) rfl rfl (qe qa rfl (by exact True.intro)) rfl ?_
        refine qn 9 (by kernel_rfl) ?_
        first | refine qb rfl rfl rfl (aM (h := ?_)) | refine qb rfl rfl rfl (aB (h := ?_)) | refine qb rfl rfl rfl (aA (h := ?_)) | refine qb rfl rfl rfl (aS (h := ?_)) | refine qb rfl rfl rfl (aL (h := ?_)) | refine qb rfl rfl rfl (qy (K := []) (qe qa rfl (by exact True.intro)) rfl ?_)
        refine qm (i := 10) (K := [12]) (by kernel_rfl) (by kernel_rfl) rfl rfl (qe qa rfl (by exact True.intro)) rfl ?_
        refine qY (by kernel_rfl) ?_
        refine SW.wk (qu [8, 9, 12, 13] [(8, 8), (12, 12)] rfl rfl) ?_
        exact ?fk12_224
        refine uR ?_
        refine uK hRX ?_
        refine uK js ?_
        refine qd ?_
        refine uQ ?_
        exact wJ rfl rfl
end Go.Proofs.YtlmgamnpfdgdeaaGreatDoor
namespace Go.Proofs.YtlmgamnpfdgdeaaGreatDoor
set_option linter.unusedVariables false
set_option linter.unusedSimpArgs false
open Go.RowKit
inductive RelsP (w : World) : List PV → List Value → Prop
  | nil : RelsP w [] []
  | cons {x : PV} {u : Value} {xs : List PV} {us : List Value} (h : RelP (fun _ => True) w x u) (r : RelsP w xs us) : RelsP w (x :: xs) (u :: us)
theorem RelsP.get {w : World} {xs : List PV} {us : List Value} (h : RelsP w xs us) : us.length = xs.length ∧ ∀ (i : Nat) (s : PV) (u : Value), xs[i]? = some s → us[i]? = some u → RelP (fun _ => True) w s u := by
  induction h with
  | nil => exact ⟨rfl, fun i s u h => by simp at h⟩
  | cons h r ih =>
    refine ⟨by simp [ih.1], fun i s u hs hu => ?_⟩
    cases i with
    | zero => simp at hs hu; subst hs; subst hu; exact h
    | succ i => exact ih.2 i s u (by simpa using hs) (by simpa using hu)
theorem law_callsG {P : Program} {f : FuncId} {args : List PV} {us : List Value} {W : World} (hg : GlOk (entry W) fun _ => False) (H : Holds P f args (.p (.v (.bool true))) []) (hr : RelsP W args us) : Calls P f us.toArray W fun e w' => e = .returned (.bool true) ∧ Below W.heap.size W w' := by
  obtain ⟨h1, h2⟩ := hr.get
  refine (H.2 W (fun _ => False) us ⟨fun _ h => h.elim, hg⟩ h1 fun i s u hs hu => (h2 i s u hs hu).weak fun _ _ _ => fun h => h).mono fun e w' ⟨v, γ, he, hb, _, hv⟩ => ?_
  have := hv.v_inv
  subst this
  exact ⟨he, hb⟩
theorem rel_agg {w : World} {cs : List Value} {x : List PV} (h : rPV (fun _ => True) w cs x) : RelP (fun _ => True) w (.agg x) (.agg cs.toArray) := .agg h.1 h.2
end Go.Proofs.YtlmgamnpfdgdeaaGreatDoor
namespace Go.Proofs.YtlmgamnpfdgdeaaGreatDoor
set_option linter.unusedSimpArgs false
open Go.ChangeShapes Go.WideShapes Go.ChangeAt Go.RowKit
set_option linter.unusedVariables false
theorem law_liftL {H : Type} {enc : TypeId × Value → H} {C : Checked} {os : Os} {f : FuncId} {fn : Func} {s : ChangeSpec} {bt : TypeId} {laid : List (String × DataW Unit)}
    (own : ownKnob C.prog.godebug = none) (started : os.Started) (noInit : C.prog.inits.idxOf? f = none) (hfn : C.prog.funcs[f]? = some fn)
    (witness : ∃ (w : World) (tape : Tape) (i : Input), w.os = os ∧ (w.forCall tape i).Shaped C.prog ∧ i.vars = [] ∧ Input.okWide C.prog (w.forCall tape i) .any w.heap.size f i ∧
      ((s.pre enc C.prog fn [] false (w.forCall tape i).memory i.args ∧ laidMetH C.prog laid (w.forCall tape i).memory) ∧ sizedMet enc C.prog fn (OpenSpec.ofChange s) false (w.forCall tape i).memory i.args) ∧ ({} : Assume).holds C.prog (lone (Frame.enter C.prog f i.args .normal) [] (w.forCall tape i)))
    (hl : laidOutB C.prog = true) (hts : ∀ t ∈ fn.params.toList, C.prog.readableRec t = true ∧ t < C.prog.types.size) (hvars : s.vars = []) (hvt : s.plain.varTypes C.prog = [])
    (hspec : ∀ (W : World) (args : Array Value) (ds : List (DataW H)) (ps : List MemPlace), DataW.TrodAll enc C.prog W 0 (fun _ => true) true fn.params.toList args.toList ds ps → s.fn H ds = { results := [.lit (.bool true)], args := ds })
    (hres : fn.resultTypes = #[bt]) (hbt : C.prog.underlying bt = some .bool)
    (walk : ∀ (W : World) (base : Nat) (args : Array Value) (ds : List (DataW H)) (ps : List MemPlace), laidMetH C.prog laid W →
      (∀ (j : Nat) t v, fn.params[j]? = some t → args[j]? = some v → Value.okWide C.prog W .any base t v) →
      DataW.TrodAll enc C.prog W 0 (fun _ => true) true fn.params.toList args.toList ds ps →
      (∀ n ∈ DataW.weightsEach C.prog fn.params.toList ds, n ≤ reachBytes) →
      Calls C.prog f args W fun e W' => e = .returned (.bool true) ∧ Below W.heap.size W W') :
    ReturnsInHanded {} C os f .any (fun w args => (s.pre enc C.prog fn [] false w args ∧ laidMetH C.prog laid w) ∧ sizedMet enc C.prog fn (OpenSpec.ofChange s) false w args) (s.post enc C.prog fn false true false false) := by
  refine returnsInHanded_of_change_and (X := fun w _ => laidMetH C.prog laid w) (fun _ _ _ hh h => h.of_heap hh) own started noInit hfn witness ?_
  intro W base args ds gs before hval hW _ hsz hL _
  have hlt : ∀ p ∈ before, p.block < W.heap.size := fun p hp => hW.lt p hp
  have hW0 := hW
  obtain ⟨p, q, hA, hV, rfl, hz, hn⟩ := hW0
  rw [hvars] at hV
  obtain ⟨rfl, rfl⟩ := trodVars_none hV
  have hsp := hspec W args ds p hA
  refine (walk W base args ds p hL hval hA ?_).mono fun e W' ⟨he, hb⟩ => ?_
  · intro n hn
    rw [hvt, List.append_nil, List.append_nil] at hsz
    exact of_decide_eq_true (List.all_eq_true.1 hsz n hn)
  · subst he
    refine ⟨_, rfl, ds, [], p ++ [], [], p, [], hW, ?_, ?_, ?_, World.keptBut_mono (fun x hx => ⟨hx, Or.inr (Or.inl (by simpa using hx))⟩) (hb.frame (· ∈ p ++ [])), fun h => by cases h⟩
    · rw [List.append_nil, hsp, hres]
      exact trodAll_mk1 (shut_bool hbt _)
    · rw [List.append_nil, hsp]
      exact trodAll_below hl hb hts (fun x hx => hlt x (by simpa using hx)) (fun x hx => by simpa using hlt x (by simpa using hx)) hA
    · rw [List.append_nil, hsp, hvars]
      rfl
theorem zW {P : Program} {x : String × DataW Unit} {l : List (String × DataW Unit)} {W : World} (h : laidMet P (x :: l) W) : laidMet P l W := by
  obtain ⟨ps, ⟨g, t, cs, fuel, p, q, h1, h2, h3, h4, h5, h6⟩, hn, hb⟩ := h
  subst h6
  exact ⟨q, h5, (List.nodup_append.1 hn).2.1, fun b off hm => hb b off (List.mem_append_right _ hm)⟩
theorem block_of_tab {P : Program} {W : World} {name : String} {k : IntKind} {zs : List Int} {g : Nat} (h : Lib.TabIs P W name k zs) (hg : P.globalNamed name = some g) {us : List Value} (hu : us = zs.map fun z => Value.int k z) : g < W.heap.size ∧ ∃ ty m, W.heap[g]? = some (.cells us.toArray ty m) := by
  unfold Lib.TabIs World.var? at h
  rw [hg] at h
  simp only [Option.bind_some] at h
  split at h
  · rename_i cs ty m hb
    cases h
    exact ⟨(Array.getElem?_eq_some_iff.1 hb).1, ty, m, by rw [hb, hu]⟩
  · cases h
theorem err_of_reads {P : Program} {W : World} {name nm : String} {g t : Nat} {ms : Array (String × TypeId)} {d : DataW Unit} (hg : P.globalNamed name = some g) (ht : (P.globals[g]?).map (·.type) = some t) (hu : P.underlying t = some (.interface ms)) (h : Lib.VarReads P W name (.iface nm d)) :
    g < W.heap.size ∧ ∃ ev ty m, W.heap[g]? = some (.cells #[ev] ty m) ∧ errV ev = true := by
  obtain ⟨g', t', cs, fuel, p, h1, h2, h3, h4⟩ := h
  rw [hg] at h1
  cases h1
  rw [ht] at h2
  cases h2
  have hc : ∃ u v, cs.toList = [.iface u v] := by
    cases fuel with
    | zero => cases h4
    | succ fuel =>
      unfold DataW.trod at h4
      rw [hu] at h4
      generalize cs.toList = l at h4
      match l, h4 with
      | [.iface u v], _ => exact ⟨u, v, rfl⟩
      | [.nilIface], h4 => simp at h4
      | [], h4 => simp at h4
      | _ :: _ :: _, h4 => simp at h4
  obtain ⟨u, v, hc⟩ := hc
  have hc' : cs = #[.iface u v] := Array.toList_inj.1 hc
  subst hc'
  unfold World.var? at h3
  rw [hg] at h3
  simp only [Option.bind_some] at h3
  split at h3
  · rename_i cs ty m hb
    cases h3
    exact ⟨(Array.getElem?_eq_some_iff.1 hb).1, _, ty, m, hb, rfl⟩
  · cases h3
end Go.Proofs.YtlmgamnpfdgdeaaGreatDoor
namespace Go.Proofs.YtlmgamnpfdgdeaaGreatDoor
open Go.RowKit
theorem own_none : ownKnob Tryz.prog.godebug = none := by kernel_rfl
theorem gl_of_laid {rest : List (String × DataW Unit)} {W : World} (h : laidMet Tryz.prog (("math/bits.deBruijn32tab", Rows.laid_math_bits_deBruijn32tab) :: ("math/bits.deBruijn64tab", Rows.laid_math_bits_deBruijn64tab) :: ("internal/strconv.uint64pow10", Rows.laid_internal_strconv_uint64pow10) :: ("strconv.ErrRange", Rows.laid_strconv_ErrRange) :: rest) W) : GlOk (entry W) fun _ => False := by
  have b0 := block_of_tab (g := 4) (us := [.int .u8 0, .int .u8 1, .int .u8 28, .int .u8 2, .int .u8 29, .int .u8 14, .int .u8 24, .int .u8 3, .int .u8 30, .int .u8 22, .int .u8 20, .int .u8 15, .int .u8 25, .int .u8 17, .int .u8 4, .int .u8 8, .int .u8 31, .int .u8 27, .int .u8 13, .int .u8 23, .int .u8 21, .int .u8 19, .int .u8 16, .int .u8 7, .int .u8 26, .int .u8 12, .int .u8 18, .int .u8 6, .int .u8 11, .int .u8 5, .int .u8 10, .int .u8 9]) (Lib.tabIs_of_head (k := .u8) (zs := [0, 1, 28, 2, 29, 14, 24, 3, 30, 22, 20, 15, 25, 17, 4, 8, 31, 27, 13, 23, 21, 19, 16, 7, 26, 12, 18, 6, 11, 5, 10, 9]) (g := 4) (t := 327) (e := 5) (n := 32) (by kernel_rfl) (by kernel_rfl) Tryz.underlying327 Tryz.underlying5 (by kernel_rfl) (by kernel_rfl) h) (by kernel_rfl) rfl
  have b1 := block_of_tab (g := 5) (us := [.int .u8 0, .int .u8 1, .int .u8 56, .int .u8 2, .int .u8 57, .int .u8 49, .int .u8 28, .int .u8 3, .int .u8 61, .int .u8 58, .int .u8 42, .int .u8 50, .int .u8 38, .int .u8 29, .int .u8 17, .int .u8 4, .int .u8 62, .int .u8 47, .int .u8 59, .int .u8 36, .int .u8 45, .int .u8 43, .int .u8 51, .int .u8 22, .int .u8 53, .int .u8 39, .int .u8 33, .int .u8 30, .int .u8 24, .int .u8 18, .int .u8 12, .int .u8 5, .int .u8 63, .int .u8 55, .int .u8 48, .int .u8 27, .int .u8 60, .int .u8 41, .int .u8 37, .int .u8 16, .int .u8 46, .int .u8 35, .int .u8 44, .int .u8 21, .int .u8 52, .int .u8 32, .int .u8 23, .int .u8 11, .int .u8 54, .int .u8 26, .int .u8 40, .int .u8 15, .int .u8 34, .int .u8 20, .int .u8 31, .int .u8 10, .int .u8 25, .int .u8 14, .int .u8 19, .int .u8 9, .int .u8 13, .int .u8 8, .int .u8 7, .int .u8 6]) (Lib.tabIs_of_head (k := .u8) (zs := [0, 1, 56, 2, 57, 49, 28, 3, 61, 58, 42, 50, 38, 29, 17, 4, 62, 47, 59, 36, 45, 43, 51, 22, 53, 39, 33, 30, 24, 18, 12, 5, 63, 55, 48, 27, 60, 41, 37, 16, 46, 35, 44, 21, 52, 32, 23, 11, 54, 26, 40, 15, 34, 20, 31, 10, 25, 14, 19, 9, 13, 8, 7, 6]) (g := 5) (t := 328) (e := 5) (n := 64) (by kernel_rfl) (by kernel_rfl) Tryz.underlying328 Tryz.underlying5 (by kernel_rfl) (by kernel_rfl) (zW h)) (by kernel_rfl) rfl
  have b2 := block_of_tab (g := 3) (us := [.int .u64 1, .int .u64 10, .int .u64 100, .int .u64 1000, .int .u64 10000, .int .u64 100000, .int .u64 1000000, .int .u64 10000000, .int .u64 100000000, .int .u64 1000000000, .int .u64 10000000000, .int .u64 100000000000, .int .u64 1000000000000, .int .u64 10000000000000, .int .u64 100000000000000, .int .u64 1000000000000000, .int .u64 10000000000000000, .int .u64 100000000000000000, .int .u64 1000000000000000000, .int .u64 10000000000000000000]) (Lib.tabIs_of_head (k := .u64) (zs := [1, 10, 100, 1000, 10000, 100000, 1000000, 10000000, 100000000, 1000000000, 10000000000, 100000000000, 1000000000000, 10000000000000, 100000000000000, 1000000000000000, 10000000000000000, 100000000000000000, 1000000000000000000, 10000000000000000000]) (g := 3) (t := 318) (e := 293) (n := 20) (by kernel_rfl) (by kernel_rfl) Tryz.underlying318 Tryz.underlying293 (by kernel_rfl) (by kernel_rfl) (zW (zW h))) (by kernel_rfl) rfl
  have bE := err_of_reads (g := 2) (t := 223) (by kernel_rfl) (by kernel_rfl) Tryz.underlying223 (Lib.laidMet.reads (zW (zW (zW h))) (List.mem_cons_self ..))
  refine ⟨?_, fun g hg => ?_⟩
  rotate_left
  · have e : g = 2 := by simpa [ETab] using hg
    subst e
    exact ⟨bE.1, fun h => h, bE.2⟩
  intro g us hg
  simp only [GTab, qv] at hg
  repeat' split at hg
  all_goals first | cases hg; done | skip
  all_goals (subst_vars; cases hg)
  all_goals first | exact ⟨b0.1, fun h => h, b0.2⟩ | exact ⟨b1.1, fun h => h, b1.2⟩ | exact ⟨b2.1, fun h => h, b2.2⟩
noncomputable def lowB : Nat := (World.holding Tryz.prog default ⟨#[], #[], []⟩).heap.size
noncomputable def worldB (os : Os) : World :=
  let w0 := World.holding Tryz.prog os ⟨#[.cells #[.string ⟨#[118, 97, 108, 117, 101, 32, 111, 117, 116, 32, 111, 102, 32, 114, 97, 110, 103, 101]⟩] 325, .cells #[.string ⟨#[105, 110, 118, 97, 108, 105, 100, 32, 115, 121, 110, 116, 97, 120]⟩] 325], #[], []⟩
  { w0 with heap := ((((((((((w0.heap).modify 4 fun | .cells _ t frozen => .cells #[.int .u8 0, .int .u8 1, .int .u8 28, .int .u8 2, .int .u8 29, .int .u8 14, .int .u8 24, .int .u8 3, .int .u8 30, .int .u8 22, .int .u8 20, .int .u8 15, .int .u8 25, .int .u8 17, .int .u8 4, .int .u8 8, .int .u8 31, .int .u8 27, .int .u8 13, .int .u8 23, .int .u8 21, .int .u8 19, .int .u8 16, .int .u8 7, .int .u8 26, .int .u8 12, .int .u8 18, .int .u8 6, .int .u8 11, .int .u8 5, .int .u8 10, .int .u8 9] t frozen | o => o)).modify 5 fun | .cells _ t frozen => .cells #[.int .u8 0, .int .u8 1, .int .u8 56, .int .u8 2, .int .u8 57, .int .u8 49, .int .u8 28, .int .u8 3, .int .u8 61, .int .u8 58, .int .u8 42, .int .u8 50, .int .u8 38, .int .u8 29, .int .u8 17, .int .u8 4, .int .u8 62, .int .u8 47, .int .u8 59, .int .u8 36, .int .u8 45, .int .u8 43, .int .u8 51, .int .u8 22, .int .u8 53, .int .u8 39, .int .u8 33, .int .u8 30, .int .u8 24, .int .u8 18, .int .u8 12, .int .u8 5, .int .u8 63, .int .u8 55, .int .u8 48, .int .u8 27, .int .u8 60, .int .u8 41, .int .u8 37, .int .u8 16, .int .u8 46, .int .u8 35, .int .u8 44, .int .u8 21, .int .u8 52, .int .u8 32, .int .u8 23, .int .u8 11, .int .u8 54, .int .u8 26, .int .u8 40, .int .u8 15, .int .u8 34, .int .u8 20, .int .u8 31, .int .u8 10, .int .u8 25, .int .u8 14, .int .u8 19, .int .u8 9, .int .u8 13, .int .u8 8, .int .u8 7, .int .u8 6] t frozen | o => o)).modify 3 fun | .cells _ t frozen => .cells #[.int .u64 1, .int .u64 10, .int .u64 100, .int .u64 1000, .int .u64 10000, .int .u64 100000, .int .u64 1000000, .int .u64 10000000, .int .u64 100000000, .int .u64 1000000000, .int .u64 10000000000, .int .u64 100000000000, .int .u64 1000000000000, .int .u64 10000000000000, .int .u64 100000000000000, .int .u64 1000000000000000, .int .u64 10000000000000000, .int .u64 100000000000000000, .int .u64 1000000000000000000, .int .u64 10000000000000000000] t frozen | o => o)).modify 2 fun | .cells _ t frozen => .cells #[.iface 323 (.pointer (some ⟨lowB + 0, 0, none⟩))] t frozen | o => o)).modify 1 fun | .cells _ t frozen => .cells #[.iface 323 (.pointer (some ⟨lowB + 1, 0, none⟩))] t frozen | o => o) }
theorem worldB_met (os : Os) (args : Array Value) : laidMet Tryz.prog [("math/bits.deBruijn32tab", Rows.laid_math_bits_deBruijn32tab), ("math/bits.deBruijn64tab", Rows.laid_math_bits_deBruijn64tab), ("internal/strconv.uint64pow10", Rows.laid_internal_strconv_uint64pow10), ("strconv.ErrRange", Rows.laid_strconv_ErrRange), ("strconv.ErrSyntax", Rows.laid_strconv_ErrSyntax)] ((worldB os).forCall (fun _ _ => 0) ⟨#[], args, []⟩).memory :=
  laidMet_of_run' 100 (by kernel_rfl) (by kernel_rfl)
end Go.Proofs.YtlmgamnpfdgdeaaGreatDoor
