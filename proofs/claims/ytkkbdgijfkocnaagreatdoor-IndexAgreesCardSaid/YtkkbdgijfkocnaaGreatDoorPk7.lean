/-
  What the statement leans on, part 7: FnsI, IndRuns, IndexAgrees, LawKit0, LawL, Laid.
-/
import Derived.Test.YtkkbdgijfkocnaaGreatDoorRows
import Derived.Lib.LaidTab
import Derived.Lib.LaidU8
import Derived.LaidLaws
import Derived.LaidHandle
import Derived.Stop.Joined
import Derived.ChangeSame
import Derived.ChangeVars
import Derived.JoinedOf
import Derived.RowKitTokens
import Derived.Test.YtkkbdgijfkocnaaGreatDoorPk1
import Derived.Test.YtkkbdgijfkocnaaGreatDoorPk2
import Derived.Test.YtkkbdgijfkocnaaGreatDoorPk3
import Derived.Test.YtkkbdgijfkocnaaGreatDoorPk4
import Derived.Test.YtkkbdgijfkocnaaGreatDoorPk5
import Derived.Test.YtkkbdgijfkocnaaGreatDoorPk6
namespace Go.Proofs.YtkkbdgijfkocnaaGreatDoor
open Go.RowKit
noncomputable def fnsi17 : FnI := ⟨29, Tryz.f17.body.getD .skip, [.tmp 0], []⟩
theorem fnsi17_ok : FnOk Tryz.prog 17 fnsi17 := ⟨_, Tryz.func17, by kernel_rfl, by kernel_rfl, by kernel_rfl, by kernel_rfl, by kernel_rfl, by kernel_rfl⟩
noncomputable def fnsi34 : FnI := ⟨38, Tryz.f34.body.getD .skip, [.cell 2 78, .tmp 3], []⟩
theorem fnsi34_ok : FnOk Tryz.prog 34 fnsi34 := ⟨_, Tryz.func34, by kernel_rfl, by kernel_rfl, by kernel_rfl, by kernel_rfl, by kernel_rfl, by kernel_rfl⟩
noncomputable def fnsi22 : FnI := ⟨61, Tryz.f22.body.getD .skip, [.cell 2 32, .tmp 3, .tmp 4], [(11, [(0, true), (1, true), (2, true), (3, true), (4, true), (5, true), (6, true), (7, true), (8, true), (9, false), (10, false), (11, false)])]⟩
theorem fnsi22_ok : FnOk Tryz.prog 22 fnsi22 := ⟨_, Tryz.func22, by kernel_rfl, by kernel_rfl, by kernel_rfl, by kernel_rfl, by kernel_rfl, by kernel_rfl⟩
noncomputable def fnsi47 : FnI := ⟨19, Tryz.f47.body.getD .skip, [], []⟩
theorem fnsi47_ok : FnOk Tryz.prog 47 fnsi47 := ⟨_, Tryz.func47, by kernel_rfl, by kernel_rfl, by kernel_rfl, by kernel_rfl, by kernel_rfl, by kernel_rfl⟩
noncomputable def fnsi12 : FnI := ⟨10, Tryz.f12.body.getD .skip, [.tmp 2], []⟩
theorem fnsi12_ok : FnOk Tryz.prog 12 fnsi12 := ⟨_, Tryz.func12, by kernel_rfl, by kernel_rfl, by kernel_rfl, by kernel_rfl, by kernel_rfl, by kernel_rfl⟩
noncomputable def fnsi28 : FnI := ⟨52, Tryz.f28.body.getD .skip, [.tmp 6], []⟩
theorem fnsi28_ok : FnOk Tryz.prog 28 fnsi28 := ⟨_, Tryz.func28, by kernel_rfl, by kernel_rfl, by kernel_rfl, by kernel_rfl, by kernel_rfl, by kernel_rfl⟩
noncomputable def fnsi54 : FnI := ⟨39, Tryz.f54.body.getD .skip, [.tmp 4], []⟩
theorem fnsi54_ok : FnOk Tryz.prog 54 fnsi54 := ⟨_, Tryz.func54, by kernel_rfl, by kernel_rfl, by kernel_rfl, by kernel_rfl, by kernel_rfl, by kernel_rfl⟩
noncomputable def fnsi88 : FnI := ⟨39, Tryz.f88.body.getD .skip, [.tmp 2], []⟩
theorem fnsi88_ok : FnOk Tryz.prog 88 fnsi88 := ⟨_, Tryz.func88, by kernel_rfl, by kernel_rfl, by kernel_rfl, by kernel_rfl, by kernel_rfl, by kernel_rfl⟩
noncomputable def fnsi124 : FnI := ⟨49, Tryz.f124.body.getD .skip, [.tmp 2], []⟩
theorem fnsi124_ok : FnOk Tryz.prog 124 fnsi124 := ⟨_, Tryz.func124, by kernel_rfl, by kernel_rfl, by kernel_rfl, by kernel_rfl, by kernel_rfl, by kernel_rfl⟩
noncomputable def fnsi89 : FnI := ⟨38, Tryz.f89.body.getD .skip, [.tmp 2], []⟩
theorem fnsi89_ok : FnOk Tryz.prog 89 fnsi89 := ⟨_, Tryz.func89, by kernel_rfl, by kernel_rfl, by kernel_rfl, by kernel_rfl, by kernel_rfl, by kernel_rfl⟩
noncomputable def fnsi126 : FnI := ⟨60, Tryz.f126.body.getD .skip, [.tmp 4, .tmp 5], [(11, [(0, true), (1, true), (2, true), (3, false), (4, false), (5, false), (6, false), (7, false), (8, false), (9, false)])]⟩
theorem fnsi126_ok : FnOk Tryz.prog 126 fnsi126 := ⟨_, Tryz.func126, by kernel_rfl, by kernel_rfl, by kernel_rfl, by kernel_rfl, by kernel_rfl, by kernel_rfl⟩
noncomputable def fnsi160 : FnI := ⟨37, Tryz.f160.body.getD .skip, [.tmp 2], []⟩
theorem fnsi160_ok : FnOk Tryz.prog 160 fnsi160 := ⟨_, Tryz.func160, by kernel_rfl, by kernel_rfl, by kernel_rfl, by kernel_rfl, by kernel_rfl, by kernel_rfl⟩
noncomputable def fnsi178 : FnI := ⟨16, Tryz.f178.body.getD .skip, [.tmp 2], []⟩
theorem fnsi178_ok : FnOk Tryz.prog 178 fnsi178 := ⟨_, Tryz.func178, by kernel_rfl, by kernel_rfl, by kernel_rfl, by kernel_rfl, by kernel_rfl, by kernel_rfl⟩
noncomputable def fnsi155 : FnI := ⟨61, Tryz.f155.body.getD .skip, [.tmp 2], []⟩
theorem fnsi155_ok : FnOk Tryz.prog 155 fnsi155 := ⟨_, Tryz.func155, by kernel_rfl, by kernel_rfl, by kernel_rfl, by kernel_rfl, by kernel_rfl, by kernel_rfl⟩
noncomputable def fnsi159 : FnI := ⟨35, Tryz.f159.body.getD .skip, [.tmp 2, .tmp 3], []⟩
theorem fnsi159_ok : FnOk Tryz.prog 159 fnsi159 := ⟨_, Tryz.func159, by kernel_rfl, by kernel_rfl, by kernel_rfl, by kernel_rfl, by kernel_rfl, by kernel_rfl⟩
noncomputable def fnsi87 : FnI := ⟨21, Tryz.f87.body.getD .skip, [.tmp 2], []⟩
theorem fnsi87_ok : FnOk Tryz.prog 87 fnsi87 := ⟨_, Tryz.func87, by kernel_rfl, by kernel_rfl, by kernel_rfl, by kernel_rfl, by kernel_rfl, by kernel_rfl⟩
noncomputable def fnsi125 : FnI := ⟨25, Tryz.f125.body.getD .skip, [.tmp 2], []⟩
theorem fnsi125_ok : FnOk Tryz.prog 125 fnsi125 := ⟨_, Tryz.func125, by kernel_rfl, by kernel_rfl, by kernel_rfl, by kernel_rfl, by kernel_rfl, by kernel_rfl⟩
noncomputable def fnsi158 : FnI := ⟨22, Tryz.f158.body.getD .skip, [.tmp 2], []⟩
theorem fnsi158_ok : FnOk Tryz.prog 158 fnsi158 := ⟨_, Tryz.func158, by kernel_rfl, by kernel_rfl, by kernel_rfl, by kernel_rfl, by kernel_rfl, by kernel_rfl⟩
noncomputable def fnsi177 : FnI := ⟨21, Tryz.f177.body.getD .skip, [.tmp 2], []⟩
theorem fnsi177_ok : FnOk Tryz.prog 177 fnsi177 := ⟨_, Tryz.func177, by kernel_rfl, by kernel_rfl, by kernel_rfl, by kernel_rfl, by kernel_rfl, by kernel_rfl⟩
noncomputable def fnsi157 : FnI := ⟨9, Tryz.f157.body.getD .skip, [.tmp 2], []⟩
theorem fnsi157_ok : FnOk Tryz.prog 157 fnsi157 := ⟨_, Tryz.func157, by kernel_rfl, by kernel_rfl, by kernel_rfl, by kernel_rfl, by kernel_rfl, by kernel_rfl⟩
noncomputable def fnsi86 : FnI := ⟨28, Tryz.f86.body.getD .skip, [.tmp 4], []⟩
theorem fnsi86_ok : FnOk Tryz.prog 86 fnsi86 := ⟨_, Tryz.func86, by kernel_rfl, by kernel_rfl, by kernel_rfl, by kernel_rfl, by kernel_rfl, by kernel_rfl⟩
noncomputable def fnsi53 : FnI := ⟨68, Tryz.f53.body.getD .skip, [.tmp 4], []⟩
theorem fnsi53_ok : FnOk Tryz.prog 53 fnsi53 := ⟨_, Tryz.func53, by kernel_rfl, by kernel_rfl, by kernel_rfl, by kernel_rfl, by kernel_rfl, by kernel_rfl⟩
noncomputable def fnsi46 : FnI := ⟨7, Tryz.f46.body.getD .skip, [], []⟩
theorem fnsi46_ok : FnOk Tryz.prog 46 fnsi46 := ⟨_, Tryz.func46, by kernel_rfl, by kernel_rfl, by kernel_rfl, by kernel_rfl, by kernel_rfl, by kernel_rfl⟩
noncomputable def fnsi45 : FnI := ⟨13, Tryz.f45.body.getD .skip, [.cell 2 122], [(1, [(0, true), (1, true), (2, true), (3, true), (4, false), (5, false), (6, false), (7, false), (8, false), (9, false), (10, false)])]⟩
theorem fnsi45_ok : FnOk Tryz.prog 45 fnsi45 := ⟨_, Tryz.func45, by kernel_rfl, by kernel_rfl, by kernel_rfl, by kernel_rfl, by kernel_rfl, by kernel_rfl⟩
noncomputable def fnsi44 : FnI := ⟨39, Tryz.f44.body.getD .skip, [.cell 4 32], []⟩
theorem fnsi44_ok : FnOk Tryz.prog 44 fnsi44 := ⟨_, Tryz.func44, by kernel_rfl, by kernel_rfl, by kernel_rfl, by kernel_rfl, by kernel_rfl, by kernel_rfl⟩
noncomputable def fnsi81 : FnI := ⟨28, Tryz.f81.body.getD .skip, [.tmp 2], []⟩
theorem fnsi81_ok : FnOk Tryz.prog 81 fnsi81 := ⟨_, Tryz.func81, by kernel_rfl, by kernel_rfl, by kernel_rfl, by kernel_rfl, by kernel_rfl, by kernel_rfl⟩
noncomputable def fnsi116 : FnI := ⟨10, Tryz.f116.body.getD .skip, [], []⟩
theorem fnsi116_ok : FnOk Tryz.prog 116 fnsi116 := ⟨_, Tryz.func116, by kernel_rfl, by kernel_rfl, by kernel_rfl, by kernel_rfl, by kernel_rfl, by kernel_rfl⟩
noncomputable def fnsi76 : FnI := ⟨25, Tryz.f76.body.getD .skip, [.tmp 2], []⟩
theorem fnsi76_ok : FnOk Tryz.prog 76 fnsi76 := ⟨_, Tryz.func76, by kernel_rfl, by kernel_rfl, by kernel_rfl, by kernel_rfl, by kernel_rfl, by kernel_rfl⟩
noncomputable def fnsi75 : FnI := ⟨28, Tryz.f75.body.getD .skip, [.tmp 4], []⟩
theorem fnsi75_ok : FnOk Tryz.prog 75 fnsi75 := ⟨_, Tryz.func75, by kernel_rfl, by kernel_rfl, by kernel_rfl, by kernel_rfl, by kernel_rfl, by kernel_rfl⟩
noncomputable def fnsi114 : FnI := ⟨18, Tryz.f114.body.getD .skip, [.tmp 4], []⟩
theorem fnsi114_ok : FnOk Tryz.prog 114 fnsi114 := ⟨_, Tryz.func114, by kernel_rfl, by kernel_rfl, by kernel_rfl, by kernel_rfl, by kernel_rfl, by kernel_rfl⟩
noncomputable def fnsi117 : FnI := ⟨29, Tryz.f117.body.getD .skip, [.tmp 4], []⟩
theorem fnsi117_ok : FnOk Tryz.prog 117 fnsi117 := ⟨_, Tryz.func117, by kernel_rfl, by kernel_rfl, by kernel_rfl, by kernel_rfl, by kernel_rfl, by kernel_rfl⟩
noncomputable def fnsi113 : FnI := ⟨19, Tryz.f113.body.getD .skip, [.tmp 4], []⟩
theorem fnsi113_ok : FnOk Tryz.prog 113 fnsi113 := ⟨_, Tryz.func113, by kernel_rfl, by kernel_rfl, by kernel_rfl, by kernel_rfl, by kernel_rfl, by kernel_rfl⟩
noncomputable def fnsi80 : FnI := ⟨51, Tryz.f80.body.getD .skip, [.tmp 2], []⟩
theorem fnsi80_ok : FnOk Tryz.prog 80 fnsi80 := ⟨_, Tryz.func80, by kernel_rfl, by kernel_rfl, by kernel_rfl, by kernel_rfl, by kernel_rfl, by kernel_rfl⟩
noncomputable def fnsi118 : FnI := ⟨23, Tryz.f118.body.getD .skip, [.cell 4 109], []⟩
theorem fnsi118_ok : FnOk Tryz.prog 118 fnsi118 := ⟨_, Tryz.func118, by kernel_rfl, by kernel_rfl, by kernel_rfl, by kernel_rfl, by kernel_rfl, by kernel_rfl⟩
noncomputable def fnsi78 : FnI := ⟨10, Tryz.f78.body.getD .skip, [], []⟩
theorem fnsi78_ok : FnOk Tryz.prog 78 fnsi78 := ⟨_, Tryz.func78, by kernel_rfl, by kernel_rfl, by kernel_rfl, by kernel_rfl, by kernel_rfl, by kernel_rfl⟩
noncomputable def fnsi149 : FnI := ⟨25, Tryz.f149.body.getD .skip, [.tmp 6], []⟩
theorem fnsi149_ok : FnOk Tryz.prog 149 fnsi149 := ⟨_, Tryz.func149, by kernel_rfl, by kernel_rfl, by kernel_rfl, by kernel_rfl, by kernel_rfl, by kernel_rfl⟩
noncomputable def fnsi168 : FnI := ⟨52, Tryz.f168.body.getD .skip, [.tmp 4, .tmp 5], [(10, [(0, true), (1, true), (2, true), (3, true), (4, false), (5, false)])]⟩
theorem fnsi168_ok : FnOk Tryz.prog 168 fnsi168 := ⟨_, Tryz.func168, by kernel_rfl, by kernel_rfl, by kernel_rfl, by kernel_rfl, by kernel_rfl, by kernel_rfl⟩
noncomputable def fnsi186 : FnI := ⟨56, Tryz.f186.body.getD .skip, [.cell 2 76], []⟩
theorem fnsi186_ok : FnOk Tryz.prog 186 fnsi186 := ⟨_, Tryz.func186, by kernel_rfl, by kernel_rfl, by kernel_rfl, by kernel_rfl, by kernel_rfl, by kernel_rfl⟩
noncomputable def fnsi185 : FnI := ⟨17, Tryz.f185.body.getD .skip, [.cell 2 74], []⟩
theorem fnsi185_ok : FnOk Tryz.prog 185 fnsi185 := ⟨_, Tryz.func185, by kernel_rfl, by kernel_rfl, by kernel_rfl, by kernel_rfl, by kernel_rfl, by kernel_rfl⟩
noncomputable def fnsi187 : FnI := ⟨36, Tryz.f187.body.getD .skip, [.tmp 4, .cell 5 137], [(9, [(0, true), (1, true), (2, false), (3, false)])]⟩
theorem fnsi187_ok : FnOk Tryz.prog 187 fnsi187 := ⟨_, Tryz.func187, by kernel_rfl, by kernel_rfl, by kernel_rfl, by kernel_rfl, by kernel_rfl, by kernel_rfl⟩
noncomputable def fnsi197 : FnI := ⟨15, Tryz.f197.body.getD .skip, [.tmp 2], []⟩
theorem fnsi197_ok : FnOk Tryz.prog 197 fnsi197 := ⟨_, Tryz.func197, by kernel_rfl, by kernel_rfl, by kernel_rfl, by kernel_rfl, by kernel_rfl, by kernel_rfl⟩
noncomputable def fnsi77 : FnI := ⟨23, Tryz.f77.body.getD .skip, [.tmp 2], []⟩
theorem fnsi77_ok : FnOk Tryz.prog 77 fnsi77 := ⟨_, Tryz.func77, by kernel_rfl, by kernel_rfl, by kernel_rfl, by kernel_rfl, by kernel_rfl, by kernel_rfl⟩
noncomputable def fnsi115 : FnI := ⟨24, Tryz.f115.body.getD .skip, [.tmp 2], []⟩
theorem fnsi115_ok : FnOk Tryz.prog 115 fnsi115 := ⟨_, Tryz.func115, by kernel_rfl, by kernel_rfl, by kernel_rfl, by kernel_rfl, by kernel_rfl, by kernel_rfl⟩
noncomputable def fnsi148 : FnI := ⟨20, Tryz.f148.body.getD .skip, [.tmp 2], []⟩
theorem fnsi148_ok : FnOk Tryz.prog 148 fnsi148 := ⟨_, Tryz.func148, by kernel_rfl, by kernel_rfl, by kernel_rfl, by kernel_rfl, by kernel_rfl, by kernel_rfl⟩
noncomputable def fnsi167 : FnI := ⟨32, Tryz.f167.body.getD .skip, [.cell 2 78], []⟩
theorem fnsi167_ok : FnOk Tryz.prog 167 fnsi167 := ⟨_, Tryz.func167, by kernel_rfl, by kernel_rfl, by kernel_rfl, by kernel_rfl, by kernel_rfl, by kernel_rfl⟩
noncomputable def fnsi79 : FnI := ⟨33, Tryz.f79.body.getD .skip, [.tmp 4], []⟩
theorem fnsi79_ok : FnOk Tryz.prog 79 fnsi79 := ⟨_, Tryz.func79, by kernel_rfl, by kernel_rfl, by kernel_rfl, by kernel_rfl, by kernel_rfl, by kernel_rfl⟩
noncomputable def fnsi43 : FnI := ⟨52, Tryz.f43.body.getD .skip, [.tmp 2, .tmp 3, .tmp 4], []⟩
theorem fnsi43_ok : FnOk Tryz.prog 43 fnsi43 := ⟨_, Tryz.func43, by kernel_rfl, by kernel_rfl, by kernel_rfl, by kernel_rfl, by kernel_rfl, by kernel_rfl⟩
noncomputable def fnsi74 : FnI := ⟨106, Tryz.f74.body.getD .skip, [.cell 2 122, .tmp 3], [(30, [(0, true), (1, true), (2, false), (3, false), (4, false), (5, false), (6, false)])]⟩
theorem fnsi74_ok : FnOk Tryz.prog 74 fnsi74 := ⟨_, Tryz.func74, by kernel_rfl, by kernel_rfl, by kernel_rfl, by kernel_rfl, by kernel_rfl, by kernel_rfl⟩
noncomputable def fnsi111 : FnI := ⟨50, Tryz.f111.body.getD .skip, [.tmp 2, .tmp 3], []⟩
theorem fnsi111_ok : FnOk Tryz.prog 111 fnsi111 := ⟨_, Tryz.func111, by kernel_rfl, by kernel_rfl, by kernel_rfl, by kernel_rfl, by kernel_rfl, by kernel_rfl⟩
noncomputable def fnsi146 : FnI := ⟨38, Tryz.f146.body.getD .skip, [.tmp 2, .tmp 3], [(3, [(0, true), (1, true), (4, true), (5, true), (2, false), (3, true), (6, false), (7, false), (8, false), (9, false)])]⟩
theorem fnsi146_ok : FnOk Tryz.prog 146 fnsi146 := ⟨_, Tryz.func146, by kernel_rfl, by kernel_rfl, by kernel_rfl, by kernel_rfl, by kernel_rfl, by kernel_rfl⟩
noncomputable def fnsi145 : FnI := ⟨17, Tryz.f145.body.getD .skip, [.tmp 2], []⟩
theorem fnsi145_ok : FnOk Tryz.prog 145 fnsi145 := ⟨_, Tryz.func145, by kernel_rfl, by kernel_rfl, by kernel_rfl, by kernel_rfl, by kernel_rfl, by kernel_rfl⟩
noncomputable def fnsi165 : FnI := ⟨20, Tryz.f165.body.getD .skip, [.tmp 2], []⟩
theorem fnsi165_ok : FnOk Tryz.prog 165 fnsi165 := ⟨_, Tryz.func165, by kernel_rfl, by kernel_rfl, by kernel_rfl, by kernel_rfl, by kernel_rfl, by kernel_rfl⟩
noncomputable def fnsi109 : FnI := ⟨9, Tryz.f109.body.getD .skip, [.tmp 2], []⟩
theorem fnsi109_ok : FnOk Tryz.prog 109 fnsi109 := ⟨_, Tryz.func109, by kernel_rfl, by kernel_rfl, by kernel_rfl, by kernel_rfl, by kernel_rfl, by kernel_rfl⟩
noncomputable def fnsi110 : FnI := ⟨35, Tryz.f110.body.getD .skip, [.tmp 4, .tmp 5], []⟩
theorem fnsi110_ok : FnOk Tryz.prog 110 fnsi110 := ⟨_, Tryz.func110, by kernel_rfl, by kernel_rfl, by kernel_rfl, by kernel_rfl, by kernel_rfl, by kernel_rfl⟩
noncomputable def fnsi142 : FnI := ⟨20, Tryz.f142.body.getD .skip, [.tmp 4], []⟩
theorem fnsi142_ok : FnOk Tryz.prog 142 fnsi142 := ⟨_, Tryz.func142, by kernel_rfl, by kernel_rfl, by kernel_rfl, by kernel_rfl, by kernel_rfl, by kernel_rfl⟩
noncomputable def fnsi108 : FnI := ⟨12, Tryz.f108.body.getD .skip, [.tmp 2], []⟩
theorem fnsi108_ok : FnOk Tryz.prog 108 fnsi108 := ⟨_, Tryz.func108, by kernel_rfl, by kernel_rfl, by kernel_rfl, by kernel_rfl, by kernel_rfl, by kernel_rfl⟩
noncomputable def fnsi143 : FnI := ⟨17, Tryz.f143.body.getD .skip, [.tmp 2], []⟩
theorem fnsi143_ok : FnOk Tryz.prog 143 fnsi143 := ⟨_, Tryz.func143, by kernel_rfl, by kernel_rfl, by kernel_rfl, by kernel_rfl, by kernel_rfl, by kernel_rfl⟩
noncomputable def FnsIF : List (FuncId × FnI) := [(17, fnsi17),
 (34, fnsi34),
 (22, fnsi22),
 (47, fnsi47),
 (12, fnsi12),
 (28, fnsi28),
 (54, fnsi54),
 (88, fnsi88),
 (124, fnsi124),
 (89, fnsi89),
 (126, fnsi126),
 (160, fnsi160),
 (178, fnsi178),
 (155, fnsi155),
 (159, fnsi159),
 (87, fnsi87),
 (125, fnsi125),
 (158, fnsi158),
 (177, fnsi177),
 (157, fnsi157),
 (86, fnsi86),
 (53, fnsi53),
 (46, fnsi46),
 (45, fnsi45),
 (44, fnsi44),
 (81, fnsi81),
 (116, fnsi116),
 (76, fnsi76),
 (75, fnsi75),
 (114, fnsi114),
 (117, fnsi117),
 (113, fnsi113),
 (80, fnsi80),
 (118, fnsi118),
 (78, fnsi78),
 (149, fnsi149),
 (168, fnsi168),
 (186, fnsi186),
 (185, fnsi185),
 (187, fnsi187),
 (197, fnsi197),
 (77, fnsi77),
 (115, fnsi115),
 (148, fnsi148),
 (167, fnsi167),
 (79, fnsi79),
 (43, fnsi43),
 (74, fnsi74),
 (111, fnsi111),
 (146, fnsi146),
 (145, fnsi145),
 (165, fnsi165),
 (109, fnsi109),
 (110, fnsi110),
 (142, fnsi142),
 (108, fnsi108),
 (143, fnsi143)]
theorem FnsIF_ok (C : FuncId → List PV → Option SV) : FOk Tryz.prog ⟨TTab, FnsIF, C⟩ := qn fnsi17_ok <|
 qn fnsi34_ok <|
 qn fnsi22_ok <|
 qn fnsi47_ok <|
 qn fnsi12_ok <|
 qn fnsi28_ok <|
 qn fnsi54_ok <|
 qn fnsi88_ok <|
 qn fnsi124_ok <|
 qn fnsi89_ok <|
 qn fnsi126_ok <|
 qn fnsi160_ok <|
 qn fnsi178_ok <|
 qn fnsi155_ok <|
 qn fnsi159_ok <|
 qn fnsi87_ok <|
 qn fnsi125_ok <|
 qn fnsi158_ok <|
 qn fnsi177_ok <|
 qn fnsi157_ok <|
 qn fnsi86_ok <|
 qn fnsi53_ok <|
 qn fnsi46_ok <|
 qn fnsi45_ok <|
 qn fnsi44_ok <|
 qn fnsi81_ok <|
 qn fnsi116_ok <|
 qn fnsi76_ok <|
 qn fnsi75_ok <|
 qn fnsi114_ok <|
 qn fnsi117_ok <|
 qn fnsi113_ok <|
 qn fnsi80_ok <|
 qn fnsi118_ok <|
 qn fnsi78_ok <|
 qn fnsi149_ok <|
 qn fnsi168_ok <|
 qn fnsi186_ok <|
 qn fnsi185_ok <|
 qn fnsi187_ok <|
 qn fnsi197_ok <|
 qn fnsi77_ok <|
 qn fnsi115_ok <|
 qn fnsi148_ok <|
 qn fnsi167_ok <|
 qn fnsi79_ok <|
 qn fnsi43_ok <|
 qn fnsi74_ok <|
 qn fnsi111_ok <|
 qn fnsi146_ok <|
 qn fnsi145_ok <|
 qn fnsi165_ok <|
 qn fnsi109_ok <|
 qn fnsi110_ok <|
 qn fnsi142_ok <|
 qn fnsi108_ok <|
 qn fnsi143_ok <| fok_nil
theorem indexRuns_h : Holds Tryz.prog 17 [] (.p (.v (.bool true))) [] :=
 .ofW (qan (n := 5000) qa (qaq _) (FnsIF_ok ctab) (by kernel_rfl) (by kernel_rfl))
set_option maxHeartbeats 4000000
set_option maxRecDepth 100000
theorem indexAgrees_h {n : Nat} (p : Pol) (hf : PolF n p) (g : List Giv) (hg : ∀ x ∈ g, x.Fit) : Holds Tryz.prog 5 [.agg (polP p), zm g] (.p (pB true)) [] := by
 have hS := small_h p hf
 have hC0 := fun h hG => cdec_h p hf h g hG
 have hD0 := fun h hG => decI_h p hf h g hG
 have hV0 := fun h hG => evPol_h p hf h g hG
 have hm : (wj p g).1.m ∈ mks := by
  unfold wj
  split
  · exact decideS_mem g 4 p
  · exact by decide
 have hL : (wj p g).1.obls.length ≤ p.sz := by
  unfold wj
  split
  · exact decideS_len g 4 p
  · exact Nat.zero_le _
 rw [qG] at hS hC0 hD0 hV0 ⊢
 generalize wj p g = ev at *
 obtain ⟨r, e⟩ := ev
 simp only at hm hL
 refine qo (ts := [4]) Tryz.func5 (by kernel_rfl) rfl rfl rfl ?_
 refine uA ?_
 refine uR ?_
 refine qy rfl (act_call_E rfl rfl rfl rfl (hS) rfl ?_)
 rintro _ ⟨b1, rfl, h1⟩
 cases b1 with
 | false =>
   refine uS ?_
   refine qb ?_
   refine uC (fun hc => ?_) (fun hc => ?_)
   · refine uR ?_
     refine uK indexRuns_h ?_
     refine qb ?_
     refine uQ ?_
     exact jJ rfl rfl
   · cases hc
 | true =>
   refine uS ?_
   refine qy rfl (act_call_E rfl rfl rfl rfl (few_h g hg) rfl ?_)
   rintro _ ⟨b2, rfl, h2⟩
   cases b2 with
   | false =>
     refine uS ?_
     refine qb ?_
     refine uC (fun hc => ?_) (fun hc => ?_)
     · refine uR ?_
       refine uK indexRuns_h ?_
       refine qb ?_
       refine uQ ?_
       exact jJ rfl rfl
     · cases hc
   | true =>
     refine uS ?_
     refine qb ?_
     refine uC (fun hc => ?_) (fun hc => ?_)
     · cases hc
     refine qd ?_
     have hsz := h1 rfl
     have hG := givOk_of hg (h2 rfl)
     have hC := hC0 (by omega) hG
     have hD := hD0 (by omega) hG
     have hV := hV0 (by omega) hG
     have hR := results_h r hm (by omega)
     simp only at hC hD hV
     refine uR ?_
     refine uO hV ?_
     refine qb ?_
     refine uR ?_
     refine uO hC ?_
     refine qb ?_
     refine uR ?_
     refine uO hD ?_
     refine qb ?_
     refine uR ?_
     rw [show (e == e) = true from beq_self_eq_true e]
     refine uS ?_
     rw [show (e == e) = true from beq_self_eq_true e]
     refine uS ?_
     refine uK hR ?_
     refine uS ?_
     refine uK hR ?_
     refine uS ?_
     refine uK indexRuns_h ?_
     refine uS ?_
     refine qb ?_
     refine uQ ?_
     exact jJ rfl rfl
inductive RelsP (w : World) : List PV → List Value → Prop
 | nil : RelsP w [] []
 | cons {x : PV} {u : Value} {xs : List PV} {us : List Value} (h : RelP (fun _ => True) w x u) (r : RelsP w xs us) : RelsP w (x :: xs) (u :: us)
theorem RelsP.get {w : World} {xs : List PV} {us : List Value} (h : RelsP w xs us) : us.length = xs.length ∧ ∀ (i : Nat) (s : PV) (u : Value), xs[i]? = some s → us[i]? = some u → RelP (fun _ => True) w s u := by
 induction h with
 | nil => exact ⟨rfl, fun i s u h => by simp at h⟩
 | cons h r ih =>
   refine ⟨by simp [ih.1], fun i s u hs hu => ?_⟩
   cases i with
   | zero => simp at hs hu; subst hs; subst hu; exact h
   | succ i => exact ih.2 i s u (by simpa using hs) (by simpa using hu)
theorem law_callsG {P : Program} {f : FuncId} {args : List PV} {us : List Value} {W : World} (hg : GlOk (entry W) fun _ => False) (H : Holds P f args (.p (.v (.bool true))) []) (hr : RelsP W args us) : Calls P f us.toArray W fun e w' => e = .returned (.bool true) ∧ Below W.heap.size W w' := by
 obtain ⟨h1, h2⟩ := hr.get
 refine (H.2 W (fun _ => False) us ⟨fun _ h => h.elim, hg⟩ h1 fun i s u hs hu => (h2 i s u hs hu).weak fun _ _ _ => fun h => h).mono fun e w' ⟨v, γ, he, hb, _, hv⟩ => ?_
 have := hv.v_inv
 subst this
 exact ⟨he, hb⟩
theorem rel_agg {w : World} {cs : List Value} {x : List PV} (h : rPV (fun _ => True) w cs x) : RelP (fun _ => True) w (.agg x) (.agg cs.toArray) := .agg h.1 h.2
end Go.Proofs.YtkkbdgijfkocnaaGreatDoor
namespace Go.Proofs.YtkkbdgijfkocnaaGreatDoor
set_option linter.unusedSimpArgs false
open Go.ChangeShapes Go.WideShapes Go.ChangeAt Go.RowKit
set_option linter.unusedVariables false
theorem law_liftL {H : Type} {enc : TypeId × Value → H} {C : Checked} {os : Os} {f : FuncId} {fn : Func} {s : ChangeSpec} {bt : TypeId} {laid : List (String × DataW Unit)}
 (own : ownKnob C.prog.godebug = none) (started : os.Started) (noInit : C.prog.inits.idxOf? f = none) (hfn : C.prog.funcs[f]? = some fn)
 (witness : ∃ (w : World) (tape : Tape) (i : Input), w.os = os ∧ (w.forCall tape i).Shaped C.prog ∧ i.vars = [] ∧ Input.okWide C.prog (w.forCall tape i) .any w.heap.size f i ∧
  ((s.pre enc C.prog fn [] false (w.forCall tape i).memory i.args ∧ laidMetH C.prog laid (w.forCall tape i).memory) ∧ sizedMet enc C.prog fn (OpenSpec.ofChange s) false (w.forCall tape i).memory i.args) ∧ ({} : Assume).holds C.prog (lone (Frame.enter C.prog f i.args .normal) [] (w.forCall tape i)))
 (hl : laidOutB C.prog = true) (hts : ∀ t ∈ fn.params.toList, C.prog.readableRec t = true ∧ t < C.prog.types.size) (hvars : s.vars = []) (hvt : s.plain.varTypes C.prog = [])
 (hspec : ∀ (W : World) (args : Array Value) (ds : List (DataW H)) (ps : List MemPlace), DataW.TrodAll enc C.prog W 0 (fun _ => true) true fn.params.toList args.toList ds ps → s.fn H ds = { results := [.lit (.bool true)], args := ds })
 (hres : fn.resultTypes = #[bt]) (hbt : C.prog.underlying bt = some .bool)
 (walk : ∀ (W : World) (base : Nat) (args : Array Value) (ds : List (DataW H)) (ps : List MemPlace), laidMetH C.prog laid W →
  (∀ (j : Nat) t v, fn.params[j]? = some t → args[j]? = some v → Value.okWide C.prog W .any base t v) →
  DataW.TrodAll enc C.prog W 0 (fun _ => true) true fn.params.toList args.toList ds ps →
  (∀ n ∈ DataW.weightsEach C.prog fn.params.toList ds, n ≤ reachBytes) →
  Calls C.prog f args W fun e W' => e = .returned (.bool true) ∧ Below W.heap.size W W') :
 ReturnsInHanded {} C os f .any (fun w args => (s.pre enc C.prog fn [] false w args ∧ laidMetH C.prog laid w) ∧ sizedMet enc C.prog fn (OpenSpec.ofChange s) false w args) (s.post enc C.prog fn false true false false) := by
 refine returnsInHanded_of_change_and (X := fun w _ => laidMetH C.prog laid w) (fun _ _ _ hh h => h.of_heap hh) own started noInit hfn witness ?_
 intro W base args ds gs before hval hW _ hsz hL _
 have hlt : ∀ p ∈ before, p.block < W.heap.size := fun p hp => hW.lt p hp
 have hW0 := hW
 obtain ⟨p, q, hA, hV, rfl, hz, hn⟩ := hW0
 rw [hvars] at hV
 obtain ⟨rfl, rfl⟩ := trodVars_none hV
 have hsp := hspec W args ds p hA
 refine (walk W base args ds p hL hval hA ?_).mono fun e W' ⟨he, hb⟩ => ?_
 · intro n hn
   rw [hvt, List.append_nil, List.append_nil] at hsz
   exact of_decide_eq_true (List.all_eq_true.1 hsz n hn)
 · subst he
   refine ⟨_, rfl, ds, [], p ++ [], [], p, [], hW, ?_, ?_, ?_, World.keptBut_mono (fun x hx => ⟨hx, Or.inr (Or.inl (by simpa using hx))⟩) (hb.frame (· ∈ p ++ [])), fun h => by cases h⟩
   · rw [List.append_nil, hsp, hres]
     exact trodAll_mk1 (shut_bool hbt _)
   · rw [List.append_nil, hsp]
     exact trodAll_below hl hb hts (fun x hx => hlt x (by simpa using hx)) (fun x hx => by simpa using hlt x (by simpa using hx)) hA
   · rw [List.append_nil, hsp, hvars]
     rfl
theorem jr {P : Program} {x : String × DataW Unit} {l : List (String × DataW Unit)} {W : World} (h : laidMet P (x :: l) W) : laidMet P l W := by
 obtain ⟨ps, ⟨g, t, cs, fuel, p, q, h1, h2, h3, h4, h5, h6⟩, hn, hb⟩ := h
 subst h6
 exact ⟨q, h5, (List.nodup_append.1 hn).2.1, fun b off hm => hb b off (List.mem_append_right _ hm)⟩
theorem block_of_tab {P : Program} {W : World} {name : String} {k : IntKind} {zs : List Int} {g : Nat} (h : Lib.TabIs P W name k zs) (hg : P.globalNamed name = some g) {us : List Value} (hu : us = zs.map fun z => Value.int k z) : g < W.heap.size ∧ ∃ ty m, W.heap[g]? = some (.cells us.toArray ty m) := by
 unfold Lib.TabIs World.var? at h
 rw [hg] at h
 simp only [Option.bind_some] at h
 split at h
 · rename_i cs ty m hb
   cases h
   exact ⟨(Array.getElem?_eq_some_iff.1 hb).1, ty, m, by rw [hb, hu]⟩
 · cases h
theorem err_of_reads {P : Program} {W : World} {name nm : String} {g t : Nat} {ms : Array (String × TypeId)} {d : DataW Unit} (hg : P.globalNamed name = some g) (ht : (P.globals[g]?).map (·.type) = some t) (hu : P.underlying t = some (.interface ms)) (h : Lib.VarReads P W name (.iface nm d)) :
 g < W.heap.size ∧ ∃ ev ty m, W.heap[g]? = some (.cells #[ev] ty m) ∧ errV ev = true := by
 obtain ⟨g', t', cs, fuel, p, h1, h2, h3, h4⟩ := h
 rw [hg] at h1
 cases h1
 rw [ht] at h2
 cases h2
 have hc : ∃ u v, cs.toList = [.iface u v] := by
  cases fuel with
  | zero => cases h4
  | succ fuel =>
    unfold DataW.trod at h4
    rw [hu] at h4
    generalize cs.toList = l at h4
    match l, h4 with
    | [.iface u v], _ => exact ⟨u, v, rfl⟩
    | [.nilIface], h4 => simp at h4
    | [], h4 => simp at h4
    | _ :: _ :: _, h4 => simp at h4
 obtain ⟨u, v, hc⟩ := hc
 have hc' : cs = #[.iface u v] := Array.toList_inj.1 hc
 subst hc'
 unfold World.var? at h3
 rw [hg] at h3
 simp only [Option.bind_some] at h3
 split at h3
 · rename_i cs ty m hb
   cases h3
   exact ⟨(Array.getElem?_eq_some_iff.1 hb).1, _, ty, m, hb, rfl⟩
 · cases h3
end Go.Proofs.YtkkbdgijfkocnaaGreatDoor
namespace Go.Proofs.YtkkbdgijfkocnaaGreatDoor
open Go.RowKit
theorem own_none : ownKnob Tryz.prog.godebug = none := by kernel_rfl
theorem gl_of_laid {rest : List (String × DataW Unit)} {W : World} (h : laidMet Tryz.prog (("math/bits.deBruijn32tab", Rows.laid_math_bits_deBruijn32tab) :: ("math/bits.deBruijn64tab", Rows.laid_math_bits_deBruijn64tab) :: ("internal/strconv.uint64pow10", Rows.laid_internal_strconv_uint64pow10) :: ("strconv.ErrRange", Rows.laid_strconv_ErrRange) :: rest) W) : GlOk (entry W) fun _ => False := by
 have b0 := block_of_tab (g := 4) (us := [.int .u8 0, .int .u8 1, .int .u8 28, .int .u8 2, .int .u8 29, .int .u8 14, .int .u8 24, .int .u8 3, .int .u8 30, .int .u8 22, .int .u8 20, .int .u8 15, .int .u8 25, .int .u8 17, .int .u8 4, .int .u8 8, .int .u8 31, .int .u8 27, .int .u8 13, .int .u8 23, .int .u8 21, .int .u8 19, .int .u8 16, .int .u8 7, .int .u8 26, .int .u8 12, .int .u8 18, .int .u8 6, .int .u8 11, .int .u8 5, .int .u8 10, .int .u8 9]) (Lib.tabIs_of_head (k := .u8) (zs := [0, 1, 28, 2, 29, 14, 24, 3, 30, 22, 20, 15, 25, 17, 4, 8, 31, 27, 13, 23, 21, 19, 16, 7, 26, 12, 18, 6, 11, 5, 10, 9]) (g := 4) (t := 301) (e := 5) (n := 32) (by kernel_rfl) (by kernel_rfl) Tryz.underlying301 Tryz.underlying5 (by kernel_rfl) (by kernel_rfl) h) (by kernel_rfl) rfl
 have b1 := block_of_tab (g := 5) (us := [.int .u8 0, .int .u8 1, .int .u8 56, .int .u8 2, .int .u8 57, .int .u8 49, .int .u8 28, .int .u8 3, .int .u8 61, .int .u8 58, .int .u8 42, .int .u8 50, .int .u8 38, .int .u8 29, .int .u8 17, .int .u8 4, .int .u8 62, .int .u8 47, .int .u8 59, .int .u8 36, .int .u8 45, .int .u8 43, .int .u8 51, .int .u8 22, .int .u8 53, .int .u8 39, .int .u8 33, .int .u8 30, .int .u8 24, .int .u8 18, .int .u8 12, .int .u8 5, .int .u8 63, .int .u8 55, .int .u8 48, .int .u8 27, .int .u8 60, .int .u8 41, .int .u8 37, .int .u8 16, .int .u8 46, .int .u8 35, .int .u8 44, .int .u8 21, .int .u8 52, .int .u8 32, .int .u8 23, .int .u8 11, .int .u8 54, .int .u8 26, .int .u8 40, .int .u8 15, .int .u8 34, .int .u8 20, .int .u8 31, .int .u8 10, .int .u8 25, .int .u8 14, .int .u8 19, .int .u8 9, .int .u8 13, .int .u8 8, .int .u8 7, .int .u8 6]) (Lib.tabIs_of_head (k := .u8) (zs := [0, 1, 56, 2, 57, 49, 28, 3, 61, 58, 42, 50, 38, 29, 17, 4, 62, 47, 59, 36, 45, 43, 51, 22, 53, 39, 33, 30, 24, 18, 12, 5, 63, 55, 48, 27, 60, 41, 37, 16, 46, 35, 44, 21, 52, 32, 23, 11, 54, 26, 40, 15, 34, 20, 31, 10, 25, 14, 19, 9, 13, 8, 7, 6]) (g := 5) (t := 302) (e := 5) (n := 64) (by kernel_rfl) (by kernel_rfl) Tryz.underlying302 Tryz.underlying5 (by kernel_rfl) (by kernel_rfl) (jr h)) (by kernel_rfl) rfl
 have b2 := block_of_tab (g := 3) (us := [.int .u64 1, .int .u64 10, .int .u64 100, .int .u64 1000, .int .u64 10000, .int .u64 100000, .int .u64 1000000, .int .u64 10000000, .int .u64 100000000, .int .u64 1000000000, .int .u64 10000000000, .int .u64 100000000000, .int .u64 1000000000000, .int .u64 10000000000000, .int .u64 100000000000000, .int .u64 1000000000000000, .int .u64 10000000000000000, .int .u64 100000000000000000, .int .u64 1000000000000000000, .int .u64 10000000000000000000]) (Lib.tabIs_of_head (k := .u64) (zs := [1, 10, 100, 1000, 10000, 100000, 1000000, 10000000, 100000000, 1000000000, 10000000000, 100000000000, 1000000000000, 10000000000000, 100000000000000, 1000000000000000, 10000000000000000, 100000000000000000, 1000000000000000000, 10000000000000000000]) (g := 3) (t := 290) (e := 263) (n := 20) (by kernel_rfl) (by kernel_rfl) Tryz.underlying290 Tryz.underlying263 (by kernel_rfl) (by kernel_rfl) (jr (jr h))) (by kernel_rfl) rfl
 have bE := err_of_reads (g := 2) (t := 234) (by kernel_rfl) (by kernel_rfl) Tryz.underlying234 (Lib.laidMet.reads (jr (jr (jr h))) (List.mem_cons_self ..))
 refine ⟨?_, fun g hg => ?_⟩
 rotate_left
 · have e : g = 2 := by simpa [ETab] using hg
   subst e
   exact ⟨bE.1, fun h => h, bE.2⟩
 intro g us hg
 simp only [GTab, qA] at hg
 repeat' split at hg
 all_goals first | cases hg; done | skip
 all_goals (subst_vars; cases hg)
 all_goals first | exact ⟨b0.1, fun h => h, b0.2⟩ | exact ⟨b1.1, fun h => h, b1.2⟩ | exact ⟨b2.1, fun h => h, b2.2⟩
noncomputable def lowB : Nat := (World.holding Tryz.prog default ⟨#[], #[], []⟩).heap.size
noncomputable def worldB (os : Os) : World :=
 let w0 := World.holding Tryz.prog os ⟨#[.cells #[.string ⟨#[118, 97, 108, 117, 101, 32, 111, 117, 116, 32, 111, 102, 32, 114, 97, 110, 103, 101]⟩] 298, .cells #[.string ⟨#[105, 110, 118, 97, 108, 105, 100, 32, 115, 121, 110, 116, 97, 120]⟩] 298], #[], []⟩
 { w0 with heap := ((((((((((w0.heap).modify 4 fun | .cells _ t frozen => .cells #[.int .u8 0, .int .u8 1, .int .u8 28, .int .u8 2, .int .u8 29, .int .u8 14, .int .u8 24, .int .u8 3, .int .u8 30, .int .u8 22, .int .u8 20, .int .u8 15, .int .u8 25, .int .u8 17, .int .u8 4, .int .u8 8, .int .u8 31, .int .u8 27, .int .u8 13, .int .u8 23, .int .u8 21, .int .u8 19, .int .u8 16, .int .u8 7, .int .u8 26, .int .u8 12, .int .u8 18, .int .u8 6, .int .u8 11, .int .u8 5, .int .u8 10, .int .u8 9] t frozen | o => o)).modify 5 fun | .cells _ t frozen => .cells #[.int .u8 0, .int .u8 1, .int .u8 56, .int .u8 2, .int .u8 57, .int .u8 49, .int .u8 28, .int .u8 3, .int .u8 61, .int .u8 58, .int .u8 42, .int .u8 50, .int .u8 38, .int .u8 29, .int .u8 17, .int .u8 4, .int .u8 62, .int .u8 47, .int .u8 59, .int .u8 36, .int .u8 45, .int .u8 43, .int .u8 51, .int .u8 22, .int .u8 53, .int .u8 39, .int .u8 33, .int .u8 30, .int .u8 24, .int .u8 18, .int .u8 12, .int .u8 5, .int .u8 63, .int .u8 55, .int .u8 48, .int .u8 27, .int .u8 60, .int .u8 41, .int .u8 37, .int .u8 16, .int .u8 46, .int .u8 35, .int .u8 44, .int .u8 21, .int .u8 52, .int .u8 32, .int .u8 23, .int .u8 11, .int .u8 54, .int .u8 26, .int .u8 40, .int .u8 15, .int .u8 34, .int .u8 20, .int .u8 31, .int .u8 10, .int .u8 25, .int .u8 14, .int .u8 19, .int .u8 9, .int .u8 13, .int .u8 8, .int .u8 7, .int .u8 6] t frozen | o => o)).modify 3 fun | .cells _ t frozen => .cells #[.int .u64 1, .int .u64 10, .int .u64 100, .int .u64 1000, .int .u64 10000, .int .u64 100000, .int .u64 1000000, .int .u64 10000000, .int .u64 100000000, .int .u64 1000000000, .int .u64 10000000000, .int .u64 100000000000, .int .u64 1000000000000, .int .u64 10000000000000, .int .u64 100000000000000, .int .u64 1000000000000000, .int .u64 10000000000000000, .int .u64 100000000000000000, .int .u64 1000000000000000000, .int .u64 10000000000000000000] t frozen | o => o)).modify 2 fun | .cells _ t frozen => .cells #[.iface 296 (.pointer (some ⟨lowB + 0, 0, none⟩))] t frozen | o => o)).modify 1 fun | .cells _ t frozen => .cells #[.iface 296 (.pointer (some ⟨lowB + 1, 0, none⟩))] t frozen | o => o) }
theorem worldB_met (os : Os) (args : Array Value) : laidMet Tryz.prog [("math/bits.deBruijn32tab", Rows.laid_math_bits_deBruijn32tab), ("math/bits.deBruijn64tab", Rows.laid_math_bits_deBruijn64tab), ("internal/strconv.uint64pow10", Rows.laid_internal_strconv_uint64pow10), ("strconv.ErrRange", Rows.laid_strconv_ErrRange), ("strconv.ErrSyntax", Rows.laid_strconv_ErrSyntax)] ((worldB os).forCall (fun _ _ => 0) ⟨#[], args, []⟩).memory :=
 laidMet_of_run' 100 (by kernel_rfl) (by kernel_rfl)
end Go.Proofs.YtkkbdgijfkocnaaGreatDoor
