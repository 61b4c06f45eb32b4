/-
  The evaluator's table of functions (printed by a program of ours).
-/
import Derived.Test.YtiiagdnmbpdlaaaDoorTypes
import Derived.Test.YtiiagdnmbpdlaaaDoorEvalOk
namespace Go.Proofs.YtiiagdnmbpdlaaaDoor
open Go.RowKit
noncomputable def fnsd5 : FnI := ⟨29, Tryd.f5.body.getD .skip, [.tmp 0], []⟩
theorem fnsd5_ok : FnOk Tryd.prog 5 fnsd5 := ⟨_, Tryd.func5, by kernel_rfl, by kernel_rfl, by kernel_rfl, by kernel_rfl, by kernel_rfl, by kernel_rfl⟩
noncomputable def fnsd18 : FnI := ⟨38, Tryd.f18.body.getD .skip, [.cell 2 48, .tmp 3], []⟩
theorem fnsd18_ok : FnOk Tryd.prog 18 fnsd18 := ⟨_, Tryd.func18, by kernel_rfl, by kernel_rfl, by kernel_rfl, by kernel_rfl, by kernel_rfl, by kernel_rfl⟩
noncomputable def fnsd17 : FnI := ⟨61, Tryd.f17.body.getD .skip, [.cell 2 42, .tmp 3, .tmp 4], [(11, [(0, true), (1, true), (2, true), (3, true), (4, true), (5, true), (6, true), (7, true), (8, true), (9, false), (10, true), (11, true)])]⟩
theorem fnsd17_ok : FnOk Tryd.prog 17 fnsd17 := ⟨_, Tryd.func17, by kernel_rfl, by kernel_rfl, by kernel_rfl, by kernel_rfl, by kernel_rfl, by kernel_rfl⟩
noncomputable def fnsd42 : FnI := ⟨19, Tryd.f42.body.getD .skip, [], []⟩
theorem fnsd42_ok : FnOk Tryd.prog 42 fnsd42 := ⟨_, Tryd.func42, by kernel_rfl, by kernel_rfl, by kernel_rfl, by kernel_rfl, by kernel_rfl, by kernel_rfl⟩
noncomputable def fnsd41 : FnI := ⟨10, Tryd.f41.body.getD .skip, [.tmp 2], []⟩
theorem fnsd41_ok : FnOk Tryd.prog 41 fnsd41 := ⟨_, Tryd.func41, by kernel_rfl, by kernel_rfl, by kernel_rfl, by kernel_rfl, by kernel_rfl, by kernel_rfl⟩
noncomputable def fnsd73 : FnI := ⟨52, Tryd.f73.body.getD .skip, [.tmp 6], []⟩
theorem fnsd73_ok : FnOk Tryd.prog 73 fnsd73 := ⟨_, Tryd.func73, by kernel_rfl, by kernel_rfl, by kernel_rfl, by kernel_rfl, by kernel_rfl, by kernel_rfl⟩
noncomputable def fnsd92 : FnI := ⟨39, Tryd.f92.body.getD .skip, [.tmp 4], []⟩
theorem fnsd92_ok : FnOk Tryd.prog 92 fnsd92 := ⟨_, Tryd.func92, by kernel_rfl, by kernel_rfl, by kernel_rfl, by kernel_rfl, by kernel_rfl, by kernel_rfl⟩
noncomputable def fnsd106 : FnI := ⟨39, Tryd.f106.body.getD .skip, [.tmp 2], []⟩
theorem fnsd106_ok : FnOk Tryd.prog 106 fnsd106 := ⟨_, Tryd.func106, by kernel_rfl, by kernel_rfl, by kernel_rfl, by kernel_rfl, by kernel_rfl, by kernel_rfl⟩
noncomputable def fnsd20 : FnI := ⟨49, Tryd.f20.body.getD .skip, [.tmp 2], []⟩
theorem fnsd20_ok : FnOk Tryd.prog 20 fnsd20 := ⟨_, Tryd.func20, by kernel_rfl, by kernel_rfl, by kernel_rfl, by kernel_rfl, by kernel_rfl, by kernel_rfl⟩
noncomputable def fnsd107 : FnI := ⟨38, Tryd.f107.body.getD .skip, [.tmp 2], []⟩
theorem fnsd107_ok : FnOk Tryd.prog 107 fnsd107 := ⟨_, Tryd.func107, by kernel_rfl, by kernel_rfl, by kernel_rfl, by kernel_rfl, by kernel_rfl, by kernel_rfl⟩
noncomputable def fnsd121 : FnI := ⟨60, Tryd.f121.body.getD .skip, [.tmp 4, .tmp 5], [(11, [(0, true), (1, true), (2, true), (3, true), (4, true), (5, true), (6, false), (7, false), (8, true), (9, true)])]⟩
theorem fnsd121_ok : FnOk Tryd.prog 121 fnsd121 := ⟨_, Tryd.func121, by kernel_rfl, by kernel_rfl, by kernel_rfl, by kernel_rfl, by kernel_rfl, by kernel_rfl⟩
noncomputable def fnsd133 : FnI := ⟨37, Tryd.f133.body.getD .skip, [.tmp 2], []⟩
theorem fnsd133_ok : FnOk Tryd.prog 133 fnsd133 := ⟨_, Tryd.func133, by kernel_rfl, by kernel_rfl, by kernel_rfl, by kernel_rfl, by kernel_rfl, by kernel_rfl⟩
noncomputable def fnsd138 : FnI := ⟨16, Tryd.f138.body.getD .skip, [.tmp 2], []⟩
theorem fnsd138_ok : FnOk Tryd.prog 138 fnsd138 := ⟨_, Tryd.func138, by kernel_rfl, by kernel_rfl, by kernel_rfl, by kernel_rfl, by kernel_rfl, by kernel_rfl⟩
noncomputable def fnsd23 : FnI := ⟨61, Tryd.f23.body.getD .skip, [.tmp 2], []⟩
theorem fnsd23_ok : FnOk Tryd.prog 23 fnsd23 := ⟨_, Tryd.func23, by kernel_rfl, by kernel_rfl, by kernel_rfl, by kernel_rfl, by kernel_rfl, by kernel_rfl⟩
noncomputable def fnsd132 : FnI := ⟨35, Tryd.f132.body.getD .skip, [.tmp 2, .tmp 3], []⟩
theorem fnsd132_ok : FnOk Tryd.prog 132 fnsd132 := ⟨_, Tryd.func132, by kernel_rfl, by kernel_rfl, by kernel_rfl, by kernel_rfl, by kernel_rfl, by kernel_rfl⟩
noncomputable def fnsd105 : FnI := ⟨21, Tryd.f105.body.getD .skip, [.tmp 2], []⟩
theorem fnsd105_ok : FnOk Tryd.prog 105 fnsd105 := ⟨_, Tryd.func105, by kernel_rfl, by kernel_rfl, by kernel_rfl, by kernel_rfl, by kernel_rfl, by kernel_rfl⟩
noncomputable def fnsd120 : FnI := ⟨25, Tryd.f120.body.getD .skip, [.tmp 2], []⟩
theorem fnsd120_ok : FnOk Tryd.prog 120 fnsd120 := ⟨_, Tryd.func120, by kernel_rfl, by kernel_rfl, by kernel_rfl, by kernel_rfl, by kernel_rfl, by kernel_rfl⟩
noncomputable def fnsd131 : FnI := ⟨22, Tryd.f131.body.getD .skip, [.tmp 2], []⟩
theorem fnsd131_ok : FnOk Tryd.prog 131 fnsd131 := ⟨_, Tryd.func131, by kernel_rfl, by kernel_rfl, by kernel_rfl, by kernel_rfl, by kernel_rfl, by kernel_rfl⟩
noncomputable def fnsd137 : FnI := ⟨21, Tryd.f137.body.getD .skip, [.tmp 2], []⟩
theorem fnsd137_ok : FnOk Tryd.prog 137 fnsd137 := ⟨_, Tryd.func137, by kernel_rfl, by kernel_rfl, by kernel_rfl, by kernel_rfl, by kernel_rfl, by kernel_rfl⟩
noncomputable def fnsd130 : FnI := ⟨9, Tryd.f130.body.getD .skip, [.tmp 2], []⟩
theorem fnsd130_ok : FnOk Tryd.prog 130 fnsd130 := ⟨_, Tryd.func130, by kernel_rfl, by kernel_rfl, by kernel_rfl, by kernel_rfl, by kernel_rfl, by kernel_rfl⟩
noncomputable def fnsd104 : FnI := ⟨28, Tryd.f104.body.getD .skip, [.tmp 4], []⟩
theorem fnsd104_ok : FnOk Tryd.prog 104 fnsd104 := ⟨_, Tryd.func104, by kernel_rfl, by kernel_rfl, by kernel_rfl, by kernel_rfl, by kernel_rfl, by kernel_rfl⟩
noncomputable def fnsd91 : FnI := ⟨68, Tryd.f91.body.getD .skip, [.tmp 4], []⟩
theorem fnsd91_ok : FnOk Tryd.prog 91 fnsd91 := ⟨_, Tryd.func91, by kernel_rfl, by kernel_rfl, by kernel_rfl, by kernel_rfl, by kernel_rfl, by kernel_rfl⟩
noncomputable def fnsd40 : FnI := ⟨7, Tryd.f40.body.getD .skip, [], []⟩
theorem fnsd40_ok : FnOk Tryd.prog 40 fnsd40 := ⟨_, Tryd.func40, by kernel_rfl, by kernel_rfl, by kernel_rfl, by kernel_rfl, by kernel_rfl, by kernel_rfl⟩
noncomputable def fnsd39 : FnI := ⟨13, Tryd.f39.body.getD .skip, [.cell 2 34], [(1, [(0, true), (1, true), (2, true), (3, true), (4, true), (5, true), (6, true), (7, true), (8, true), (9, true), (10, false)])]⟩
theorem fnsd39_ok : FnOk Tryd.prog 39 fnsd39 := ⟨_, Tryd.func39, by kernel_rfl, by kernel_rfl, by kernel_rfl, by kernel_rfl, by kernel_rfl, by kernel_rfl⟩
noncomputable def fnsd38 : FnI := ⟨39, Tryd.f38.body.getD .skip, [.cell 4 42], []⟩
theorem fnsd38_ok : FnOk Tryd.prog 38 fnsd38 := ⟨_, Tryd.func38, by kernel_rfl, by kernel_rfl, by kernel_rfl, by kernel_rfl, by kernel_rfl, by kernel_rfl⟩
noncomputable def fnsd72 : FnI := ⟨28, Tryd.f72.body.getD .skip, [.tmp 2], []⟩
theorem fnsd72_ok : FnOk Tryd.prog 72 fnsd72 := ⟨_, Tryd.func72, by kernel_rfl, by kernel_rfl, by kernel_rfl, by kernel_rfl, by kernel_rfl, by kernel_rfl⟩
noncomputable def fnsd88 : FnI := ⟨10, Tryd.f88.body.getD .skip, [], []⟩
theorem fnsd88_ok : FnOk Tryd.prog 88 fnsd88 := ⟨_, Tryd.func88, by kernel_rfl, by kernel_rfl, by kernel_rfl, by kernel_rfl, by kernel_rfl, by kernel_rfl⟩
noncomputable def fnsd67 : FnI := ⟨25, Tryd.f67.body.getD .skip, [.tmp 2], []⟩
theorem fnsd67_ok : FnOk Tryd.prog 67 fnsd67 := ⟨_, Tryd.func67, by kernel_rfl, by kernel_rfl, by kernel_rfl, by kernel_rfl, by kernel_rfl, by kernel_rfl⟩
noncomputable def fnsd66 : FnI := ⟨28, Tryd.f66.body.getD .skip, [.tmp 4], []⟩
theorem fnsd66_ok : FnOk Tryd.prog 66 fnsd66 := ⟨_, Tryd.func66, by kernel_rfl, by kernel_rfl, by kernel_rfl, by kernel_rfl, by kernel_rfl, by kernel_rfl⟩
noncomputable def fnsd86 : FnI := ⟨18, Tryd.f86.body.getD .skip, [.tmp 4], []⟩
theorem fnsd86_ok : FnOk Tryd.prog 86 fnsd86 := ⟨_, Tryd.func86, by kernel_rfl, by kernel_rfl, by kernel_rfl, by kernel_rfl, by kernel_rfl, by kernel_rfl⟩
noncomputable def fnsd89 : FnI := ⟨29, Tryd.f89.body.getD .skip, [.tmp 4], []⟩
theorem fnsd89_ok : FnOk Tryd.prog 89 fnsd89 := ⟨_, Tryd.func89, by kernel_rfl, by kernel_rfl, by kernel_rfl, by kernel_rfl, by kernel_rfl, by kernel_rfl⟩
noncomputable def fnsd85 : FnI := ⟨19, Tryd.f85.body.getD .skip, [.tmp 4], []⟩
theorem fnsd85_ok : FnOk Tryd.prog 85 fnsd85 := ⟨_, Tryd.func85, by kernel_rfl, by kernel_rfl, by kernel_rfl, by kernel_rfl, by kernel_rfl, by kernel_rfl⟩
noncomputable def fnsd71 : FnI := ⟨51, Tryd.f71.body.getD .skip, [.tmp 2], []⟩
theorem fnsd71_ok : FnOk Tryd.prog 71 fnsd71 := ⟨_, Tryd.func71, by kernel_rfl, by kernel_rfl, by kernel_rfl, by kernel_rfl, by kernel_rfl, by kernel_rfl⟩
noncomputable def fnsd90 : FnI := ⟨23, Tryd.f90.body.getD .skip, [.cell 4 139], []⟩
theorem fnsd90_ok : FnOk Tryd.prog 90 fnsd90 := ⟨_, Tryd.func90, by kernel_rfl, by kernel_rfl, by kernel_rfl, by kernel_rfl, by kernel_rfl, by kernel_rfl⟩
noncomputable def fnsd69 : FnI := ⟨10, Tryd.f69.body.getD .skip, [], []⟩
theorem fnsd69_ok : FnOk Tryd.prog 69 fnsd69 := ⟨_, Tryd.func69, by kernel_rfl, by kernel_rfl, by kernel_rfl, by kernel_rfl, by kernel_rfl, by kernel_rfl⟩
noncomputable def fnsd103 : FnI := ⟨25, Tryd.f103.body.getD .skip, [.tmp 6], []⟩
theorem fnsd103_ok : FnOk Tryd.prog 103 fnsd103 := ⟨_, Tryd.func103, by kernel_rfl, by kernel_rfl, by kernel_rfl, by kernel_rfl, by kernel_rfl, by kernel_rfl⟩
noncomputable def fnsd119 : FnI := ⟨52, Tryd.f119.body.getD .skip, [.tmp 4, .tmp 5], [(10, [(0, true), (1, true), (2, true), (3, true), (4, true), (5, true)])]⟩
theorem fnsd119_ok : FnOk Tryd.prog 119 fnsd119 := ⟨_, Tryd.func119, by kernel_rfl, by kernel_rfl, by kernel_rfl, by kernel_rfl, by kernel_rfl, by kernel_rfl⟩
noncomputable def fnsd128 : FnI := ⟨56, Tryd.f128.body.getD .skip, [.cell 2 26], []⟩
theorem fnsd128_ok : FnOk Tryd.prog 128 fnsd128 := ⟨_, Tryd.func128, by kernel_rfl, by kernel_rfl, by kernel_rfl, by kernel_rfl, by kernel_rfl, by kernel_rfl⟩
noncomputable def fnsd127 : FnI := ⟨17, Tryd.f127.body.getD .skip, [.cell 2 46], []⟩
theorem fnsd127_ok : FnOk Tryd.prog 127 fnsd127 := ⟨_, Tryd.func127, by kernel_rfl, by kernel_rfl, by kernel_rfl, by kernel_rfl, by kernel_rfl, by kernel_rfl⟩
noncomputable def fnsd129 : FnI := ⟨36, Tryd.f129.body.getD .skip, [.tmp 4, .cell 5 177], [(9, [(0, true), (1, true), (2, true), (3, false)])]⟩
theorem fnsd129_ok : FnOk Tryd.prog 129 fnsd129 := ⟨_, Tryd.func129, by kernel_rfl, by kernel_rfl, by kernel_rfl, by kernel_rfl, by kernel_rfl, by kernel_rfl⟩
noncomputable def fnsd136 : FnI := ⟨15, Tryd.f136.body.getD .skip, [.tmp 2], []⟩
theorem fnsd136_ok : FnOk Tryd.prog 136 fnsd136 := ⟨_, Tryd.func136, by kernel_rfl, by kernel_rfl, by kernel_rfl, by kernel_rfl, by kernel_rfl, by kernel_rfl⟩
noncomputable def fnsd68 : FnI := ⟨23, Tryd.f68.body.getD .skip, [.tmp 2], []⟩
theorem fnsd68_ok : FnOk Tryd.prog 68 fnsd68 := ⟨_, Tryd.func68, by kernel_rfl, by kernel_rfl, by kernel_rfl, by kernel_rfl, by kernel_rfl, by kernel_rfl⟩
noncomputable def fnsd87 : FnI := ⟨24, Tryd.f87.body.getD .skip, [.tmp 2], []⟩
theorem fnsd87_ok : FnOk Tryd.prog 87 fnsd87 := ⟨_, Tryd.func87, by kernel_rfl, by kernel_rfl, by kernel_rfl, by kernel_rfl, by kernel_rfl, by kernel_rfl⟩
noncomputable def fnsd102 : FnI := ⟨20, Tryd.f102.body.getD .skip, [.tmp 2], []⟩
theorem fnsd102_ok : FnOk Tryd.prog 102 fnsd102 := ⟨_, Tryd.func102, by kernel_rfl, by kernel_rfl, by kernel_rfl, by kernel_rfl, by kernel_rfl, by kernel_rfl⟩
noncomputable def fnsd118 : FnI := ⟨32, Tryd.f118.body.getD .skip, [.cell 2 48], []⟩
theorem fnsd118_ok : FnOk Tryd.prog 118 fnsd118 := ⟨_, Tryd.func118, by kernel_rfl, by kernel_rfl, by kernel_rfl, by kernel_rfl, by kernel_rfl, by kernel_rfl⟩
noncomputable def fnsd70 : FnI := ⟨33, Tryd.f70.body.getD .skip, [.tmp 4], []⟩
theorem fnsd70_ok : FnOk Tryd.prog 70 fnsd70 := ⟨_, Tryd.func70, by kernel_rfl, by kernel_rfl, by kernel_rfl, by kernel_rfl, by kernel_rfl, by kernel_rfl⟩
noncomputable def fnsd15 : FnI := ⟨52, Tryd.f15.body.getD .skip, [.tmp 2, .tmp 3, .tmp 4], []⟩
theorem fnsd15_ok : FnOk Tryd.prog 15 fnsd15 := ⟨_, Tryd.func15, by kernel_rfl, by kernel_rfl, by kernel_rfl, by kernel_rfl, by kernel_rfl, by kernel_rfl⟩
noncomputable def fnsd37 : FnI := ⟨106, Tryd.f37.body.getD .skip, [.cell 2 34, .tmp 3], [(30, [(0, true), (1, true), (2, true), (3, false), (4, true), (5, false), (6, true)])]⟩
theorem fnsd37_ok : FnOk Tryd.prog 37 fnsd37 := ⟨_, Tryd.func37, by kernel_rfl, by kernel_rfl, by kernel_rfl, by kernel_rfl, by kernel_rfl, by kernel_rfl⟩
noncomputable def fnsd64 : FnI := ⟨50, Tryd.f64.body.getD .skip, [.tmp 2, .tmp 3], []⟩
theorem fnsd64_ok : FnOk Tryd.prog 64 fnsd64 := ⟨_, Tryd.func64, by kernel_rfl, by kernel_rfl, by kernel_rfl, by kernel_rfl, by kernel_rfl, by kernel_rfl⟩
noncomputable def fnsd83 : FnI := ⟨38, Tryd.f83.body.getD .skip, [.tmp 2, .tmp 3], [(3, [(0, true), (1, true), (4, true), (5, true), (2, false), (3, true), (6, false), (7, true), (8, true), (9, true)])]⟩
theorem fnsd83_ok : FnOk Tryd.prog 83 fnsd83 := ⟨_, Tryd.func83, by kernel_rfl, by kernel_rfl, by kernel_rfl, by kernel_rfl, by kernel_rfl, by kernel_rfl⟩
noncomputable def fnsd82 : FnI := ⟨17, Tryd.f82.body.getD .skip, [.tmp 2], []⟩
theorem fnsd82_ok : FnOk Tryd.prog 82 fnsd82 := ⟨_, Tryd.func82, by kernel_rfl, by kernel_rfl, by kernel_rfl, by kernel_rfl, by kernel_rfl, by kernel_rfl⟩
noncomputable def fnsd100 : FnI := ⟨20, Tryd.f100.body.getD .skip, [.tmp 2], []⟩
theorem fnsd100_ok : FnOk Tryd.prog 100 fnsd100 := ⟨_, Tryd.func100, by kernel_rfl, by kernel_rfl, by kernel_rfl, by kernel_rfl, by kernel_rfl, by kernel_rfl⟩
noncomputable def fnsd62 : FnI := ⟨9, Tryd.f62.body.getD .skip, [.tmp 2], []⟩
theorem fnsd62_ok : FnOk Tryd.prog 62 fnsd62 := ⟨_, Tryd.func62, by kernel_rfl, by kernel_rfl, by kernel_rfl, by kernel_rfl, by kernel_rfl, by kernel_rfl⟩
noncomputable def fnsd63 : FnI := ⟨35, Tryd.f63.body.getD .skip, [.tmp 4, .tmp 5], []⟩
theorem fnsd63_ok : FnOk Tryd.prog 63 fnsd63 := ⟨_, Tryd.func63, by kernel_rfl, by kernel_rfl, by kernel_rfl, by kernel_rfl, by kernel_rfl, by kernel_rfl⟩
noncomputable def fnsd79 : FnI := ⟨20, Tryd.f79.body.getD .skip, [.tmp 4], []⟩
theorem fnsd79_ok : FnOk Tryd.prog 79 fnsd79 := ⟨_, Tryd.func79, by kernel_rfl, by kernel_rfl, by kernel_rfl, by kernel_rfl, by kernel_rfl, by kernel_rfl⟩
noncomputable def fnsd61 : FnI := ⟨12, Tryd.f61.body.getD .skip, [.tmp 2], []⟩
theorem fnsd61_ok : FnOk Tryd.prog 61 fnsd61 := ⟨_, Tryd.func61, by kernel_rfl, by kernel_rfl, by kernel_rfl, by kernel_rfl, by kernel_rfl, by kernel_rfl⟩
noncomputable def fnsd80 : FnI := ⟨17, Tryd.f80.body.getD .skip, [.tmp 2], []⟩
theorem fnsd80_ok : FnOk Tryd.prog 80 fnsd80 := ⟨_, Tryd.func80, by kernel_rfl, by kernel_rfl, by kernel_rfl, by kernel_rfl, by kernel_rfl, by kernel_rfl⟩
noncomputable def fnsd4 : FnI := ⟨74, Tryd.f4.body.getD .skip, [.tmp 0], []⟩
theorem fnsd4_ok : FnOk Tryd.prog 4 fnsd4 := ⟨_, Tryd.func4, by kernel_rfl, by kernel_rfl, by kernel_rfl, by kernel_rfl, by kernel_rfl, by kernel_rfl⟩
noncomputable def fnsd16 : FnI := ⟨26, Tryd.f16.body.getD .skip, [.tmp 4], [(6, [(0, true), (1, true), (2, true), (3, true), (4, true), (5, true), (6, true), (7, true), (8, true)])]⟩
theorem fnsd16_ok : FnOk Tryd.prog 16 fnsd16 := ⟨_, Tryd.func16, by kernel_rfl, by kernel_rfl, by kernel_rfl, by kernel_rfl, by kernel_rfl, by kernel_rfl⟩
noncomputable def FnsDF : List (FuncId × FnI) := [(5, fnsd5),
  (18, fnsd18),
  (17, fnsd17),
  (42, fnsd42),
  (41, fnsd41),
  (73, fnsd73),
  (92, fnsd92),
  (106, fnsd106),
  (20, fnsd20),
  (107, fnsd107),
  (121, fnsd121),
  (133, fnsd133),
  (138, fnsd138),
  (23, fnsd23),
  (132, fnsd132),
  (105, fnsd105),
  (120, fnsd120),
  (131, fnsd131),
  (137, fnsd137),
  (130, fnsd130),
  (104, fnsd104),
  (91, fnsd91),
  (40, fnsd40),
  (39, fnsd39),
  (38, fnsd38),
  (72, fnsd72),
  (88, fnsd88),
  (67, fnsd67),
  (66, fnsd66),
  (86, fnsd86),
  (89, fnsd89),
  (85, fnsd85),
  (71, fnsd71),
  (90, fnsd90),
  (69, fnsd69),
  (103, fnsd103),
  (119, fnsd119),
  (128, fnsd128),
  (127, fnsd127),
  (129, fnsd129),
  (136, fnsd136),
  (68, fnsd68),
  (87, fnsd87),
  (102, fnsd102),
  (118, fnsd118),
  (70, fnsd70),
  (15, fnsd15),
  (37, fnsd37),
  (64, fnsd64),
  (83, fnsd83),
  (82, fnsd82),
  (100, fnsd100),
  (62, fnsd62),
  (63, fnsd63),
  (79, fnsd79),
  (61, fnsd61),
  (80, fnsd80),
  (4, fnsd4),
  (16, fnsd16)]
theorem FnsDF_ok (C : FuncId → List PV → Option SV) : FOk Tryd.prog ⟨TTab, FnsDF, C⟩ := fok_cons fnsd5_ok <| 
  fok_cons fnsd18_ok <| 
  fok_cons fnsd17_ok <| 
  fok_cons fnsd42_ok <| 
  fok_cons fnsd41_ok <| 
  fok_cons fnsd73_ok <| 
  fok_cons fnsd92_ok <| 
  fok_cons fnsd106_ok <| 
  fok_cons fnsd20_ok <| 
  fok_cons fnsd107_ok <| 
  fok_cons fnsd121_ok <| 
  fok_cons fnsd133_ok <| 
  fok_cons fnsd138_ok <| 
  fok_cons fnsd23_ok <| 
  fok_cons fnsd132_ok <| 
  fok_cons fnsd105_ok <| 
  fok_cons fnsd120_ok <| 
  fok_cons fnsd131_ok <| 
  fok_cons fnsd137_ok <| 
  fok_cons fnsd130_ok <| 
  fok_cons fnsd104_ok <| 
  fok_cons fnsd91_ok <| 
  fok_cons fnsd40_ok <| 
  fok_cons fnsd39_ok <| 
  fok_cons fnsd38_ok <| 
  fok_cons fnsd72_ok <| 
  fok_cons fnsd88_ok <| 
  fok_cons fnsd67_ok <| 
  fok_cons fnsd66_ok <| 
  fok_cons fnsd86_ok <| 
  fok_cons fnsd89_ok <| 
  fok_cons fnsd85_ok <| 
  fok_cons fnsd71_ok <| 
  fok_cons fnsd90_ok <| 
  fok_cons fnsd69_ok <| 
  fok_cons fnsd103_ok <| 
  fok_cons fnsd119_ok <| 
  fok_cons fnsd128_ok <| 
  fok_cons fnsd127_ok <| 
  fok_cons fnsd129_ok <| 
  fok_cons fnsd136_ok <| 
  fok_cons fnsd68_ok <| 
  fok_cons fnsd87_ok <| 
  fok_cons fnsd102_ok <| 
  fok_cons fnsd118_ok <| 
  fok_cons fnsd70_ok <| 
  fok_cons fnsd15_ok <| 
  fok_cons fnsd37_ok <| 
  fok_cons fnsd64_ok <| 
  fok_cons fnsd83_ok <| 
  fok_cons fnsd82_ok <| 
  fok_cons fnsd100_ok <| 
  fok_cons fnsd62_ok <| 
  fok_cons fnsd63_ok <| 
  fok_cons fnsd79_ok <| 
  fok_cons fnsd61_ok <| 
  fok_cons fnsd80_ok <| 
  fok_cons fnsd4_ok <| 
  fok_cons fnsd16_ok <| fok_nil
end Go.Proofs.YtiiagdnmbpdlaaaDoor
