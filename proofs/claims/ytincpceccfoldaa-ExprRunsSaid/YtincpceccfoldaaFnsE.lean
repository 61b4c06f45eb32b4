/-
  The evaluator's table of functions (printed by a program of ours).
-/
import Derived.Test.YtincpceccfoldaaTypes
import Derived.Test.YtincpceccfoldaaEvalOk
namespace Go.Proofs.Ytincpceccfoldaa
open Go.RowKit
noncomputable def fnse11 : FnI := ⟨76, Try.f11.body.getD .skip, [.tmp 0], [(6, [(0, true), (1, false), (2, true), (3, true), (4, true), (5, true), (6, true), (7, true), (8, true), (9, true), (10, true), (11, true), (12, true), (13, true), (14, true), (15, true), (16, true), (17, false), (18, true), (19, true), (20, true), (21, true), (22, true), (23, true), (24, true)])]⟩
theorem fnse11_ok : FnOk Try.prog 11 fnse11 := ⟨_, Try.func11, by kernel_rfl, by kernel_rfl, by kernel_rfl, by kernel_rfl, by kernel_rfl, by kernel_rfl⟩
noncomputable def fnse35 : FnI := ⟨51, Try.f35.body.getD .skip, [.cell 4 25, .tmp 5], [(8, [(0, true), (1, true), (2, true), (3, true), (4, true), (5, true), (6, true), (7, true), (8, false), (9, false), (10, false), (11, true)]), (10, [(0, true), (1, true), (2, true), (3, true), (4, true), (5, true), (6, true), (7, true), (8, false), (9, true)])]⟩
theorem fnse35_ok : FnOk Try.prog 35 fnse35 := ⟨_, Try.func35, by kernel_rfl, by kernel_rfl, by kernel_rfl, by kernel_rfl, by kernel_rfl, by kernel_rfl⟩
noncomputable def fnse52 : FnI := ⟨122, Try.f52.body.getD .skip, [.cell 6 109], [(28, [(0, true), (1, true), (2, true), (3, true), (4, true), (5, true), (6, true), (7, true), (8, false), (9, false), (10, false)])]⟩
theorem fnse52_ok : FnOk Try.prog 52 fnse52 := ⟨_, Try.func52, by kernel_rfl, by kernel_rfl, by kernel_rfl, by kernel_rfl, by kernel_rfl, by kernel_rfl⟩
noncomputable def fnse69 : FnI := ⟨111, Try.f69.body.getD .skip, [.cell 4 25, .tmp 5], [(5, [(0, true), (1, true), (2, true), (3, true), (4, true), (5, true), (6, true), (7, true), (8, true)]), (7, [(0, true), (1, true), (2, true), (3, true), (4, true), (5, true), (6, true), (7, false), (8, false), (9, true)]), (9, [(0, true), (1, true), (2, true), (3, true), (4, true), (5, true), (6, false), (7, true), (8, true), (9, true), (10, true), (11, true)])]⟩
theorem fnse69_ok : FnOk Try.prog 69 fnse69 := ⟨_, Try.func69, by kernel_rfl, by kernel_rfl, by kernel_rfl, by kernel_rfl, by kernel_rfl, by kernel_rfl⟩
noncomputable def fnse83 : FnI := ⟨18, Try.f83.body.getD .skip, [.tmp 4], []⟩
theorem fnse83_ok : FnOk Try.prog 83 fnse83 := ⟨_, Try.func83, by kernel_rfl, by kernel_rfl, by kernel_rfl, by kernel_rfl, by kernel_rfl, by kernel_rfl⟩
noncomputable def fnse82 : FnI := ⟨36, Try.f82.body.getD .skip, [.tmp 4, .tmp 5], []⟩
theorem fnse82_ok : FnOk Try.prog 82 fnse82 := ⟨_, Try.func82, by kernel_rfl, by kernel_rfl, by kernel_rfl, by kernel_rfl, by kernel_rfl, by kernel_rfl⟩
noncomputable def fnse81 : FnI := ⟨27, Try.f81.body.getD .skip, [.tmp 4, .tmp 5], []⟩
theorem fnse81_ok : FnOk Try.prog 81 fnse81 := ⟨_, Try.func81, by kernel_rfl, by kernel_rfl, by kernel_rfl, by kernel_rfl, by kernel_rfl, by kernel_rfl⟩
noncomputable def fnse80 : FnI := ⟨27, Try.f80.body.getD .skip, [.tmp 4, .tmp 5], []⟩
theorem fnse80_ok : FnOk Try.prog 80 fnse80 := ⟨_, Try.func80, by kernel_rfl, by kernel_rfl, by kernel_rfl, by kernel_rfl, by kernel_rfl, by kernel_rfl⟩
noncomputable def fnse79 : FnI := ⟨31, Try.f79.body.getD .skip, [.cell 4 25, .tmp 5], [(3, [(0, true), (1, true), (2, true), (3, true), (4, true), (5, true), (6, true), (7, true), (8, true), (9, false), (10, true), (11, true), (12, true), (13, true), (14, true)])]⟩
theorem fnse79_ok : FnOk Try.prog 79 fnse79 := ⟨_, Try.func79, by kernel_rfl, by kernel_rfl, by kernel_rfl, by kernel_rfl, by kernel_rfl, by kernel_rfl⟩
noncomputable def fnse78 : FnI := ⟨40, Try.f78.body.getD .skip, [.tmp 4, .tmp 5], []⟩
theorem fnse78_ok : FnOk Try.prog 78 fnse78 := ⟨_, Try.func78, by kernel_rfl, by kernel_rfl, by kernel_rfl, by kernel_rfl, by kernel_rfl, by kernel_rfl⟩
noncomputable def fnse87 : FnI := ⟨9, Try.f87.body.getD .skip, [.tmp 2], []⟩
theorem fnse87_ok : FnOk Try.prog 87 fnse87 := ⟨_, Try.func87, by kernel_rfl, by kernel_rfl, by kernel_rfl, by kernel_rfl, by kernel_rfl, by kernel_rfl⟩
noncomputable def fnse70 : FnI := ⟨61, Try.f70.body.getD .skip, [.tmp 2], []⟩
theorem fnse70_ok : FnOk Try.prog 70 fnse70 := ⟨_, Try.func70, by kernel_rfl, by kernel_rfl, by kernel_rfl, by kernel_rfl, by kernel_rfl, by kernel_rfl⟩
noncomputable def fnse44 : FnI := ⟨49, Try.f44.body.getD .skip, [.tmp 2], []⟩
theorem fnse44_ok : FnOk Try.prog 44 fnse44 := ⟨_, Try.func44, by kernel_rfl, by kernel_rfl, by kernel_rfl, by kernel_rfl, by kernel_rfl, by kernel_rfl⟩
noncomputable def fnse77 : FnI := ⟨8, Try.f77.body.getD .skip, [.cell 2 25], []⟩
theorem fnse77_ok : FnOk Try.prog 77 fnse77 := ⟨_, Try.func77, by kernel_rfl, by kernel_rfl, by kernel_rfl, by kernel_rfl, by kernel_rfl, by kernel_rfl⟩
noncomputable def fnse76 : FnI := ⟨32, Try.f76.body.getD .skip, [.tmp 4], []⟩
theorem fnse76_ok : FnOk Try.prog 76 fnse76 := ⟨_, Try.func76, by kernel_rfl, by kernel_rfl, by kernel_rfl, by kernel_rfl, by kernel_rfl, by kernel_rfl⟩
noncomputable def fnse68 : FnI := ⟨8, Try.f68.body.getD .skip, [.tmp 4], []⟩
theorem fnse68_ok : FnOk Try.prog 68 fnse68 := ⟨_, Try.func68, by kernel_rfl, by kernel_rfl, by kernel_rfl, by kernel_rfl, by kernel_rfl, by kernel_rfl⟩
noncomputable def fnse75 : FnI := ⟨9, Try.f75.body.getD .skip, [.tmp 4], []⟩
theorem fnse75_ok : FnOk Try.prog 75 fnse75 := ⟨_, Try.func75, by kernel_rfl, by kernel_rfl, by kernel_rfl, by kernel_rfl, by kernel_rfl, by kernel_rfl⟩
noncomputable def fnse86 : FnI := ⟨19, Try.f86.body.getD .skip, [.tmp 4], [(4, [(0, true), (1, true), (2, true), (3, true), (4, true), (5, true)])]⟩
theorem fnse86_ok : FnOk Try.prog 86 fnse86 := ⟨_, Try.func86, by kernel_rfl, by kernel_rfl, by kernel_rfl, by kernel_rfl, by kernel_rfl, by kernel_rfl⟩
noncomputable def fnse67 : FnI := ⟨10, Try.f67.body.getD .skip, [.cell 2 109], []⟩
theorem fnse67_ok : FnOk Try.prog 67 fnse67 := ⟨_, Try.func67, by kernel_rfl, by kernel_rfl, by kernel_rfl, by kernel_rfl, by kernel_rfl, by kernel_rfl⟩
noncomputable def fnse55 : FnI := ⟨15, Try.f55.body.getD .skip, [.tmp 4], []⟩
theorem fnse55_ok : FnOk Try.prog 55 fnse55 := ⟨_, Try.func55, by kernel_rfl, by kernel_rfl, by kernel_rfl, by kernel_rfl, by kernel_rfl, by kernel_rfl⟩
noncomputable def fnse66 : FnI := ⟨30, Try.f66.body.getD .skip, [.tmp 4, .tmp 5], []⟩
theorem fnse66_ok : FnOk Try.prog 66 fnse66 := ⟨_, Try.func66, by kernel_rfl, by kernel_rfl, by kernel_rfl, by kernel_rfl, by kernel_rfl, by kernel_rfl⟩
noncomputable def fnse74 : FnI := ⟨8, Try.f74.body.getD .skip, [.tmp 2], []⟩
theorem fnse74_ok : FnOk Try.prog 74 fnse74 := ⟨_, Try.func74, by kernel_rfl, by kernel_rfl, by kernel_rfl, by kernel_rfl, by kernel_rfl, by kernel_rfl⟩
noncomputable def fnse73 : FnI := ⟨10, Try.f73.body.getD .skip, [.tmp 6], []⟩
theorem fnse73_ok : FnOk Try.prog 73 fnse73 := ⟨_, Try.func73, by kernel_rfl, by kernel_rfl, by kernel_rfl, by kernel_rfl, by kernel_rfl, by kernel_rfl⟩
noncomputable def fnse84 : FnI := ⟨19, Try.f84.body.getD .skip, [.tmp 4], []⟩
theorem fnse84_ok : FnOk Try.prog 84 fnse84 := ⟨_, Try.func84, by kernel_rfl, by kernel_rfl, by kernel_rfl, by kernel_rfl, by kernel_rfl, by kernel_rfl⟩
noncomputable def fnse85 : FnI := ⟨15, Try.f85.body.getD .skip, [.tmp 4], []⟩
theorem fnse85_ok : FnOk Try.prog 85 fnse85 := ⟨_, Try.func85, by kernel_rfl, by kernel_rfl, by kernel_rfl, by kernel_rfl, by kernel_rfl, by kernel_rfl⟩
noncomputable def fnse51 : FnI := ⟨11, Try.f51.body.getD .skip, [.tmp 2], []⟩
theorem fnse51_ok : FnOk Try.prog 51 fnse51 := ⟨_, Try.func51, by kernel_rfl, by kernel_rfl, by kernel_rfl, by kernel_rfl, by kernel_rfl, by kernel_rfl⟩
noncomputable def fnse15 : FnI := ⟨38, Try.f15.body.getD .skip, [.tmp 2], []⟩
theorem fnse15_ok : FnOk Try.prog 15 fnse15 := ⟨_, Try.func15, by kernel_rfl, by kernel_rfl, by kernel_rfl, by kernel_rfl, by kernel_rfl, by kernel_rfl⟩
noncomputable def fnse39 : FnI := ⟨60, Try.f39.body.getD .skip, [.tmp 4, .tmp 5], [(11, [(0, true), (1, true), (2, true), (3, true), (4, true), (5, true), (6, false), (7, false), (8, true), (9, true)])]⟩
theorem fnse39_ok : FnOk Try.prog 39 fnse39 := ⟨_, Try.func39, by kernel_rfl, by kernel_rfl, by kernel_rfl, by kernel_rfl, by kernel_rfl, by kernel_rfl⟩
noncomputable def fnse57 : FnI := ⟨37, Try.f57.body.getD .skip, [.tmp 2], []⟩
theorem fnse57_ok : FnOk Try.prog 57 fnse57 := ⟨_, Try.func57, by kernel_rfl, by kernel_rfl, by kernel_rfl, by kernel_rfl, by kernel_rfl, by kernel_rfl⟩
noncomputable def fnse20 : FnI := ⟨16, Try.f20.body.getD .skip, [.tmp 2], []⟩
theorem fnse20_ok : FnOk Try.prog 20 fnse20 := ⟨_, Try.func20, by kernel_rfl, by kernel_rfl, by kernel_rfl, by kernel_rfl, by kernel_rfl, by kernel_rfl⟩
noncomputable def fnse56 : FnI := ⟨35, Try.f56.body.getD .skip, [.tmp 2, .tmp 3], []⟩
theorem fnse56_ok : FnOk Try.prog 56 fnse56 := ⟨_, Try.func56, by kernel_rfl, by kernel_rfl, by kernel_rfl, by kernel_rfl, by kernel_rfl, by kernel_rfl⟩
noncomputable def fnse36 : FnI := ⟨6, Try.f36.body.getD .skip, [.cell 2 25], []⟩
theorem fnse36_ok : FnOk Try.prog 36 fnse36 := ⟨_, Try.func36, by kernel_rfl, by kernel_rfl, by kernel_rfl, by kernel_rfl, by kernel_rfl, by kernel_rfl⟩
noncomputable def fnse33 : FnI := ⟨5, Try.f33.body.getD .skip, [.cell 2 27], []⟩
theorem fnse33_ok : FnOk Try.prog 33 fnse33 := ⟨_, Try.func33, by kernel_rfl, by kernel_rfl, by kernel_rfl, by kernel_rfl, by kernel_rfl, by kernel_rfl⟩
noncomputable def fnse34 : FnI := ⟨5, Try.f34.body.getD .skip, [.cell 2 25], []⟩
theorem fnse34_ok : FnOk Try.prog 34 fnse34 := ⟨_, Try.func34, by kernel_rfl, by kernel_rfl, by kernel_rfl, by kernel_rfl, by kernel_rfl, by kernel_rfl⟩
noncomputable def fnse32 : FnI := ⟨5, Try.f32.body.getD .skip, [.cell 2 27], []⟩
theorem fnse32_ok : FnOk Try.prog 32 fnse32 := ⟨_, Try.func32, by kernel_rfl, by kernel_rfl, by kernel_rfl, by kernel_rfl, by kernel_rfl, by kernel_rfl⟩
noncomputable def fnse31 : FnI := ⟨9, Try.f31.body.getD .skip, [.cell 4 27], []⟩
theorem fnse31_ok : FnOk Try.prog 31 fnse31 := ⟨_, Try.func31, by kernel_rfl, by kernel_rfl, by kernel_rfl, by kernel_rfl, by kernel_rfl, by kernel_rfl⟩
noncomputable def FnsEF : List (FuncId × FnI) := [(11, fnse11),
  (35, fnse35),
  (52, fnse52),
  (69, fnse69),
  (83, fnse83),
  (82, fnse82),
  (81, fnse81),
  (80, fnse80),
  (79, fnse79),
  (78, fnse78),
  (87, fnse87),
  (70, fnse70),
  (44, fnse44),
  (77, fnse77),
  (76, fnse76),
  (68, fnse68),
  (75, fnse75),
  (86, fnse86),
  (67, fnse67),
  (55, fnse55),
  (66, fnse66),
  (74, fnse74),
  (73, fnse73),
  (84, fnse84),
  (85, fnse85),
  (51, fnse51),
  (15, fnse15),
  (39, fnse39),
  (57, fnse57),
  (20, fnse20),
  (56, fnse56),
  (36, fnse36),
  (33, fnse33),
  (34, fnse34),
  (32, fnse32),
  (31, fnse31)]
theorem FnsEF_ok (C : FuncId → List PV → Option SV) : FOk Try.prog ⟨TTab, FnsEF, C⟩ := fok_cons fnse11_ok <| 
  fok_cons fnse35_ok <| 
  fok_cons fnse52_ok <| 
  fok_cons fnse69_ok <| 
  fok_cons fnse83_ok <| 
  fok_cons fnse82_ok <| 
  fok_cons fnse81_ok <| 
  fok_cons fnse80_ok <| 
  fok_cons fnse79_ok <| 
  fok_cons fnse78_ok <| 
  fok_cons fnse87_ok <| 
  fok_cons fnse70_ok <| 
  fok_cons fnse44_ok <| 
  fok_cons fnse77_ok <| 
  fok_cons fnse76_ok <| 
  fok_cons fnse68_ok <| 
  fok_cons fnse75_ok <| 
  fok_cons fnse86_ok <| 
  fok_cons fnse67_ok <| 
  fok_cons fnse55_ok <| 
  fok_cons fnse66_ok <| 
  fok_cons fnse74_ok <| 
  fok_cons fnse73_ok <| 
  fok_cons fnse84_ok <| 
  fok_cons fnse85_ok <| 
  fok_cons fnse51_ok <| 
  fok_cons fnse15_ok <| 
  fok_cons fnse39_ok <| 
  fok_cons fnse57_ok <| 
  fok_cons fnse20_ok <| 
  fok_cons fnse56_ok <| 
  fok_cons fnse36_ok <| 
  fok_cons fnse33_ok <| 
  fok_cons fnse34_ok <| 
  fok_cons fnse32_ok <| 
  fok_cons fnse31_ok <| fok_nil
end Go.Proofs.Ytincpceccfoldaa
