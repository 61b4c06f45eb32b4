/-
  The evaluator's table of functions (printed by a program of ours).
-/
import Derived.Test.YtjpcchipejmocaaTypes
import Derived.Test.YtjpcchipejmocaaEvalOk
namespace Go.Proofs.Ytjpcchipejmocaa
open Go.RowKit
noncomputable def fnse19 : FnI := ⟨76, Try.f19.body.getD .skip, [.tmp 0], [(6, [(0, true), (1, false), (2, false), (3, false), (4, false), (5, false), (6, false), (7, false), (8, false), (9, false), (10, false), (11, false), (12, false), (13, false), (14, false), (15, false), (16, true), (17, false), (18, false), (19, false), (20, false), (21, false), (22, false), (23, false), (24, false)])]⟩
theorem fnse19_ok : FnOk Try.prog 19 fnse19 := ⟨_, Try.func19, by kernel_rfl, by kernel_rfl, by kernel_rfl, by kernel_rfl, by kernel_rfl, by kernel_rfl⟩
noncomputable def fnse17 : FnI := ⟨51, Try.f17.body.getD .skip, [.cell 4 24, .tmp 5], [(8, [(0, true), (1, true), (2, true), (3, true), (4, true), (5, true), (6, true), (7, false), (8, false), (9, false), (10, false), (11, false)]), (10, [(0, true), (1, true), (2, true), (3, true), (4, true), (5, true), (6, true), (7, true), (8, false), (9, false)])]⟩
theorem fnse17_ok : FnOk Try.prog 17 fnse17 := ⟨_, Try.func17, by kernel_rfl, by kernel_rfl, by kernel_rfl, by kernel_rfl, by kernel_rfl, by kernel_rfl⟩
noncomputable def fnse46 : FnI := ⟨122, Try.f46.body.getD .skip, [.cell 6 87], [(28, [(0, true), (1, true), (2, true), (3, true), (4, false), (5, false), (6, false), (7, false), (8, false), (9, false), (10, false)])]⟩
theorem fnse46_ok : FnOk Try.prog 46 fnse46 := ⟨_, Try.func46, by kernel_rfl, by kernel_rfl, by kernel_rfl, by kernel_rfl, by kernel_rfl, by kernel_rfl⟩
noncomputable def fnse69 : FnI := ⟨111, Try.f69.body.getD .skip, [.cell 4 24, .tmp 5], [(5, [(0, true), (1, true), (2, true), (3, true), (4, false), (5, false), (6, false), (7, false), (8, false)]), (7, [(0, true), (1, true), (2, true), (3, false), (4, false), (5, false), (6, false), (7, false), (8, false), (9, false)]), (9, [(0, true), (1, true), (2, true), (3, false), (4, false), (5, false), (6, false), (7, false), (8, true), (9, true), (10, false), (11, false)])]⟩
theorem fnse69_ok : FnOk Try.prog 69 fnse69 := ⟨_, Try.func69, by kernel_rfl, by kernel_rfl, by kernel_rfl, by kernel_rfl, by kernel_rfl, by kernel_rfl⟩
noncomputable def fnse90 : FnI := ⟨18, Try.f90.body.getD .skip, [.tmp 4], []⟩
theorem fnse90_ok : FnOk Try.prog 90 fnse90 := ⟨_, Try.func90, by kernel_rfl, by kernel_rfl, by kernel_rfl, by kernel_rfl, by kernel_rfl, by kernel_rfl⟩
noncomputable def fnse89 : FnI := ⟨36, Try.f89.body.getD .skip, [.tmp 4, .tmp 5], []⟩
theorem fnse89_ok : FnOk Try.prog 89 fnse89 := ⟨_, Try.func89, by kernel_rfl, by kernel_rfl, by kernel_rfl, by kernel_rfl, by kernel_rfl, by kernel_rfl⟩
noncomputable def fnse88 : FnI := ⟨27, Try.f88.body.getD .skip, [.tmp 4, .tmp 5], []⟩
theorem fnse88_ok : FnOk Try.prog 88 fnse88 := ⟨_, Try.func88, by kernel_rfl, by kernel_rfl, by kernel_rfl, by kernel_rfl, by kernel_rfl, by kernel_rfl⟩
noncomputable def fnse87 : FnI := ⟨27, Try.f87.body.getD .skip, [.tmp 4, .tmp 5], []⟩
theorem fnse87_ok : FnOk Try.prog 87 fnse87 := ⟨_, Try.func87, by kernel_rfl, by kernel_rfl, by kernel_rfl, by kernel_rfl, by kernel_rfl, by kernel_rfl⟩
noncomputable def fnse86 : FnI := ⟨31, Try.f86.body.getD .skip, [.cell 4 24, .tmp 5], [(3, [(0, true), (1, true), (2, true), (3, true), (4, true), (5, false), (6, false), (7, false), (8, false), (9, false), (10, false), (11, true), (12, true), (13, false), (14, false)])]⟩
theorem fnse86_ok : FnOk Try.prog 86 fnse86 := ⟨_, Try.func86, by kernel_rfl, by kernel_rfl, by kernel_rfl, by kernel_rfl, by kernel_rfl, by kernel_rfl⟩
noncomputable def fnse27 : FnI := ⟨40, Try.f27.body.getD .skip, [.tmp 4, .tmp 5], []⟩
theorem fnse27_ok : FnOk Try.prog 27 fnse27 := ⟨_, Try.func27, by kernel_rfl, by kernel_rfl, by kernel_rfl, by kernel_rfl, by kernel_rfl, by kernel_rfl⟩
noncomputable def fnse53 : FnI := ⟨9, Try.f53.body.getD .skip, [.tmp 2], []⟩
theorem fnse53_ok : FnOk Try.prog 53 fnse53 := ⟨_, Try.func53, by kernel_rfl, by kernel_rfl, by kernel_rfl, by kernel_rfl, by kernel_rfl, by kernel_rfl⟩
noncomputable def fnse24 : FnI := ⟨61, Try.f24.body.getD .skip, [.tmp 2], []⟩
theorem fnse24_ok : FnOk Try.prog 24 fnse24 := ⟨_, Try.func24, by kernel_rfl, by kernel_rfl, by kernel_rfl, by kernel_rfl, by kernel_rfl, by kernel_rfl⟩
noncomputable def fnse51 : FnI := ⟨49, Try.f51.body.getD .skip, [.tmp 2], []⟩
theorem fnse51_ok : FnOk Try.prog 51 fnse51 := ⟨_, Try.func51, by kernel_rfl, by kernel_rfl, by kernel_rfl, by kernel_rfl, by kernel_rfl, by kernel_rfl⟩
noncomputable def fnse85 : FnI := ⟨8, Try.f85.body.getD .skip, [.cell 2 24], []⟩
theorem fnse85_ok : FnOk Try.prog 85 fnse85 := ⟨_, Try.func85, by kernel_rfl, by kernel_rfl, by kernel_rfl, by kernel_rfl, by kernel_rfl, by kernel_rfl⟩
noncomputable def fnse84 : FnI := ⟨32, Try.f84.body.getD .skip, [.tmp 4], []⟩
theorem fnse84_ok : FnOk Try.prog 84 fnse84 := ⟨_, Try.func84, by kernel_rfl, by kernel_rfl, by kernel_rfl, by kernel_rfl, by kernel_rfl, by kernel_rfl⟩
noncomputable def fnse26 : FnI := ⟨8, Try.f26.body.getD .skip, [.tmp 4], []⟩
theorem fnse26_ok : FnOk Try.prog 26 fnse26 := ⟨_, Try.func26, by kernel_rfl, by kernel_rfl, by kernel_rfl, by kernel_rfl, by kernel_rfl, by kernel_rfl⟩
noncomputable def fnse52 : FnI := ⟨9, Try.f52.body.getD .skip, [.tmp 4], []⟩
theorem fnse52_ok : FnOk Try.prog 52 fnse52 := ⟨_, Try.func52, by kernel_rfl, by kernel_rfl, by kernel_rfl, by kernel_rfl, by kernel_rfl, by kernel_rfl⟩
noncomputable def fnse72 : FnI := ⟨19, Try.f72.body.getD .skip, [.tmp 4], [(4, [(0, true), (1, true), (2, false), (3, false), (4, false), (5, false)])]⟩
theorem fnse72_ok : FnOk Try.prog 72 fnse72 := ⟨_, Try.func72, by kernel_rfl, by kernel_rfl, by kernel_rfl, by kernel_rfl, by kernel_rfl, by kernel_rfl⟩
noncomputable def fnse68 : FnI := ⟨10, Try.f68.body.getD .skip, [.cell 2 87], []⟩
theorem fnse68_ok : FnOk Try.prog 68 fnse68 := ⟨_, Try.func68, by kernel_rfl, by kernel_rfl, by kernel_rfl, by kernel_rfl, by kernel_rfl, by kernel_rfl⟩
noncomputable def fnse50 : FnI := ⟨15, Try.f50.body.getD .skip, [.tmp 4], []⟩
theorem fnse50_ok : FnOk Try.prog 50 fnse50 := ⟨_, Try.func50, by kernel_rfl, by kernel_rfl, by kernel_rfl, by kernel_rfl, by kernel_rfl, by kernel_rfl⟩
noncomputable def fnse67 : FnI := ⟨30, Try.f67.body.getD .skip, [.tmp 4, .tmp 5], []⟩
theorem fnse67_ok : FnOk Try.prog 67 fnse67 := ⟨_, Try.func67, by kernel_rfl, by kernel_rfl, by kernel_rfl, by kernel_rfl, by kernel_rfl, by kernel_rfl⟩
noncomputable def fnse56 : FnI := ⟨8, Try.f56.body.getD .skip, [.tmp 2], []⟩
theorem fnse56_ok : FnOk Try.prog 56 fnse56 := ⟨_, Try.func56, by kernel_rfl, by kernel_rfl, by kernel_rfl, by kernel_rfl, by kernel_rfl, by kernel_rfl⟩
noncomputable def fnse54 : FnI := ⟨10, Try.f54.body.getD .skip, [.tmp 6], []⟩
theorem fnse54_ok : FnOk Try.prog 54 fnse54 := ⟨_, Try.func54, by kernel_rfl, by kernel_rfl, by kernel_rfl, by kernel_rfl, by kernel_rfl, by kernel_rfl⟩
noncomputable def fnse73 : FnI := ⟨19, Try.f73.body.getD .skip, [.tmp 4], []⟩
theorem fnse73_ok : FnOk Try.prog 73 fnse73 := ⟨_, Try.func73, by kernel_rfl, by kernel_rfl, by kernel_rfl, by kernel_rfl, by kernel_rfl, by kernel_rfl⟩
noncomputable def fnse74 : FnI := ⟨15, Try.f74.body.getD .skip, [.tmp 4], []⟩
theorem fnse74_ok : FnOk Try.prog 74 fnse74 := ⟨_, Try.func74, by kernel_rfl, by kernel_rfl, by kernel_rfl, by kernel_rfl, by kernel_rfl, by kernel_rfl⟩
noncomputable def fnse45 : FnI := ⟨11, Try.f45.body.getD .skip, [.tmp 2], []⟩
theorem fnse45_ok : FnOk Try.prog 45 fnse45 := ⟨_, Try.func45, by kernel_rfl, by kernel_rfl, by kernel_rfl, by kernel_rfl, by kernel_rfl, by kernel_rfl⟩
noncomputable def fnse20 : FnI := ⟨38, Try.f20.body.getD .skip, [.tmp 2], []⟩
theorem fnse20_ok : FnOk Try.prog 20 fnse20 := ⟨_, Try.func20, by kernel_rfl, by kernel_rfl, by kernel_rfl, by kernel_rfl, by kernel_rfl, by kernel_rfl⟩
noncomputable def fnse47 : FnI := ⟨60, Try.f47.body.getD .skip, [.tmp 4, .tmp 5], [(11, [(0, true), (1, true), (2, true), (3, false), (4, false), (5, false), (6, false), (7, false), (8, false), (9, false)])]⟩
theorem fnse47_ok : FnOk Try.prog 47 fnse47 := ⟨_, Try.func47, by kernel_rfl, by kernel_rfl, by kernel_rfl, by kernel_rfl, by kernel_rfl, by kernel_rfl⟩
noncomputable def fnse71 : FnI := ⟨37, Try.f71.body.getD .skip, [.tmp 2], []⟩
theorem fnse71_ok : FnOk Try.prog 71 fnse71 := ⟨_, Try.func71, by kernel_rfl, by kernel_rfl, by kernel_rfl, by kernel_rfl, by kernel_rfl, by kernel_rfl⟩
noncomputable def fnse36 : FnI := ⟨16, Try.f36.body.getD .skip, [.tmp 2], []⟩
theorem fnse36_ok : FnOk Try.prog 36 fnse36 := ⟨_, Try.func36, by kernel_rfl, by kernel_rfl, by kernel_rfl, by kernel_rfl, by kernel_rfl, by kernel_rfl⟩
noncomputable def fnse70 : FnI := ⟨35, Try.f70.body.getD .skip, [.tmp 2, .tmp 3], []⟩
theorem fnse70_ok : FnOk Try.prog 70 fnse70 := ⟨_, Try.func70, by kernel_rfl, by kernel_rfl, by kernel_rfl, by kernel_rfl, by kernel_rfl, by kernel_rfl⟩
noncomputable def fnse18 : FnI := ⟨6, Try.f18.body.getD .skip, [.cell 2 24], []⟩
theorem fnse18_ok : FnOk Try.prog 18 fnse18 := ⟨_, Try.func18, by kernel_rfl, by kernel_rfl, by kernel_rfl, by kernel_rfl, by kernel_rfl, by kernel_rfl⟩
noncomputable def fnse14 : FnI := ⟨5, Try.f14.body.getD .skip, [.cell 2 28], []⟩
theorem fnse14_ok : FnOk Try.prog 14 fnse14 := ⟨_, Try.func14, by kernel_rfl, by kernel_rfl, by kernel_rfl, by kernel_rfl, by kernel_rfl, by kernel_rfl⟩
noncomputable def fnse15 : FnI := ⟨5, Try.f15.body.getD .skip, [.cell 2 24], []⟩
theorem fnse15_ok : FnOk Try.prog 15 fnse15 := ⟨_, Try.func15, by kernel_rfl, by kernel_rfl, by kernel_rfl, by kernel_rfl, by kernel_rfl, by kernel_rfl⟩
noncomputable def fnse16 : FnI := ⟨5, Try.f16.body.getD .skip, [.cell 2 28], []⟩
theorem fnse16_ok : FnOk Try.prog 16 fnse16 := ⟨_, Try.func16, by kernel_rfl, by kernel_rfl, by kernel_rfl, by kernel_rfl, by kernel_rfl, by kernel_rfl⟩
noncomputable def fnse25 : FnI := ⟨9, Try.f25.body.getD .skip, [.cell 4 28], []⟩
theorem fnse25_ok : FnOk Try.prog 25 fnse25 := ⟨_, Try.func25, by kernel_rfl, by kernel_rfl, by kernel_rfl, by kernel_rfl, by kernel_rfl, by kernel_rfl⟩
noncomputable def FnsEF : List (FuncId × FnI) := [(19, fnse19),
  (17, fnse17),
  (46, fnse46),
  (69, fnse69),
  (90, fnse90),
  (89, fnse89),
  (88, fnse88),
  (87, fnse87),
  (86, fnse86),
  (27, fnse27),
  (53, fnse53),
  (24, fnse24),
  (51, fnse51),
  (85, fnse85),
  (84, fnse84),
  (26, fnse26),
  (52, fnse52),
  (72, fnse72),
  (68, fnse68),
  (50, fnse50),
  (67, fnse67),
  (56, fnse56),
  (54, fnse54),
  (73, fnse73),
  (74, fnse74),
  (45, fnse45),
  (20, fnse20),
  (47, fnse47),
  (71, fnse71),
  (36, fnse36),
  (70, fnse70),
  (18, fnse18),
  (14, fnse14),
  (15, fnse15),
  (16, fnse16),
  (25, fnse25)]
theorem FnsEF_ok (C : FuncId → List PV → Option SV) : FOk Try.prog ⟨TTab, FnsEF, C⟩ := fok_cons fnse19_ok <| 
  fok_cons fnse17_ok <| 
  fok_cons fnse46_ok <| 
  fok_cons fnse69_ok <| 
  fok_cons fnse90_ok <| 
  fok_cons fnse89_ok <| 
  fok_cons fnse88_ok <| 
  fok_cons fnse87_ok <| 
  fok_cons fnse86_ok <| 
  fok_cons fnse27_ok <| 
  fok_cons fnse53_ok <| 
  fok_cons fnse24_ok <| 
  fok_cons fnse51_ok <| 
  fok_cons fnse85_ok <| 
  fok_cons fnse84_ok <| 
  fok_cons fnse26_ok <| 
  fok_cons fnse52_ok <| 
  fok_cons fnse72_ok <| 
  fok_cons fnse68_ok <| 
  fok_cons fnse50_ok <| 
  fok_cons fnse67_ok <| 
  fok_cons fnse56_ok <| 
  fok_cons fnse54_ok <| 
  fok_cons fnse73_ok <| 
  fok_cons fnse74_ok <| 
  fok_cons fnse45_ok <| 
  fok_cons fnse20_ok <| 
  fok_cons fnse47_ok <| 
  fok_cons fnse71_ok <| 
  fok_cons fnse36_ok <| 
  fok_cons fnse70_ok <| 
  fok_cons fnse18_ok <| 
  fok_cons fnse14_ok <| 
  fok_cons fnse15_ok <| 
  fok_cons fnse16_ok <| 
  fok_cons fnse25_ok <| fok_nil
end Go.Proofs.Ytjpcchipejmocaa
