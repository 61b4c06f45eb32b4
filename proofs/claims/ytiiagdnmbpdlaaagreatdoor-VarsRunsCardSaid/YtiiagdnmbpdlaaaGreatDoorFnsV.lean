/-
  The evaluator's table of functions (printed by a program of ours).
-/
import Derived.Test.YtiiagdnmbpdlaaaGreatDoorTypes
import Derived.Test.YtiiagdnmbpdlaaaGreatDoorEvalOk
namespace Go.Proofs.YtiiagdnmbpdlaaaGreatDoor
open Go.RowKit
noncomputable def fnsv3 : FnI := ⟨27, Tryz.f3.body.getD .skip, [.tmp 0], []⟩
theorem fnsv3_ok : FnOk Tryz.prog 3 fnsv3 := ⟨_, Tryz.func3, by kernel_rfl, by kernel_rfl, by kernel_rfl, by kernel_rfl, by kernel_rfl, by kernel_rfl⟩
noncomputable def fnsv8 : FnI := ⟨42, Tryz.f8.body.getD .skip, [.tmp 4], [(6, [(0, true), (1, true), (2, true), (3, true), (4, true), (5, true), (6, false), (7, false), (8, false), (9, false), (10, false), (11, false), (12, true), (13, true), (14, true), (15, true), (16, true), (17, true), (18, false), (19, false), (20, false), (21, false), (22, false), (23, false), (24, false)])]⟩
theorem fnsv8_ok : FnOk Tryz.prog 8 fnsv8 := ⟨_, Tryz.func8, by kernel_rfl, by kernel_rfl, by kernel_rfl, by kernel_rfl, by kernel_rfl, by kernel_rfl⟩
noncomputable def fnsv21 : FnI := ⟨26, Tryz.f21.body.getD .skip, [.tmp 4], [(6, [(0, true), (1, true), (2, true), (3, true), (4, true), (5, false), (6, false), (7, false), (8, false)])]⟩
theorem fnsv21_ok : FnOk Tryz.prog 21 fnsv21 := ⟨_, Tryz.func21, by kernel_rfl, by kernel_rfl, by kernel_rfl, by kernel_rfl, by kernel_rfl, by kernel_rfl⟩
noncomputable def fnsv6 : FnI := ⟨14, Tryz.f6.body.getD .skip, [.tmp 2, .tmp 3], []⟩
theorem fnsv6_ok : FnOk Tryz.prog 6 fnsv6 := ⟨_, Tryz.func6, by kernel_rfl, by kernel_rfl, by kernel_rfl, by kernel_rfl, by kernel_rfl, by kernel_rfl⟩
noncomputable def fnsv19 : FnI := ⟨46, Tryz.f19.body.getD .skip, [.tmp 4], []⟩
theorem fnsv19_ok : FnOk Tryz.prog 19 fnsv19 := ⟨_, Tryz.func19, by kernel_rfl, by kernel_rfl, by kernel_rfl, by kernel_rfl, by kernel_rfl, by kernel_rfl⟩
noncomputable def fnsv31 : FnI := ⟨18, Tryz.f31.body.getD .skip, [.tmp 4], []⟩
theorem fnsv31_ok : FnOk Tryz.prog 31 fnsv31 := ⟨_, Tryz.func31, by kernel_rfl, by kernel_rfl, by kernel_rfl, by kernel_rfl, by kernel_rfl, by kernel_rfl⟩
noncomputable def fnsv51 : FnI := ⟨8, Tryz.f51.body.getD .skip, [.tmp 2], []⟩
theorem fnsv51_ok : FnOk Tryz.prog 51 fnsv51 := ⟨_, Tryz.func51, by kernel_rfl, by kernel_rfl, by kernel_rfl, by kernel_rfl, by kernel_rfl, by kernel_rfl⟩
noncomputable def fnsv50 : FnI := ⟨8, Tryz.f50.body.getD .skip, [.tmp 4], []⟩
theorem fnsv50_ok : FnOk Tryz.prog 50 fnsv50 := ⟨_, Tryz.func50, by kernel_rfl, by kernel_rfl, by kernel_rfl, by kernel_rfl, by kernel_rfl, by kernel_rfl⟩
noncomputable def fnsv82 : FnI := ⟨19, Tryz.f82.body.getD .skip, [.tmp 4], []⟩
theorem fnsv82_ok : FnOk Tryz.prog 82 fnsv82 := ⟨_, Tryz.func82, by kernel_rfl, by kernel_rfl, by kernel_rfl, by kernel_rfl, by kernel_rfl, by kernel_rfl⟩
noncomputable def fnsv83 : FnI := ⟨16, Tryz.f83.body.getD .skip, [.tmp 3], []⟩
theorem fnsv83_ok : FnOk Tryz.prog 83 fnsv83 := ⟨_, Tryz.func83, by kernel_rfl, by kernel_rfl, by kernel_rfl, by kernel_rfl, by kernel_rfl, by kernel_rfl⟩
noncomputable def fnsv84 : FnI := ⟨26, Tryz.f84.body.getD .skip, [.tmp 4], [(6, [(0, true), (1, true), (2, true), (3, true), (4, true), (5, false), (6, false), (7, false), (8, false)])]⟩
theorem fnsv84_ok : FnOk Tryz.prog 84 fnsv84 := ⟨_, Tryz.func84, by kernel_rfl, by kernel_rfl, by kernel_rfl, by kernel_rfl, by kernel_rfl, by kernel_rfl⟩
noncomputable def fnsv30 : FnI := ⟨37, Tryz.f30.body.getD .skip, [.tmp 4], []⟩
theorem fnsv30_ok : FnOk Tryz.prog 30 fnsv30 := ⟨_, Tryz.func30, by kernel_rfl, by kernel_rfl, by kernel_rfl, by kernel_rfl, by kernel_rfl, by kernel_rfl⟩
noncomputable def fnsv18 : FnI := ⟨10, Tryz.f18.body.getD .skip, [.tmp 2], []⟩
theorem fnsv18_ok : FnOk Tryz.prog 18 fnsv18 := ⟨_, Tryz.func18, by kernel_rfl, by kernel_rfl, by kernel_rfl, by kernel_rfl, by kernel_rfl, by kernel_rfl⟩
noncomputable def fnsv29 : FnI := ⟨52, Tryz.f29.body.getD .skip, [.tmp 6], []⟩
theorem fnsv29_ok : FnOk Tryz.prog 29 fnsv29 := ⟨_, Tryz.func29, by kernel_rfl, by kernel_rfl, by kernel_rfl, by kernel_rfl, by kernel_rfl, by kernel_rfl⟩
noncomputable def fnsv49 : FnI := ⟨39, Tryz.f49.body.getD .skip, [.tmp 4], []⟩
theorem fnsv49_ok : FnOk Tryz.prog 49 fnsv49 := ⟨_, Tryz.func49, by kernel_rfl, by kernel_rfl, by kernel_rfl, by kernel_rfl, by kernel_rfl, by kernel_rfl⟩
noncomputable def fnsv80 : FnI := ⟨39, Tryz.f80.body.getD .skip, [.tmp 2], []⟩
theorem fnsv80_ok : FnOk Tryz.prog 80 fnsv80 := ⟨_, Tryz.func80, by kernel_rfl, by kernel_rfl, by kernel_rfl, by kernel_rfl, by kernel_rfl, by kernel_rfl⟩
noncomputable def fnsv116 : FnI := ⟨49, Tryz.f116.body.getD .skip, [.tmp 2], []⟩
theorem fnsv116_ok : FnOk Tryz.prog 116 fnsv116 := ⟨_, Tryz.func116, by kernel_rfl, by kernel_rfl, by kernel_rfl, by kernel_rfl, by kernel_rfl, by kernel_rfl⟩
noncomputable def fnsv81 : FnI := ⟨38, Tryz.f81.body.getD .skip, [.tmp 2], []⟩
theorem fnsv81_ok : FnOk Tryz.prog 81 fnsv81 := ⟨_, Tryz.func81, by kernel_rfl, by kernel_rfl, by kernel_rfl, by kernel_rfl, by kernel_rfl, by kernel_rfl⟩
noncomputable def fnsv118 : FnI := ⟨60, Tryz.f118.body.getD .skip, [.tmp 4, .tmp 5], [(11, [(0, true), (1, true), (2, true), (3, false), (4, false), (5, false), (6, false), (7, false), (8, false), (9, false)])]⟩
theorem fnsv118_ok : FnOk Tryz.prog 118 fnsv118 := ⟨_, Tryz.func118, by kernel_rfl, by kernel_rfl, by kernel_rfl, by kernel_rfl, by kernel_rfl, by kernel_rfl⟩
noncomputable def fnsv149 : FnI := ⟨37, Tryz.f149.body.getD .skip, [.tmp 2], []⟩
theorem fnsv149_ok : FnOk Tryz.prog 149 fnsv149 := ⟨_, Tryz.func149, by kernel_rfl, by kernel_rfl, by kernel_rfl, by kernel_rfl, by kernel_rfl, by kernel_rfl⟩
noncomputable def fnsv167 : FnI := ⟨16, Tryz.f167.body.getD .skip, [.tmp 2], []⟩
theorem fnsv167_ok : FnOk Tryz.prog 167 fnsv167 := ⟨_, Tryz.func167, by kernel_rfl, by kernel_rfl, by kernel_rfl, by kernel_rfl, by kernel_rfl, by kernel_rfl⟩
noncomputable def fnsv144 : FnI := ⟨61, Tryz.f144.body.getD .skip, [.tmp 2], []⟩
theorem fnsv144_ok : FnOk Tryz.prog 144 fnsv144 := ⟨_, Tryz.func144, by kernel_rfl, by kernel_rfl, by kernel_rfl, by kernel_rfl, by kernel_rfl, by kernel_rfl⟩
noncomputable def fnsv148 : FnI := ⟨35, Tryz.f148.body.getD .skip, [.tmp 2, .tmp 3], []⟩
theorem fnsv148_ok : FnOk Tryz.prog 148 fnsv148 := ⟨_, Tryz.func148, by kernel_rfl, by kernel_rfl, by kernel_rfl, by kernel_rfl, by kernel_rfl, by kernel_rfl⟩
noncomputable def fnsv79 : FnI := ⟨21, Tryz.f79.body.getD .skip, [.tmp 2], []⟩
theorem fnsv79_ok : FnOk Tryz.prog 79 fnsv79 := ⟨_, Tryz.func79, by kernel_rfl, by kernel_rfl, by kernel_rfl, by kernel_rfl, by kernel_rfl, by kernel_rfl⟩
noncomputable def fnsv117 : FnI := ⟨25, Tryz.f117.body.getD .skip, [.tmp 2], []⟩
theorem fnsv117_ok : FnOk Tryz.prog 117 fnsv117 := ⟨_, Tryz.func117, by kernel_rfl, by kernel_rfl, by kernel_rfl, by kernel_rfl, by kernel_rfl, by kernel_rfl⟩
noncomputable def fnsv147 : FnI := ⟨22, Tryz.f147.body.getD .skip, [.tmp 2], []⟩
theorem fnsv147_ok : FnOk Tryz.prog 147 fnsv147 := ⟨_, Tryz.func147, by kernel_rfl, by kernel_rfl, by kernel_rfl, by kernel_rfl, by kernel_rfl, by kernel_rfl⟩
noncomputable def fnsv166 : FnI := ⟨21, Tryz.f166.body.getD .skip, [.tmp 2], []⟩
theorem fnsv166_ok : FnOk Tryz.prog 166 fnsv166 := ⟨_, Tryz.func166, by kernel_rfl, by kernel_rfl, by kernel_rfl, by kernel_rfl, by kernel_rfl, by kernel_rfl⟩
noncomputable def fnsv146 : FnI := ⟨9, Tryz.f146.body.getD .skip, [.tmp 2], []⟩
theorem fnsv146_ok : FnOk Tryz.prog 146 fnsv146 := ⟨_, Tryz.func146, by kernel_rfl, by kernel_rfl, by kernel_rfl, by kernel_rfl, by kernel_rfl, by kernel_rfl⟩
noncomputable def fnsv78 : FnI := ⟨28, Tryz.f78.body.getD .skip, [.tmp 4], []⟩
theorem fnsv78_ok : FnOk Tryz.prog 78 fnsv78 := ⟨_, Tryz.func78, by kernel_rfl, by kernel_rfl, by kernel_rfl, by kernel_rfl, by kernel_rfl, by kernel_rfl⟩
noncomputable def fnsv48 : FnI := ⟨68, Tryz.f48.body.getD .skip, [.tmp 4], []⟩
theorem fnsv48_ok : FnOk Tryz.prog 48 fnsv48 := ⟨_, Tryz.func48, by kernel_rfl, by kernel_rfl, by kernel_rfl, by kernel_rfl, by kernel_rfl, by kernel_rfl⟩
noncomputable def fnsv7 : FnI := ⟨13, Tryz.f7.body.getD .skip, [.cell 2 32], []⟩
theorem fnsv7_ok : FnOk Tryz.prog 7 fnsv7 := ⟨_, Tryz.func7, by kernel_rfl, by kernel_rfl, by kernel_rfl, by kernel_rfl, by kernel_rfl, by kernel_rfl⟩
noncomputable def fnsv20 : FnI := ⟨61, Tryz.f20.body.getD .skip, [.cell 2 32, .tmp 3, .tmp 4], [(11, [(0, true), (1, true), (2, true), (3, true), (4, true), (5, true), (6, true), (7, true), (8, true), (9, false), (10, false), (11, false)])]⟩
theorem fnsv20_ok : FnOk Tryz.prog 20 fnsv20 := ⟨_, Tryz.func20, by kernel_rfl, by kernel_rfl, by kernel_rfl, by kernel_rfl, by kernel_rfl, by kernel_rfl⟩
noncomputable def fnsv36 : FnI := ⟨19, Tryz.f36.body.getD .skip, [], []⟩
theorem fnsv36_ok : FnOk Tryz.prog 36 fnsv36 := ⟨_, Tryz.func36, by kernel_rfl, by kernel_rfl, by kernel_rfl, by kernel_rfl, by kernel_rfl, by kernel_rfl⟩
noncomputable def fnsv35 : FnI := ⟨7, Tryz.f35.body.getD .skip, [], []⟩
theorem fnsv35_ok : FnOk Tryz.prog 35 fnsv35 := ⟨_, Tryz.func35, by kernel_rfl, by kernel_rfl, by kernel_rfl, by kernel_rfl, by kernel_rfl, by kernel_rfl⟩
noncomputable def fnsv34 : FnI := ⟨13, Tryz.f34.body.getD .skip, [.cell 2 108], [(1, [(0, true), (1, true), (2, true), (3, true), (4, false), (5, false), (6, false), (7, false), (8, false), (9, false), (10, false)])]⟩
theorem fnsv34_ok : FnOk Tryz.prog 34 fnsv34 := ⟨_, Tryz.func34, by kernel_rfl, by kernel_rfl, by kernel_rfl, by kernel_rfl, by kernel_rfl, by kernel_rfl⟩
noncomputable def fnsv33 : FnI := ⟨39, Tryz.f33.body.getD .skip, [.cell 4 32], []⟩
theorem fnsv33_ok : FnOk Tryz.prog 33 fnsv33 := ⟨_, Tryz.func33, by kernel_rfl, by kernel_rfl, by kernel_rfl, by kernel_rfl, by kernel_rfl, by kernel_rfl⟩
noncomputable def fnsv59 : FnI := ⟨28, Tryz.f59.body.getD .skip, [.tmp 2], []⟩
theorem fnsv59_ok : FnOk Tryz.prog 59 fnsv59 := ⟨_, Tryz.func59, by kernel_rfl, by kernel_rfl, by kernel_rfl, by kernel_rfl, by kernel_rfl, by kernel_rfl⟩
noncomputable def fnsv93 : FnI := ⟨10, Tryz.f93.body.getD .skip, [], []⟩
theorem fnsv93_ok : FnOk Tryz.prog 93 fnsv93 := ⟨_, Tryz.func93, by kernel_rfl, by kernel_rfl, by kernel_rfl, by kernel_rfl, by kernel_rfl, by kernel_rfl⟩
noncomputable def fnsv54 : FnI := ⟨25, Tryz.f54.body.getD .skip, [.tmp 2], []⟩
theorem fnsv54_ok : FnOk Tryz.prog 54 fnsv54 := ⟨_, Tryz.func54, by kernel_rfl, by kernel_rfl, by kernel_rfl, by kernel_rfl, by kernel_rfl, by kernel_rfl⟩
noncomputable def fnsv53 : FnI := ⟨28, Tryz.f53.body.getD .skip, [.tmp 4], []⟩
theorem fnsv53_ok : FnOk Tryz.prog 53 fnsv53 := ⟨_, Tryz.func53, by kernel_rfl, by kernel_rfl, by kernel_rfl, by kernel_rfl, by kernel_rfl, by kernel_rfl⟩
noncomputable def fnsv91 : FnI := ⟨18, Tryz.f91.body.getD .skip, [.tmp 4], []⟩
theorem fnsv91_ok : FnOk Tryz.prog 91 fnsv91 := ⟨_, Tryz.func91, by kernel_rfl, by kernel_rfl, by kernel_rfl, by kernel_rfl, by kernel_rfl, by kernel_rfl⟩
noncomputable def fnsv94 : FnI := ⟨29, Tryz.f94.body.getD .skip, [.tmp 4], []⟩
theorem fnsv94_ok : FnOk Tryz.prog 94 fnsv94 := ⟨_, Tryz.func94, by kernel_rfl, by kernel_rfl, by kernel_rfl, by kernel_rfl, by kernel_rfl, by kernel_rfl⟩
noncomputable def fnsv90 : FnI := ⟨19, Tryz.f90.body.getD .skip, [.tmp 4], []⟩
theorem fnsv90_ok : FnOk Tryz.prog 90 fnsv90 := ⟨_, Tryz.func90, by kernel_rfl, by kernel_rfl, by kernel_rfl, by kernel_rfl, by kernel_rfl, by kernel_rfl⟩
noncomputable def fnsv58 : FnI := ⟨51, Tryz.f58.body.getD .skip, [.tmp 2], []⟩
theorem fnsv58_ok : FnOk Tryz.prog 58 fnsv58 := ⟨_, Tryz.func58, by kernel_rfl, by kernel_rfl, by kernel_rfl, by kernel_rfl, by kernel_rfl, by kernel_rfl⟩
noncomputable def fnsv95 : FnI := ⟨23, Tryz.f95.body.getD .skip, [.cell 4 98], []⟩
theorem fnsv95_ok : FnOk Tryz.prog 95 fnsv95 := ⟨_, Tryz.func95, by kernel_rfl, by kernel_rfl, by kernel_rfl, by kernel_rfl, by kernel_rfl, by kernel_rfl⟩
noncomputable def fnsv56 : FnI := ⟨10, Tryz.f56.body.getD .skip, [], []⟩
theorem fnsv56_ok : FnOk Tryz.prog 56 fnsv56 := ⟨_, Tryz.func56, by kernel_rfl, by kernel_rfl, by kernel_rfl, by kernel_rfl, by kernel_rfl, by kernel_rfl⟩
noncomputable def fnsv126 : FnI := ⟨25, Tryz.f126.body.getD .skip, [.tmp 6], []⟩
theorem fnsv126_ok : FnOk Tryz.prog 126 fnsv126 := ⟨_, Tryz.func126, by kernel_rfl, by kernel_rfl, by kernel_rfl, by kernel_rfl, by kernel_rfl, by kernel_rfl⟩
noncomputable def fnsv155 : FnI := ⟨52, Tryz.f155.body.getD .skip, [.tmp 4, .tmp 5], [(10, [(0, true), (1, true), (2, true), (3, true), (4, false), (5, false)])]⟩
theorem fnsv155_ok : FnOk Tryz.prog 155 fnsv155 := ⟨_, Tryz.func155, by kernel_rfl, by kernel_rfl, by kernel_rfl, by kernel_rfl, by kernel_rfl, by kernel_rfl⟩
noncomputable def fnsv174 : FnI := ⟨56, Tryz.f174.body.getD .skip, [.cell 2 37], []⟩
theorem fnsv174_ok : FnOk Tryz.prog 174 fnsv174 := ⟨_, Tryz.func174, by kernel_rfl, by kernel_rfl, by kernel_rfl, by kernel_rfl, by kernel_rfl, by kernel_rfl⟩
noncomputable def fnsv173 : FnI := ⟨17, Tryz.f173.body.getD .skip, [.cell 2 35], []⟩
theorem fnsv173_ok : FnOk Tryz.prog 173 fnsv173 := ⟨_, Tryz.func173, by kernel_rfl, by kernel_rfl, by kernel_rfl, by kernel_rfl, by kernel_rfl, by kernel_rfl⟩
noncomputable def fnsv175 : FnI := ⟨36, Tryz.f175.body.getD .skip, [.tmp 4, .cell 5 41], [(9, [(0, true), (1, true), (2, false), (3, false)])]⟩
theorem fnsv175_ok : FnOk Tryz.prog 175 fnsv175 := ⟨_, Tryz.func175, by kernel_rfl, by kernel_rfl, by kernel_rfl, by kernel_rfl, by kernel_rfl, by kernel_rfl⟩
noncomputable def fnsv182 : FnI := ⟨15, Tryz.f182.body.getD .skip, [.tmp 2], []⟩
theorem fnsv182_ok : FnOk Tryz.prog 182 fnsv182 := ⟨_, Tryz.func182, by kernel_rfl, by kernel_rfl, by kernel_rfl, by kernel_rfl, by kernel_rfl, by kernel_rfl⟩
noncomputable def fnsv55 : FnI := ⟨23, Tryz.f55.body.getD .skip, [.tmp 2], []⟩
theorem fnsv55_ok : FnOk Tryz.prog 55 fnsv55 := ⟨_, Tryz.func55, by kernel_rfl, by kernel_rfl, by kernel_rfl, by kernel_rfl, by kernel_rfl, by kernel_rfl⟩
noncomputable def fnsv92 : FnI := ⟨24, Tryz.f92.body.getD .skip, [.tmp 2], []⟩
theorem fnsv92_ok : FnOk Tryz.prog 92 fnsv92 := ⟨_, Tryz.func92, by kernel_rfl, by kernel_rfl, by kernel_rfl, by kernel_rfl, by kernel_rfl, by kernel_rfl⟩
noncomputable def fnsv125 : FnI := ⟨20, Tryz.f125.body.getD .skip, [.tmp 2], []⟩
theorem fnsv125_ok : FnOk Tryz.prog 125 fnsv125 := ⟨_, Tryz.func125, by kernel_rfl, by kernel_rfl, by kernel_rfl, by kernel_rfl, by kernel_rfl, by kernel_rfl⟩
noncomputable def fnsv154 : FnI := ⟨32, Tryz.f154.body.getD .skip, [.cell 2 39], []⟩
theorem fnsv154_ok : FnOk Tryz.prog 154 fnsv154 := ⟨_, Tryz.func154, by kernel_rfl, by kernel_rfl, by kernel_rfl, by kernel_rfl, by kernel_rfl, by kernel_rfl⟩
noncomputable def fnsv57 : FnI := ⟨33, Tryz.f57.body.getD .skip, [.tmp 4], []⟩
theorem fnsv57_ok : FnOk Tryz.prog 57 fnsv57 := ⟨_, Tryz.func57, by kernel_rfl, by kernel_rfl, by kernel_rfl, by kernel_rfl, by kernel_rfl, by kernel_rfl⟩
noncomputable def fnsv32 : FnI := ⟨52, Tryz.f32.body.getD .skip, [.tmp 2, .tmp 3, .tmp 4], []⟩
theorem fnsv32_ok : FnOk Tryz.prog 32 fnsv32 := ⟨_, Tryz.func32, by kernel_rfl, by kernel_rfl, by kernel_rfl, by kernel_rfl, by kernel_rfl, by kernel_rfl⟩
noncomputable def fnsv52 : FnI := ⟨106, Tryz.f52.body.getD .skip, [.cell 2 108, .tmp 3], [(30, [(0, true), (1, true), (2, false), (3, false), (4, false), (5, false), (6, false)])]⟩
theorem fnsv52_ok : FnOk Tryz.prog 52 fnsv52 := ⟨_, Tryz.func52, by kernel_rfl, by kernel_rfl, by kernel_rfl, by kernel_rfl, by kernel_rfl, by kernel_rfl⟩
noncomputable def fnsv88 : FnI := ⟨50, Tryz.f88.body.getD .skip, [.tmp 2, .tmp 3], []⟩
theorem fnsv88_ok : FnOk Tryz.prog 88 fnsv88 := ⟨_, Tryz.func88, by kernel_rfl, by kernel_rfl, by kernel_rfl, by kernel_rfl, by kernel_rfl, by kernel_rfl⟩
noncomputable def fnsv123 : FnI := ⟨38, Tryz.f123.body.getD .skip, [.tmp 2, .tmp 3], [(3, [(0, true), (1, true), (4, true), (5, true), (2, false), (3, true), (6, false), (7, false), (8, false), (9, false)])]⟩
theorem fnsv123_ok : FnOk Tryz.prog 123 fnsv123 := ⟨_, Tryz.func123, by kernel_rfl, by kernel_rfl, by kernel_rfl, by kernel_rfl, by kernel_rfl, by kernel_rfl⟩
noncomputable def fnsv122 : FnI := ⟨17, Tryz.f122.body.getD .skip, [.tmp 2], []⟩
theorem fnsv122_ok : FnOk Tryz.prog 122 fnsv122 := ⟨_, Tryz.func122, by kernel_rfl, by kernel_rfl, by kernel_rfl, by kernel_rfl, by kernel_rfl, by kernel_rfl⟩
noncomputable def fnsv152 : FnI := ⟨20, Tryz.f152.body.getD .skip, [.tmp 2], []⟩
theorem fnsv152_ok : FnOk Tryz.prog 152 fnsv152 := ⟨_, Tryz.func152, by kernel_rfl, by kernel_rfl, by kernel_rfl, by kernel_rfl, by kernel_rfl, by kernel_rfl⟩
noncomputable def fnsv86 : FnI := ⟨9, Tryz.f86.body.getD .skip, [.tmp 2], []⟩
theorem fnsv86_ok : FnOk Tryz.prog 86 fnsv86 := ⟨_, Tryz.func86, by kernel_rfl, by kernel_rfl, by kernel_rfl, by kernel_rfl, by kernel_rfl, by kernel_rfl⟩
noncomputable def fnsv87 : FnI := ⟨35, Tryz.f87.body.getD .skip, [.tmp 4, .tmp 5], []⟩
theorem fnsv87_ok : FnOk Tryz.prog 87 fnsv87 := ⟨_, Tryz.func87, by kernel_rfl, by kernel_rfl, by kernel_rfl, by kernel_rfl, by kernel_rfl, by kernel_rfl⟩
noncomputable def fnsv119 : FnI := ⟨20, Tryz.f119.body.getD .skip, [.tmp 4], []⟩
theorem fnsv119_ok : FnOk Tryz.prog 119 fnsv119 := ⟨_, Tryz.func119, by kernel_rfl, by kernel_rfl, by kernel_rfl, by kernel_rfl, by kernel_rfl, by kernel_rfl⟩
noncomputable def fnsv85 : FnI := ⟨12, Tryz.f85.body.getD .skip, [.tmp 2], []⟩
theorem fnsv85_ok : FnOk Tryz.prog 85 fnsv85 := ⟨_, Tryz.func85, by kernel_rfl, by kernel_rfl, by kernel_rfl, by kernel_rfl, by kernel_rfl, by kernel_rfl⟩
noncomputable def fnsv120 : FnI := ⟨17, Tryz.f120.body.getD .skip, [.tmp 2], []⟩
theorem fnsv120_ok : FnOk Tryz.prog 120 fnsv120 := ⟨_, Tryz.func120, by kernel_rfl, by kernel_rfl, by kernel_rfl, by kernel_rfl, by kernel_rfl, by kernel_rfl⟩
noncomputable def FnsVF : List (FuncId × FnI) := [(3, fnsv3),
  (8, fnsv8),
  (21, fnsv21),
  (6, fnsv6),
  (19, fnsv19),
  (31, fnsv31),
  (51, fnsv51),
  (50, fnsv50),
  (82, fnsv82),
  (83, fnsv83),
  (84, fnsv84),
  (30, fnsv30),
  (18, fnsv18),
  (29, fnsv29),
  (49, fnsv49),
  (80, fnsv80),
  (116, fnsv116),
  (81, fnsv81),
  (118, fnsv118),
  (149, fnsv149),
  (167, fnsv167),
  (144, fnsv144),
  (148, fnsv148),
  (79, fnsv79),
  (117, fnsv117),
  (147, fnsv147),
  (166, fnsv166),
  (146, fnsv146),
  (78, fnsv78),
  (48, fnsv48),
  (7, fnsv7),
  (20, fnsv20),
  (36, fnsv36),
  (35, fnsv35),
  (34, fnsv34),
  (33, fnsv33),
  (59, fnsv59),
  (93, fnsv93),
  (54, fnsv54),
  (53, fnsv53),
  (91, fnsv91),
  (94, fnsv94),
  (90, fnsv90),
  (58, fnsv58),
  (95, fnsv95),
  (56, fnsv56),
  (126, fnsv126),
  (155, fnsv155),
  (174, fnsv174),
  (173, fnsv173),
  (175, fnsv175),
  (182, fnsv182),
  (55, fnsv55),
  (92, fnsv92),
  (125, fnsv125),
  (154, fnsv154),
  (57, fnsv57),
  (32, fnsv32),
  (52, fnsv52),
  (88, fnsv88),
  (123, fnsv123),
  (122, fnsv122),
  (152, fnsv152),
  (86, fnsv86),
  (87, fnsv87),
  (119, fnsv119),
  (85, fnsv85),
  (120, fnsv120)]
theorem FnsVF_ok (C : FuncId → List PV → Option SV) : FOk Tryz.prog ⟨TTab, FnsVF, C⟩ := fok_cons fnsv3_ok <| 
  fok_cons fnsv8_ok <| 
  fok_cons fnsv21_ok <| 
  fok_cons fnsv6_ok <| 
  fok_cons fnsv19_ok <| 
  fok_cons fnsv31_ok <| 
  fok_cons fnsv51_ok <| 
  fok_cons fnsv50_ok <| 
  fok_cons fnsv82_ok <| 
  fok_cons fnsv83_ok <| 
  fok_cons fnsv84_ok <| 
  fok_cons fnsv30_ok <| 
  fok_cons fnsv18_ok <| 
  fok_cons fnsv29_ok <| 
  fok_cons fnsv49_ok <| 
  fok_cons fnsv80_ok <| 
  fok_cons fnsv116_ok <| 
  fok_cons fnsv81_ok <| 
  fok_cons fnsv118_ok <| 
  fok_cons fnsv149_ok <| 
  fok_cons fnsv167_ok <| 
  fok_cons fnsv144_ok <| 
  fok_cons fnsv148_ok <| 
  fok_cons fnsv79_ok <| 
  fok_cons fnsv117_ok <| 
  fok_cons fnsv147_ok <| 
  fok_cons fnsv166_ok <| 
  fok_cons fnsv146_ok <| 
  fok_cons fnsv78_ok <| 
  fok_cons fnsv48_ok <| 
  fok_cons fnsv7_ok <| 
  fok_cons fnsv20_ok <| 
  fok_cons fnsv36_ok <| 
  fok_cons fnsv35_ok <| 
  fok_cons fnsv34_ok <| 
  fok_cons fnsv33_ok <| 
  fok_cons fnsv59_ok <| 
  fok_cons fnsv93_ok <| 
  fok_cons fnsv54_ok <| 
  fok_cons fnsv53_ok <| 
  fok_cons fnsv91_ok <| 
  fok_cons fnsv94_ok <| 
  fok_cons fnsv90_ok <| 
  fok_cons fnsv58_ok <| 
  fok_cons fnsv95_ok <| 
  fok_cons fnsv56_ok <| 
  fok_cons fnsv126_ok <| 
  fok_cons fnsv155_ok <| 
  fok_cons fnsv174_ok <| 
  fok_cons fnsv173_ok <| 
  fok_cons fnsv175_ok <| 
  fok_cons fnsv182_ok <| 
  fok_cons fnsv55_ok <| 
  fok_cons fnsv92_ok <| 
  fok_cons fnsv125_ok <| 
  fok_cons fnsv154_ok <| 
  fok_cons fnsv57_ok <| 
  fok_cons fnsv32_ok <| 
  fok_cons fnsv52_ok <| 
  fok_cons fnsv88_ok <| 
  fok_cons fnsv123_ok <| 
  fok_cons fnsv122_ok <| 
  fok_cons fnsv152_ok <| 
  fok_cons fnsv86_ok <| 
  fok_cons fnsv87_ok <| 
  fok_cons fnsv119_ok <| 
  fok_cons fnsv85_ok <| 
  fok_cons fnsv120_ok <| fok_nil
end Go.Proofs.YtiiagdnmbpdlaaaGreatDoor
