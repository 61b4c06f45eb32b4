/-
  The evaluator's table of functions (printed by a program of ours).
-/
import Derived.Test.YtiiagdnmbpdlaaaGreatDoorTypes
import Derived.Test.YtiiagdnmbpdlaaaGreatDoorEvalOk
namespace Go.Proofs.YtiiagdnmbpdlaaaGreatDoor
open Go.RowKit
noncomputable def fnsev12 : FnI := ⟨17, Tryz.f12.body.getD .skip, [.tmp 4], []⟩
theorem fnsev12_ok : FnOk Tryz.prog 12 fnsev12 := ⟨_, Tryz.func12, by kernel_rfl, by kernel_rfl, by kernel_rfl, by kernel_rfl, by kernel_rfl, by kernel_rfl⟩
noncomputable def fnsev23 : FnI := ⟨26, Tryz.f23.body.getD .skip, [.tmp 4], [(6, [(0, true), (1, true), (2, true), (3, true), (4, true), (5, false), (6, false), (7, false), (8, false)])]⟩
theorem fnsev23_ok : FnOk Tryz.prog 23 fnsev23 := ⟨_, Tryz.func23, by kernel_rfl, by kernel_rfl, by kernel_rfl, by kernel_rfl, by kernel_rfl, by kernel_rfl⟩
noncomputable def fnsev11 : FnI := ⟨6, Tryz.f11.body.getD .skip, [.tmp 2], []⟩
theorem fnsev11_ok : FnOk Tryz.prog 11 fnsev11 := ⟨_, Tryz.func11, by kernel_rfl, by kernel_rfl, by kernel_rfl, by kernel_rfl, by kernel_rfl, by kernel_rfl⟩
noncomputable def fnsev10 : FnI := ⟨13, Tryz.f10.body.getD .skip, [.cell 4 50, .tmp 5], []⟩
theorem fnsev10_ok : FnOk Tryz.prog 10 fnsev10 := ⟨_, Tryz.func10, by kernel_rfl, by kernel_rfl, by kernel_rfl, by kernel_rfl, by kernel_rfl, by kernel_rfl⟩
noncomputable def fnsev22 : FnI := ⟨50, Tryz.f22.body.getD .skip, [.cell 4 50], []⟩
theorem fnsev22_ok : FnOk Tryz.prog 22 fnsev22 := ⟨_, Tryz.func22, by kernel_rfl, by kernel_rfl, by kernel_rfl, by kernel_rfl, by kernel_rfl, by kernel_rfl⟩
noncomputable def fnsev39 : FnI := ⟨84, Tryz.f39.body.getD .skip, [.cell 6 50], [(22, [(0, true), (1, true), (2, true), (3, true), (4, false), (5, false), (6, false), (7, false), (8, false)])]⟩
theorem fnsev39_ok : FnOk Tryz.prog 39 fnsev39 := ⟨_, Tryz.func39, by kernel_rfl, by kernel_rfl, by kernel_rfl, by kernel_rfl, by kernel_rfl, by kernel_rfl⟩
noncomputable def fnsev64 : FnI := ⟨36, Tryz.f64.body.getD .skip, [.tmp 4], []⟩
theorem fnsev64_ok : FnOk Tryz.prog 64 fnsev64 := ⟨_, Tryz.func64, by kernel_rfl, by kernel_rfl, by kernel_rfl, by kernel_rfl, by kernel_rfl, by kernel_rfl⟩
noncomputable def fnsev63 : FnI := ⟨9, Tryz.f63.body.getD .skip, [.tmp 2], []⟩
theorem fnsev63_ok : FnOk Tryz.prog 63 fnsev63 := ⟨_, Tryz.func63, by kernel_rfl, by kernel_rfl, by kernel_rfl, by kernel_rfl, by kernel_rfl, by kernel_rfl⟩
noncomputable def fnsev62 : FnI := ⟨49, Tryz.f62.body.getD .skip, [.tmp 4, .tmp 5], []⟩
theorem fnsev62_ok : FnOk Tryz.prog 62 fnsev62 := ⟨_, Tryz.func62, by kernel_rfl, by kernel_rfl, by kernel_rfl, by kernel_rfl, by kernel_rfl, by kernel_rfl⟩
noncomputable def fnsev102 : FnI := ⟨12, Tryz.f102.body.getD .skip, [.tmp 6], []⟩
theorem fnsev102_ok : FnOk Tryz.prog 102 fnsev102 := ⟨_, Tryz.func102, by kernel_rfl, by kernel_rfl, by kernel_rfl, by kernel_rfl, by kernel_rfl, by kernel_rfl⟩
noncomputable def fnsev134 : FnI := ⟨9, Tryz.f134.body.getD .skip, [.tmp 4], []⟩
theorem fnsev134_ok : FnOk Tryz.prog 134 fnsev134 := ⟨_, Tryz.func134, by kernel_rfl, by kernel_rfl, by kernel_rfl, by kernel_rfl, by kernel_rfl, by kernel_rfl⟩
noncomputable def fnsev156 : FnI := ⟨19, Tryz.f156.body.getD .skip, [.tmp 4], []⟩
theorem fnsev156_ok : FnOk Tryz.prog 156 fnsev156 := ⟨_, Tryz.func156, by kernel_rfl, by kernel_rfl, by kernel_rfl, by kernel_rfl, by kernel_rfl, by kernel_rfl⟩
noncomputable def fnsev101 : FnI := ⟨20, Tryz.f101.body.getD .skip, [.tmp 2], []⟩
theorem fnsev101_ok : FnOk Tryz.prog 101 fnsev101 := ⟨_, Tryz.func101, by kernel_rfl, by kernel_rfl, by kernel_rfl, by kernel_rfl, by kernel_rfl, by kernel_rfl⟩
noncomputable def fnsev133 : FnI := ⟨31, Tryz.f133.body.getD .skip, [.tmp 6], []⟩
theorem fnsev133_ok : FnOk Tryz.prog 133 fnsev133 := ⟨_, Tryz.func133, by kernel_rfl, by kernel_rfl, by kernel_rfl, by kernel_rfl, by kernel_rfl, by kernel_rfl⟩
noncomputable def fnsev97 : FnI := ⟨26, Tryz.f97.body.getD .skip, [.tmp 4], []⟩
theorem fnsev97_ok : FnOk Tryz.prog 97 fnsev97 := ⟨_, Tryz.func97, by kernel_rfl, by kernel_rfl, by kernel_rfl, by kernel_rfl, by kernel_rfl, by kernel_rfl⟩
noncomputable def fnsev129 : FnI := ⟨8, Tryz.f129.body.getD .skip, [.tmp 4], []⟩
theorem fnsev129_ok : FnOk Tryz.prog 129 fnsev129 := ⟨_, Tryz.func129, by kernel_rfl, by kernel_rfl, by kernel_rfl, by kernel_rfl, by kernel_rfl, by kernel_rfl⟩
noncomputable def fnsev128 : FnI := ⟨10, Tryz.f128.body.getD .skip, [.tmp 2, .tmp 3], []⟩
theorem fnsev128_ok : FnOk Tryz.prog 128 fnsev128 := ⟨_, Tryz.func128, by kernel_rfl, by kernel_rfl, by kernel_rfl, by kernel_rfl, by kernel_rfl, by kernel_rfl⟩
noncomputable def fnsev132 : FnI := ⟨13, Tryz.f132.body.getD .skip, [.tmp 2], []⟩
theorem fnsev132_ok : FnOk Tryz.prog 132 fnsev132 := ⟨_, Tryz.func132, by kernel_rfl, by kernel_rfl, by kernel_rfl, by kernel_rfl, by kernel_rfl, by kernel_rfl⟩
noncomputable def fnsev100 : FnI := ⟨12, Tryz.f100.body.getD .skip, [.tmp 2], []⟩
theorem fnsev100_ok : FnOk Tryz.prog 100 fnsev100 := ⟨_, Tryz.func100, by kernel_rfl, by kernel_rfl, by kernel_rfl, by kernel_rfl, by kernel_rfl, by kernel_rfl⟩
noncomputable def fnsev131 : FnI := ⟨5, Tryz.f131.body.getD .skip, [.tmp 2], []⟩
theorem fnsev131_ok : FnOk Tryz.prog 131 fnsev131 := ⟨_, Tryz.func131, by kernel_rfl, by kernel_rfl, by kernel_rfl, by kernel_rfl, by kernel_rfl, by kernel_rfl⟩
noncomputable def fnsev130 : FnI := ⟨19, Tryz.f130.body.getD .skip, [.tmp 4], []⟩
theorem fnsev130_ok : FnOk Tryz.prog 130 fnsev130 := ⟨_, Tryz.func130, by kernel_rfl, by kernel_rfl, by kernel_rfl, by kernel_rfl, by kernel_rfl, by kernel_rfl⟩
noncomputable def fnsev99 : FnI := ⟨13, Tryz.f99.body.getD .skip, [.tmp 2], []⟩
theorem fnsev99_ok : FnOk Tryz.prog 99 fnsev99 := ⟨_, Tryz.func99, by kernel_rfl, by kernel_rfl, by kernel_rfl, by kernel_rfl, by kernel_rfl, by kernel_rfl⟩
noncomputable def fnsev98 : FnI := ⟨29, Tryz.f98.body.getD .skip, [.tmp 2], []⟩
theorem fnsev98_ok : FnOk Tryz.prog 98 fnsev98 := ⟨_, Tryz.func98, by kernel_rfl, by kernel_rfl, by kernel_rfl, by kernel_rfl, by kernel_rfl, by kernel_rfl⟩
noncomputable def fnsev96 : FnI := ⟨6, Tryz.f96.body.getD .skip, [.tmp 2], []⟩
theorem fnsev96_ok : FnOk Tryz.prog 96 fnsev96 := ⟨_, Tryz.func96, by kernel_rfl, by kernel_rfl, by kernel_rfl, by kernel_rfl, by kernel_rfl, by kernel_rfl⟩
noncomputable def fnsev127 : FnI := ⟨16, Tryz.f127.body.getD .skip, [.tmp 2], []⟩
theorem fnsev127_ok : FnOk Tryz.prog 127 fnsev127 := ⟨_, Tryz.func127, by kernel_rfl, by kernel_rfl, by kernel_rfl, by kernel_rfl, by kernel_rfl, by kernel_rfl⟩
noncomputable def fnsev38 : FnI := ⟨15, Tryz.f38.body.getD .skip, [.cell 4 50], [(1, [(0, true), (1, true), (2, true), (3, true), (5, true), (6, true), (7, true), (4, false), (8, false), (9, false), (10, false)])]⟩
theorem fnsev38_ok : FnOk Tryz.prog 38 fnsev38 := ⟨_, Tryz.func38, by kernel_rfl, by kernel_rfl, by kernel_rfl, by kernel_rfl, by kernel_rfl, by kernel_rfl⟩
noncomputable def fnsev61 : FnI := ⟨38, Tryz.f61.body.getD .skip, [.cell 6 50], []⟩
theorem fnsev61_ok : FnOk Tryz.prog 61 fnsev61 := ⟨_, Tryz.func61, by kernel_rfl, by kernel_rfl, by kernel_rfl, by kernel_rfl, by kernel_rfl, by kernel_rfl⟩
noncomputable def fnsev46 : FnI := ⟨26, Tryz.f46.body.getD .skip, [.tmp 4], []⟩
theorem fnsev46_ok : FnOk Tryz.prog 46 fnsev46 := ⟨_, Tryz.func46, by kernel_rfl, by kernel_rfl, by kernel_rfl, by kernel_rfl, by kernel_rfl, by kernel_rfl⟩
noncomputable def fnsev75 : FnI := ⟨15, Tryz.f75.body.getD .skip, [.tmp 4], []⟩
theorem fnsev75_ok : FnOk Tryz.prog 75 fnsev75 := ⟨_, Tryz.func75, by kernel_rfl, by kernel_rfl, by kernel_rfl, by kernel_rfl, by kernel_rfl, by kernel_rfl⟩
noncomputable def fnsev74 : FnI := ⟨51, Tryz.f74.body.getD .skip, [.cell 4 37, .tmp 5], [(8, [(0, true), (1, true), (2, true), (3, true), (4, true), (5, true), (6, true), (7, false), (8, false), (9, false), (10, false), (11, false)]), (10, [(0, true), (1, true), (2, true), (3, true), (4, true), (5, true), (6, true), (7, true), (8, false), (9, false)])]⟩
theorem fnsev74_ok : FnOk Tryz.prog 74 fnsev74 := ⟨_, Tryz.func74, by kernel_rfl, by kernel_rfl, by kernel_rfl, by kernel_rfl, by kernel_rfl, by kernel_rfl⟩
noncomputable def fnsev112 : FnI := ⟨122, Tryz.f112.body.getD .skip, [.cell 6 165], [(28, [(0, true), (1, true), (2, true), (3, true), (4, false), (5, false), (6, false), (7, false), (8, false), (9, false), (10, false)])]⟩
theorem fnsev112_ok : FnOk Tryz.prog 112 fnsev112 := ⟨_, Tryz.func112, by kernel_rfl, by kernel_rfl, by kernel_rfl, by kernel_rfl, by kernel_rfl, by kernel_rfl⟩
noncomputable def fnsev141 : FnI := ⟨111, Tryz.f141.body.getD .skip, [.cell 4 37, .tmp 5], [(5, [(0, true), (1, true), (2, true), (3, true), (4, false), (5, false), (6, false), (7, false), (8, false)]), (7, [(0, true), (1, true), (2, true), (3, false), (4, false), (5, false), (6, false), (7, false), (8, false), (9, false)]), (9, [(0, true), (1, true), (2, true), (3, false), (4, false), (5, false), (6, false), (7, false), (8, true), (9, true), (10, false), (11, false)])]⟩
theorem fnsev141_ok : FnOk Tryz.prog 141 fnsev141 := ⟨_, Tryz.func141, by kernel_rfl, by kernel_rfl, by kernel_rfl, by kernel_rfl, by kernel_rfl, by kernel_rfl⟩
noncomputable def fnsev165 : FnI := ⟨18, Tryz.f165.body.getD .skip, [.tmp 4], []⟩
theorem fnsev165_ok : FnOk Tryz.prog 165 fnsev165 := ⟨_, Tryz.func165, by kernel_rfl, by kernel_rfl, by kernel_rfl, by kernel_rfl, by kernel_rfl, by kernel_rfl⟩
noncomputable def fnsev164 : FnI := ⟨36, Tryz.f164.body.getD .skip, [.tmp 4, .tmp 5], []⟩
theorem fnsev164_ok : FnOk Tryz.prog 164 fnsev164 := ⟨_, Tryz.func164, by kernel_rfl, by kernel_rfl, by kernel_rfl, by kernel_rfl, by kernel_rfl, by kernel_rfl⟩
noncomputable def fnsev163 : FnI := ⟨27, Tryz.f163.body.getD .skip, [.tmp 4, .tmp 5], []⟩
theorem fnsev163_ok : FnOk Tryz.prog 163 fnsev163 := ⟨_, Tryz.func163, by kernel_rfl, by kernel_rfl, by kernel_rfl, by kernel_rfl, by kernel_rfl, by kernel_rfl⟩
noncomputable def fnsev162 : FnI := ⟨27, Tryz.f162.body.getD .skip, [.tmp 4, .tmp 5], []⟩
theorem fnsev162_ok : FnOk Tryz.prog 162 fnsev162 := ⟨_, Tryz.func162, by kernel_rfl, by kernel_rfl, by kernel_rfl, by kernel_rfl, by kernel_rfl, by kernel_rfl⟩
noncomputable def fnsev161 : FnI := ⟨31, Tryz.f161.body.getD .skip, [.cell 4 37, .tmp 5], [(3, [(0, true), (1, true), (2, true), (3, true), (4, true), (5, false), (6, false), (7, false), (8, false), (9, false), (10, false), (11, true), (12, true), (13, false), (14, false)])]⟩
theorem fnsev161_ok : FnOk Tryz.prog 161 fnsev161 := ⟨_, Tryz.func161, by kernel_rfl, by kernel_rfl, by kernel_rfl, by kernel_rfl, by kernel_rfl, by kernel_rfl⟩
noncomputable def fnsev115 : FnI := ⟨40, Tryz.f115.body.getD .skip, [.tmp 4, .tmp 5], []⟩
theorem fnsev115_ok : FnOk Tryz.prog 115 fnsev115 := ⟨_, Tryz.func115, by kernel_rfl, by kernel_rfl, by kernel_rfl, by kernel_rfl, by kernel_rfl, by kernel_rfl⟩
noncomputable def fnsev145 : FnI := ⟨9, Tryz.f145.body.getD .skip, [.tmp 2], []⟩
theorem fnsev145_ok : FnOk Tryz.prog 145 fnsev145 := ⟨_, Tryz.func145, by kernel_rfl, by kernel_rfl, by kernel_rfl, by kernel_rfl, by kernel_rfl, by kernel_rfl⟩
noncomputable def fnsev144 : FnI := ⟨61, Tryz.f144.body.getD .skip, [.tmp 2], []⟩
theorem fnsev144_ok : FnOk Tryz.prog 144 fnsev144 := ⟨_, Tryz.func144, by kernel_rfl, by kernel_rfl, by kernel_rfl, by kernel_rfl, by kernel_rfl, by kernel_rfl⟩
noncomputable def fnsev116 : FnI := ⟨49, Tryz.f116.body.getD .skip, [.tmp 2], []⟩
theorem fnsev116_ok : FnOk Tryz.prog 116 fnsev116 := ⟨_, Tryz.func116, by kernel_rfl, by kernel_rfl, by kernel_rfl, by kernel_rfl, by kernel_rfl, by kernel_rfl⟩
noncomputable def fnsev160 : FnI := ⟨8, Tryz.f160.body.getD .skip, [.cell 2 37], []⟩
theorem fnsev160_ok : FnOk Tryz.prog 160 fnsev160 := ⟨_, Tryz.func160, by kernel_rfl, by kernel_rfl, by kernel_rfl, by kernel_rfl, by kernel_rfl, by kernel_rfl⟩
noncomputable def fnsev159 : FnI := ⟨32, Tryz.f159.body.getD .skip, [.tmp 4], []⟩
theorem fnsev159_ok : FnOk Tryz.prog 159 fnsev159 := ⟨_, Tryz.func159, by kernel_rfl, by kernel_rfl, by kernel_rfl, by kernel_rfl, by kernel_rfl, by kernel_rfl⟩
noncomputable def fnsev140 : FnI := ⟨8, Tryz.f140.body.getD .skip, [.tmp 4], []⟩
theorem fnsev140_ok : FnOk Tryz.prog 140 fnsev140 := ⟨_, Tryz.func140, by kernel_rfl, by kernel_rfl, by kernel_rfl, by kernel_rfl, by kernel_rfl, by kernel_rfl⟩
noncomputable def fnsev158 : FnI := ⟨9, Tryz.f158.body.getD .skip, [.tmp 4], []⟩
theorem fnsev158_ok : FnOk Tryz.prog 158 fnsev158 := ⟨_, Tryz.func158, by kernel_rfl, by kernel_rfl, by kernel_rfl, by kernel_rfl, by kernel_rfl, by kernel_rfl⟩
noncomputable def fnsev177 : FnI := ⟨19, Tryz.f177.body.getD .skip, [.tmp 4], [(4, [(0, true), (1, true), (2, false), (3, false), (4, false), (5, false)])]⟩
theorem fnsev177_ok : FnOk Tryz.prog 177 fnsev177 := ⟨_, Tryz.func177, by kernel_rfl, by kernel_rfl, by kernel_rfl, by kernel_rfl, by kernel_rfl, by kernel_rfl⟩
noncomputable def fnsev139 : FnI := ⟨10, Tryz.f139.body.getD .skip, [.cell 2 165], []⟩
theorem fnsev139_ok : FnOk Tryz.prog 139 fnsev139 := ⟨_, Tryz.func139, by kernel_rfl, by kernel_rfl, by kernel_rfl, by kernel_rfl, by kernel_rfl, by kernel_rfl⟩
noncomputable def fnsev76 : FnI := ⟨30, Tryz.f76.body.getD .skip, [.tmp 4, .tmp 5], []⟩
theorem fnsev76_ok : FnOk Tryz.prog 76 fnsev76 := ⟨_, Tryz.func76, by kernel_rfl, by kernel_rfl, by kernel_rfl, by kernel_rfl, by kernel_rfl, by kernel_rfl⟩
noncomputable def fnsev114 : FnI := ⟨8, Tryz.f114.body.getD .skip, [.tmp 2], []⟩
theorem fnsev114_ok : FnOk Tryz.prog 114 fnsev114 := ⟨_, Tryz.func114, by kernel_rfl, by kernel_rfl, by kernel_rfl, by kernel_rfl, by kernel_rfl, by kernel_rfl⟩
noncomputable def fnsev113 : FnI := ⟨10, Tryz.f113.body.getD .skip, [.tmp 6], []⟩
theorem fnsev113_ok : FnOk Tryz.prog 113 fnsev113 := ⟨_, Tryz.func113, by kernel_rfl, by kernel_rfl, by kernel_rfl, by kernel_rfl, by kernel_rfl, by kernel_rfl⟩
noncomputable def fnsev142 : FnI := ⟨19, Tryz.f142.body.getD .skip, [.tmp 4], []⟩
theorem fnsev142_ok : FnOk Tryz.prog 142 fnsev142 := ⟨_, Tryz.func142, by kernel_rfl, by kernel_rfl, by kernel_rfl, by kernel_rfl, by kernel_rfl, by kernel_rfl⟩
noncomputable def fnsev143 : FnI := ⟨15, Tryz.f143.body.getD .skip, [.tmp 4], []⟩
theorem fnsev143_ok : FnOk Tryz.prog 143 fnsev143 := ⟨_, Tryz.func143, by kernel_rfl, by kernel_rfl, by kernel_rfl, by kernel_rfl, by kernel_rfl, by kernel_rfl⟩
noncomputable def fnsev111 : FnI := ⟨11, Tryz.f111.body.getD .skip, [.tmp 2], []⟩
theorem fnsev111_ok : FnOk Tryz.prog 111 fnsev111 := ⟨_, Tryz.func111, by kernel_rfl, by kernel_rfl, by kernel_rfl, by kernel_rfl, by kernel_rfl, by kernel_rfl⟩
noncomputable def fnsev81 : FnI := ⟨38, Tryz.f81.body.getD .skip, [.tmp 2], []⟩
theorem fnsev81_ok : FnOk Tryz.prog 81 fnsev81 := ⟨_, Tryz.func81, by kernel_rfl, by kernel_rfl, by kernel_rfl, by kernel_rfl, by kernel_rfl, by kernel_rfl⟩
noncomputable def fnsev118 : FnI := ⟨60, Tryz.f118.body.getD .skip, [.tmp 4, .tmp 5], [(11, [(0, true), (1, true), (2, true), (3, false), (4, false), (5, false), (6, false), (7, false), (8, false), (9, false)])]⟩
theorem fnsev118_ok : FnOk Tryz.prog 118 fnsev118 := ⟨_, Tryz.func118, by kernel_rfl, by kernel_rfl, by kernel_rfl, by kernel_rfl, by kernel_rfl, by kernel_rfl⟩
noncomputable def fnsev149 : FnI := ⟨37, Tryz.f149.body.getD .skip, [.tmp 2], []⟩
theorem fnsev149_ok : FnOk Tryz.prog 149 fnsev149 := ⟨_, Tryz.func149, by kernel_rfl, by kernel_rfl, by kernel_rfl, by kernel_rfl, by kernel_rfl, by kernel_rfl⟩
noncomputable def fnsev167 : FnI := ⟨16, Tryz.f167.body.getD .skip, [.tmp 2], []⟩
theorem fnsev167_ok : FnOk Tryz.prog 167 fnsev167 := ⟨_, Tryz.func167, by kernel_rfl, by kernel_rfl, by kernel_rfl, by kernel_rfl, by kernel_rfl, by kernel_rfl⟩
noncomputable def fnsev148 : FnI := ⟨35, Tryz.f148.body.getD .skip, [.tmp 2, .tmp 3], []⟩
theorem fnsev148_ok : FnOk Tryz.prog 148 fnsev148 := ⟨_, Tryz.func148, by kernel_rfl, by kernel_rfl, by kernel_rfl, by kernel_rfl, by kernel_rfl, by kernel_rfl⟩
noncomputable def fnsev37 : FnI := ⟨34, Tryz.f37.body.getD .skip, [.tmp 4], []⟩
theorem fnsev37_ok : FnOk Tryz.prog 37 fnsev37 := ⟨_, Tryz.func37, by kernel_rfl, by kernel_rfl, by kernel_rfl, by kernel_rfl, by kernel_rfl, by kernel_rfl⟩
noncomputable def fnsev60 : FnI := ⟨21, Tryz.f60.body.getD .skip, [.tmp 4], []⟩
theorem fnsev60_ok : FnOk Tryz.prog 60 fnsev60 := ⟨_, Tryz.func60, by kernel_rfl, by kernel_rfl, by kernel_rfl, by kernel_rfl, by kernel_rfl, by kernel_rfl⟩
noncomputable def fnsev47 : FnI := ⟨38, Tryz.f47.body.getD .skip, [.tmp 4], []⟩
theorem fnsev47_ok : FnOk Tryz.prog 47 fnsev47 := ⟨_, Tryz.func47, by kernel_rfl, by kernel_rfl, by kernel_rfl, by kernel_rfl, by kernel_rfl, by kernel_rfl⟩
noncomputable def fnsev77 : FnI := ⟨42, Tryz.f77.body.getD .skip, [.tmp 4, .tmp 5], []⟩
theorem fnsev77_ok : FnOk Tryz.prog 77 fnsev77 := ⟨_, Tryz.func77, by kernel_rfl, by kernel_rfl, by kernel_rfl, by kernel_rfl, by kernel_rfl, by kernel_rfl⟩
noncomputable def fnsev18 : FnI := ⟨10, Tryz.f18.body.getD .skip, [.tmp 2], []⟩
theorem fnsev18_ok : FnOk Tryz.prog 18 fnsev18 := ⟨_, Tryz.func18, by kernel_rfl, by kernel_rfl, by kernel_rfl, by kernel_rfl, by kernel_rfl, by kernel_rfl⟩
noncomputable def fnsev29 : FnI := ⟨52, Tryz.f29.body.getD .skip, [.tmp 6], []⟩
theorem fnsev29_ok : FnOk Tryz.prog 29 fnsev29 := ⟨_, Tryz.func29, by kernel_rfl, by kernel_rfl, by kernel_rfl, by kernel_rfl, by kernel_rfl, by kernel_rfl⟩
noncomputable def fnsev49 : FnI := ⟨39, Tryz.f49.body.getD .skip, [.tmp 4], []⟩
theorem fnsev49_ok : FnOk Tryz.prog 49 fnsev49 := ⟨_, Tryz.func49, by kernel_rfl, by kernel_rfl, by kernel_rfl, by kernel_rfl, by kernel_rfl, by kernel_rfl⟩
noncomputable def fnsev80 : FnI := ⟨39, Tryz.f80.body.getD .skip, [.tmp 2], []⟩
theorem fnsev80_ok : FnOk Tryz.prog 80 fnsev80 := ⟨_, Tryz.func80, by kernel_rfl, by kernel_rfl, by kernel_rfl, by kernel_rfl, by kernel_rfl, by kernel_rfl⟩
noncomputable def fnsev79 : FnI := ⟨21, Tryz.f79.body.getD .skip, [.tmp 2], []⟩
theorem fnsev79_ok : FnOk Tryz.prog 79 fnsev79 := ⟨_, Tryz.func79, by kernel_rfl, by kernel_rfl, by kernel_rfl, by kernel_rfl, by kernel_rfl, by kernel_rfl⟩
noncomputable def fnsev117 : FnI := ⟨25, Tryz.f117.body.getD .skip, [.tmp 2], []⟩
theorem fnsev117_ok : FnOk Tryz.prog 117 fnsev117 := ⟨_, Tryz.func117, by kernel_rfl, by kernel_rfl, by kernel_rfl, by kernel_rfl, by kernel_rfl, by kernel_rfl⟩
noncomputable def fnsev147 : FnI := ⟨22, Tryz.f147.body.getD .skip, [.tmp 2], []⟩
theorem fnsev147_ok : FnOk Tryz.prog 147 fnsev147 := ⟨_, Tryz.func147, by kernel_rfl, by kernel_rfl, by kernel_rfl, by kernel_rfl, by kernel_rfl, by kernel_rfl⟩
noncomputable def fnsev166 : FnI := ⟨21, Tryz.f166.body.getD .skip, [.tmp 2], []⟩
theorem fnsev166_ok : FnOk Tryz.prog 166 fnsev166 := ⟨_, Tryz.func166, by kernel_rfl, by kernel_rfl, by kernel_rfl, by kernel_rfl, by kernel_rfl, by kernel_rfl⟩
noncomputable def fnsev146 : FnI := ⟨9, Tryz.f146.body.getD .skip, [.tmp 2], []⟩
theorem fnsev146_ok : FnOk Tryz.prog 146 fnsev146 := ⟨_, Tryz.func146, by kernel_rfl, by kernel_rfl, by kernel_rfl, by kernel_rfl, by kernel_rfl, by kernel_rfl⟩
noncomputable def fnsev78 : FnI := ⟨28, Tryz.f78.body.getD .skip, [.tmp 4], []⟩
theorem fnsev78_ok : FnOk Tryz.prog 78 fnsev78 := ⟨_, Tryz.func78, by kernel_rfl, by kernel_rfl, by kernel_rfl, by kernel_rfl, by kernel_rfl, by kernel_rfl⟩
noncomputable def fnsev48 : FnI := ⟨68, Tryz.f48.body.getD .skip, [.tmp 4], []⟩
theorem fnsev48_ok : FnOk Tryz.prog 48 fnsev48 := ⟨_, Tryz.func48, by kernel_rfl, by kernel_rfl, by kernel_rfl, by kernel_rfl, by kernel_rfl, by kernel_rfl⟩
noncomputable def fnsev9 : FnI := ⟨13, Tryz.f9.body.getD .skip, [.cell 2 32], []⟩
theorem fnsev9_ok : FnOk Tryz.prog 9 fnsev9 := ⟨_, Tryz.func9, by kernel_rfl, by kernel_rfl, by kernel_rfl, by kernel_rfl, by kernel_rfl, by kernel_rfl⟩
noncomputable def fnsev20 : FnI := ⟨61, Tryz.f20.body.getD .skip, [.cell 2 32, .tmp 3, .tmp 4], [(11, [(0, true), (1, true), (2, true), (3, true), (4, true), (5, true), (6, true), (7, true), (8, true), (9, false), (10, false), (11, false)])]⟩
theorem fnsev20_ok : FnOk Tryz.prog 20 fnsev20 := ⟨_, Tryz.func20, by kernel_rfl, by kernel_rfl, by kernel_rfl, by kernel_rfl, by kernel_rfl, by kernel_rfl⟩
noncomputable def fnsev36 : FnI := ⟨19, Tryz.f36.body.getD .skip, [], []⟩
theorem fnsev36_ok : FnOk Tryz.prog 36 fnsev36 := ⟨_, Tryz.func36, by kernel_rfl, by kernel_rfl, by kernel_rfl, by kernel_rfl, by kernel_rfl, by kernel_rfl⟩
noncomputable def fnsev35 : FnI := ⟨7, Tryz.f35.body.getD .skip, [], []⟩
theorem fnsev35_ok : FnOk Tryz.prog 35 fnsev35 := ⟨_, Tryz.func35, by kernel_rfl, by kernel_rfl, by kernel_rfl, by kernel_rfl, by kernel_rfl, by kernel_rfl⟩
noncomputable def fnsev34 : FnI := ⟨13, Tryz.f34.body.getD .skip, [.cell 2 108], [(1, [(0, true), (1, true), (2, true), (3, true), (4, false), (5, false), (6, false), (7, false), (8, false), (9, false), (10, false)])]⟩
theorem fnsev34_ok : FnOk Tryz.prog 34 fnsev34 := ⟨_, Tryz.func34, by kernel_rfl, by kernel_rfl, by kernel_rfl, by kernel_rfl, by kernel_rfl, by kernel_rfl⟩
noncomputable def fnsev33 : FnI := ⟨39, Tryz.f33.body.getD .skip, [.cell 4 32], []⟩
theorem fnsev33_ok : FnOk Tryz.prog 33 fnsev33 := ⟨_, Tryz.func33, by kernel_rfl, by kernel_rfl, by kernel_rfl, by kernel_rfl, by kernel_rfl, by kernel_rfl⟩
noncomputable def fnsev59 : FnI := ⟨28, Tryz.f59.body.getD .skip, [.tmp 2], []⟩
theorem fnsev59_ok : FnOk Tryz.prog 59 fnsev59 := ⟨_, Tryz.func59, by kernel_rfl, by kernel_rfl, by kernel_rfl, by kernel_rfl, by kernel_rfl, by kernel_rfl⟩
noncomputable def fnsev93 : FnI := ⟨10, Tryz.f93.body.getD .skip, [], []⟩
theorem fnsev93_ok : FnOk Tryz.prog 93 fnsev93 := ⟨_, Tryz.func93, by kernel_rfl, by kernel_rfl, by kernel_rfl, by kernel_rfl, by kernel_rfl, by kernel_rfl⟩
noncomputable def fnsev54 : FnI := ⟨25, Tryz.f54.body.getD .skip, [.tmp 2], []⟩
theorem fnsev54_ok : FnOk Tryz.prog 54 fnsev54 := ⟨_, Tryz.func54, by kernel_rfl, by kernel_rfl, by kernel_rfl, by kernel_rfl, by kernel_rfl, by kernel_rfl⟩
noncomputable def fnsev53 : FnI := ⟨28, Tryz.f53.body.getD .skip, [.tmp 4], []⟩
theorem fnsev53_ok : FnOk Tryz.prog 53 fnsev53 := ⟨_, Tryz.func53, by kernel_rfl, by kernel_rfl, by kernel_rfl, by kernel_rfl, by kernel_rfl, by kernel_rfl⟩
noncomputable def fnsev91 : FnI := ⟨18, Tryz.f91.body.getD .skip, [.tmp 4], []⟩
theorem fnsev91_ok : FnOk Tryz.prog 91 fnsev91 := ⟨_, Tryz.func91, by kernel_rfl, by kernel_rfl, by kernel_rfl, by kernel_rfl, by kernel_rfl, by kernel_rfl⟩
noncomputable def fnsev94 : FnI := ⟨29, Tryz.f94.body.getD .skip, [.tmp 4], []⟩
theorem fnsev94_ok : FnOk Tryz.prog 94 fnsev94 := ⟨_, Tryz.func94, by kernel_rfl, by kernel_rfl, by kernel_rfl, by kernel_rfl, by kernel_rfl, by kernel_rfl⟩
noncomputable def fnsev90 : FnI := ⟨19, Tryz.f90.body.getD .skip, [.tmp 4], []⟩
theorem fnsev90_ok : FnOk Tryz.prog 90 fnsev90 := ⟨_, Tryz.func90, by kernel_rfl, by kernel_rfl, by kernel_rfl, by kernel_rfl, by kernel_rfl, by kernel_rfl⟩
noncomputable def fnsev58 : FnI := ⟨51, Tryz.f58.body.getD .skip, [.tmp 2], []⟩
theorem fnsev58_ok : FnOk Tryz.prog 58 fnsev58 := ⟨_, Tryz.func58, by kernel_rfl, by kernel_rfl, by kernel_rfl, by kernel_rfl, by kernel_rfl, by kernel_rfl⟩
noncomputable def fnsev95 : FnI := ⟨23, Tryz.f95.body.getD .skip, [.cell 4 98], []⟩
theorem fnsev95_ok : FnOk Tryz.prog 95 fnsev95 := ⟨_, Tryz.func95, by kernel_rfl, by kernel_rfl, by kernel_rfl, by kernel_rfl, by kernel_rfl, by kernel_rfl⟩
noncomputable def fnsev56 : FnI := ⟨10, Tryz.f56.body.getD .skip, [], []⟩
theorem fnsev56_ok : FnOk Tryz.prog 56 fnsev56 := ⟨_, Tryz.func56, by kernel_rfl, by kernel_rfl, by kernel_rfl, by kernel_rfl, by kernel_rfl, by kernel_rfl⟩
noncomputable def fnsev126 : FnI := ⟨25, Tryz.f126.body.getD .skip, [.tmp 6], []⟩
theorem fnsev126_ok : FnOk Tryz.prog 126 fnsev126 := ⟨_, Tryz.func126, by kernel_rfl, by kernel_rfl, by kernel_rfl, by kernel_rfl, by kernel_rfl, by kernel_rfl⟩
noncomputable def fnsev155 : FnI := ⟨52, Tryz.f155.body.getD .skip, [.tmp 4, .tmp 5], [(10, [(0, true), (1, true), (2, true), (3, true), (4, false), (5, false)])]⟩
theorem fnsev155_ok : FnOk Tryz.prog 155 fnsev155 := ⟨_, Tryz.func155, by kernel_rfl, by kernel_rfl, by kernel_rfl, by kernel_rfl, by kernel_rfl, by kernel_rfl⟩
noncomputable def fnsev174 : FnI := ⟨56, Tryz.f174.body.getD .skip, [.cell 2 37], []⟩
theorem fnsev174_ok : FnOk Tryz.prog 174 fnsev174 := ⟨_, Tryz.func174, by kernel_rfl, by kernel_rfl, by kernel_rfl, by kernel_rfl, by kernel_rfl, by kernel_rfl⟩
noncomputable def fnsev173 : FnI := ⟨17, Tryz.f173.body.getD .skip, [.cell 2 35], []⟩
theorem fnsev173_ok : FnOk Tryz.prog 173 fnsev173 := ⟨_, Tryz.func173, by kernel_rfl, by kernel_rfl, by kernel_rfl, by kernel_rfl, by kernel_rfl, by kernel_rfl⟩
noncomputable def fnsev175 : FnI := ⟨36, Tryz.f175.body.getD .skip, [.tmp 4, .cell 5 41], [(9, [(0, true), (1, true), (2, false), (3, false)])]⟩
theorem fnsev175_ok : FnOk Tryz.prog 175 fnsev175 := ⟨_, Tryz.func175, by kernel_rfl, by kernel_rfl, by kernel_rfl, by kernel_rfl, by kernel_rfl, by kernel_rfl⟩
noncomputable def fnsev182 : FnI := ⟨15, Tryz.f182.body.getD .skip, [.tmp 2], []⟩
theorem fnsev182_ok : FnOk Tryz.prog 182 fnsev182 := ⟨_, Tryz.func182, by kernel_rfl, by kernel_rfl, by kernel_rfl, by kernel_rfl, by kernel_rfl, by kernel_rfl⟩
noncomputable def fnsev55 : FnI := ⟨23, Tryz.f55.body.getD .skip, [.tmp 2], []⟩
theorem fnsev55_ok : FnOk Tryz.prog 55 fnsev55 := ⟨_, Tryz.func55, by kernel_rfl, by kernel_rfl, by kernel_rfl, by kernel_rfl, by kernel_rfl, by kernel_rfl⟩
noncomputable def fnsev92 : FnI := ⟨24, Tryz.f92.body.getD .skip, [.tmp 2], []⟩
theorem fnsev92_ok : FnOk Tryz.prog 92 fnsev92 := ⟨_, Tryz.func92, by kernel_rfl, by kernel_rfl, by kernel_rfl, by kernel_rfl, by kernel_rfl, by kernel_rfl⟩
noncomputable def fnsev125 : FnI := ⟨20, Tryz.f125.body.getD .skip, [.tmp 2], []⟩
theorem fnsev125_ok : FnOk Tryz.prog 125 fnsev125 := ⟨_, Tryz.func125, by kernel_rfl, by kernel_rfl, by kernel_rfl, by kernel_rfl, by kernel_rfl, by kernel_rfl⟩
noncomputable def fnsev154 : FnI := ⟨32, Tryz.f154.body.getD .skip, [.cell 2 39], []⟩
theorem fnsev154_ok : FnOk Tryz.prog 154 fnsev154 := ⟨_, Tryz.func154, by kernel_rfl, by kernel_rfl, by kernel_rfl, by kernel_rfl, by kernel_rfl, by kernel_rfl⟩
noncomputable def fnsev57 : FnI := ⟨33, Tryz.f57.body.getD .skip, [.tmp 4], []⟩
theorem fnsev57_ok : FnOk Tryz.prog 57 fnsev57 := ⟨_, Tryz.func57, by kernel_rfl, by kernel_rfl, by kernel_rfl, by kernel_rfl, by kernel_rfl, by kernel_rfl⟩
noncomputable def fnsev32 : FnI := ⟨52, Tryz.f32.body.getD .skip, [.tmp 2, .tmp 3, .tmp 4], []⟩
theorem fnsev32_ok : FnOk Tryz.prog 32 fnsev32 := ⟨_, Tryz.func32, by kernel_rfl, by kernel_rfl, by kernel_rfl, by kernel_rfl, by kernel_rfl, by kernel_rfl⟩
noncomputable def fnsev52 : FnI := ⟨106, Tryz.f52.body.getD .skip, [.cell 2 108, .tmp 3], [(30, [(0, true), (1, true), (2, false), (3, false), (4, false), (5, false), (6, false)])]⟩
theorem fnsev52_ok : FnOk Tryz.prog 52 fnsev52 := ⟨_, Tryz.func52, by kernel_rfl, by kernel_rfl, by kernel_rfl, by kernel_rfl, by kernel_rfl, by kernel_rfl⟩
noncomputable def fnsev88 : FnI := ⟨50, Tryz.f88.body.getD .skip, [.tmp 2, .tmp 3], []⟩
theorem fnsev88_ok : FnOk Tryz.prog 88 fnsev88 := ⟨_, Tryz.func88, by kernel_rfl, by kernel_rfl, by kernel_rfl, by kernel_rfl, by kernel_rfl, by kernel_rfl⟩
noncomputable def fnsev123 : FnI := ⟨38, Tryz.f123.body.getD .skip, [.tmp 2, .tmp 3], [(3, [(0, true), (1, true), (4, true), (5, true), (2, false), (3, true), (6, false), (7, false), (8, false), (9, false)])]⟩
theorem fnsev123_ok : FnOk Tryz.prog 123 fnsev123 := ⟨_, Tryz.func123, by kernel_rfl, by kernel_rfl, by kernel_rfl, by kernel_rfl, by kernel_rfl, by kernel_rfl⟩
noncomputable def fnsev122 : FnI := ⟨17, Tryz.f122.body.getD .skip, [.tmp 2], []⟩
theorem fnsev122_ok : FnOk Tryz.prog 122 fnsev122 := ⟨_, Tryz.func122, by kernel_rfl, by kernel_rfl, by kernel_rfl, by kernel_rfl, by kernel_rfl, by kernel_rfl⟩
noncomputable def fnsev152 : FnI := ⟨20, Tryz.f152.body.getD .skip, [.tmp 2], []⟩
theorem fnsev152_ok : FnOk Tryz.prog 152 fnsev152 := ⟨_, Tryz.func152, by kernel_rfl, by kernel_rfl, by kernel_rfl, by kernel_rfl, by kernel_rfl, by kernel_rfl⟩
noncomputable def fnsev86 : FnI := ⟨9, Tryz.f86.body.getD .skip, [.tmp 2], []⟩
theorem fnsev86_ok : FnOk Tryz.prog 86 fnsev86 := ⟨_, Tryz.func86, by kernel_rfl, by kernel_rfl, by kernel_rfl, by kernel_rfl, by kernel_rfl, by kernel_rfl⟩
noncomputable def fnsev87 : FnI := ⟨35, Tryz.f87.body.getD .skip, [.tmp 4, .tmp 5], []⟩
theorem fnsev87_ok : FnOk Tryz.prog 87 fnsev87 := ⟨_, Tryz.func87, by kernel_rfl, by kernel_rfl, by kernel_rfl, by kernel_rfl, by kernel_rfl, by kernel_rfl⟩
noncomputable def fnsev119 : FnI := ⟨20, Tryz.f119.body.getD .skip, [.tmp 4], []⟩
theorem fnsev119_ok : FnOk Tryz.prog 119 fnsev119 := ⟨_, Tryz.func119, by kernel_rfl, by kernel_rfl, by kernel_rfl, by kernel_rfl, by kernel_rfl, by kernel_rfl⟩
noncomputable def fnsev85 : FnI := ⟨12, Tryz.f85.body.getD .skip, [.tmp 2], []⟩
theorem fnsev85_ok : FnOk Tryz.prog 85 fnsev85 := ⟨_, Tryz.func85, by kernel_rfl, by kernel_rfl, by kernel_rfl, by kernel_rfl, by kernel_rfl, by kernel_rfl⟩
noncomputable def fnsev120 : FnI := ⟨17, Tryz.f120.body.getD .skip, [.tmp 2], []⟩
theorem fnsev120_ok : FnOk Tryz.prog 120 fnsev120 := ⟨_, Tryz.func120, by kernel_rfl, by kernel_rfl, by kernel_rfl, by kernel_rfl, by kernel_rfl, by kernel_rfl⟩
noncomputable def FnsEvF : List (FuncId × FnI) := [(12, fnsev12),
  (23, fnsev23),
  (11, fnsev11),
  (10, fnsev10),
  (22, fnsev22),
  (39, fnsev39),
  (64, fnsev64),
  (63, fnsev63),
  (62, fnsev62),
  (102, fnsev102),
  (134, fnsev134),
  (156, fnsev156),
  (101, fnsev101),
  (133, fnsev133),
  (97, fnsev97),
  (129, fnsev129),
  (128, fnsev128),
  (132, fnsev132),
  (100, fnsev100),
  (131, fnsev131),
  (130, fnsev130),
  (99, fnsev99),
  (98, fnsev98),
  (96, fnsev96),
  (127, fnsev127),
  (38, fnsev38),
  (61, fnsev61),
  (46, fnsev46),
  (75, fnsev75),
  (74, fnsev74),
  (112, fnsev112),
  (141, fnsev141),
  (165, fnsev165),
  (164, fnsev164),
  (163, fnsev163),
  (162, fnsev162),
  (161, fnsev161),
  (115, fnsev115),
  (145, fnsev145),
  (144, fnsev144),
  (116, fnsev116),
  (160, fnsev160),
  (159, fnsev159),
  (140, fnsev140),
  (158, fnsev158),
  (177, fnsev177),
  (139, fnsev139),
  (76, fnsev76),
  (114, fnsev114),
  (113, fnsev113),
  (142, fnsev142),
  (143, fnsev143),
  (111, fnsev111),
  (81, fnsev81),
  (118, fnsev118),
  (149, fnsev149),
  (167, fnsev167),
  (148, fnsev148),
  (37, fnsev37),
  (60, fnsev60),
  (47, fnsev47),
  (77, fnsev77),
  (18, fnsev18),
  (29, fnsev29),
  (49, fnsev49),
  (80, fnsev80),
  (79, fnsev79),
  (117, fnsev117),
  (147, fnsev147),
  (166, fnsev166),
  (146, fnsev146),
  (78, fnsev78),
  (48, fnsev48),
  (9, fnsev9),
  (20, fnsev20),
  (36, fnsev36),
  (35, fnsev35),
  (34, fnsev34),
  (33, fnsev33),
  (59, fnsev59),
  (93, fnsev93),
  (54, fnsev54),
  (53, fnsev53),
  (91, fnsev91),
  (94, fnsev94),
  (90, fnsev90),
  (58, fnsev58),
  (95, fnsev95),
  (56, fnsev56),
  (126, fnsev126),
  (155, fnsev155),
  (174, fnsev174),
  (173, fnsev173),
  (175, fnsev175),
  (182, fnsev182),
  (55, fnsev55),
  (92, fnsev92),
  (125, fnsev125),
  (154, fnsev154),
  (57, fnsev57),
  (32, fnsev32),
  (52, fnsev52),
  (88, fnsev88),
  (123, fnsev123),
  (122, fnsev122),
  (152, fnsev152),
  (86, fnsev86),
  (87, fnsev87),
  (119, fnsev119),
  (85, fnsev85),
  (120, fnsev120)]
theorem FnsEvF_ok (C : FuncId → List PV → Option SV) : FOk Tryz.prog ⟨TTab, FnsEvF, C⟩ := fok_cons fnsev12_ok <| 
  fok_cons fnsev23_ok <| 
  fok_cons fnsev11_ok <| 
  fok_cons fnsev10_ok <| 
  fok_cons fnsev22_ok <| 
  fok_cons fnsev39_ok <| 
  fok_cons fnsev64_ok <| 
  fok_cons fnsev63_ok <| 
  fok_cons fnsev62_ok <| 
  fok_cons fnsev102_ok <| 
  fok_cons fnsev134_ok <| 
  fok_cons fnsev156_ok <| 
  fok_cons fnsev101_ok <| 
  fok_cons fnsev133_ok <| 
  fok_cons fnsev97_ok <| 
  fok_cons fnsev129_ok <| 
  fok_cons fnsev128_ok <| 
  fok_cons fnsev132_ok <| 
  fok_cons fnsev100_ok <| 
  fok_cons fnsev131_ok <| 
  fok_cons fnsev130_ok <| 
  fok_cons fnsev99_ok <| 
  fok_cons fnsev98_ok <| 
  fok_cons fnsev96_ok <| 
  fok_cons fnsev127_ok <| 
  fok_cons fnsev38_ok <| 
  fok_cons fnsev61_ok <| 
  fok_cons fnsev46_ok <| 
  fok_cons fnsev75_ok <| 
  fok_cons fnsev74_ok <| 
  fok_cons fnsev112_ok <| 
  fok_cons fnsev141_ok <| 
  fok_cons fnsev165_ok <| 
  fok_cons fnsev164_ok <| 
  fok_cons fnsev163_ok <| 
  fok_cons fnsev162_ok <| 
  fok_cons fnsev161_ok <| 
  fok_cons fnsev115_ok <| 
  fok_cons fnsev145_ok <| 
  fok_cons fnsev144_ok <| 
  fok_cons fnsev116_ok <| 
  fok_cons fnsev160_ok <| 
  fok_cons fnsev159_ok <| 
  fok_cons fnsev140_ok <| 
  fok_cons fnsev158_ok <| 
  fok_cons fnsev177_ok <| 
  fok_cons fnsev139_ok <| 
  fok_cons fnsev76_ok <| 
  fok_cons fnsev114_ok <| 
  fok_cons fnsev113_ok <| 
  fok_cons fnsev142_ok <| 
  fok_cons fnsev143_ok <| 
  fok_cons fnsev111_ok <| 
  fok_cons fnsev81_ok <| 
  fok_cons fnsev118_ok <| 
  fok_cons fnsev149_ok <| 
  fok_cons fnsev167_ok <| 
  fok_cons fnsev148_ok <| 
  fok_cons fnsev37_ok <| 
  fok_cons fnsev60_ok <| 
  fok_cons fnsev47_ok <| 
  fok_cons fnsev77_ok <| 
  fok_cons fnsev18_ok <| 
  fok_cons fnsev29_ok <| 
  fok_cons fnsev49_ok <| 
  fok_cons fnsev80_ok <| 
  fok_cons fnsev79_ok <| 
  fok_cons fnsev117_ok <| 
  fok_cons fnsev147_ok <| 
  fok_cons fnsev166_ok <| 
  fok_cons fnsev146_ok <| 
  fok_cons fnsev78_ok <| 
  fok_cons fnsev48_ok <| 
  fok_cons fnsev9_ok <| 
  fok_cons fnsev20_ok <| 
  fok_cons fnsev36_ok <| 
  fok_cons fnsev35_ok <| 
  fok_cons fnsev34_ok <| 
  fok_cons fnsev33_ok <| 
  fok_cons fnsev59_ok <| 
  fok_cons fnsev93_ok <| 
  fok_cons fnsev54_ok <| 
  fok_cons fnsev53_ok <| 
  fok_cons fnsev91_ok <| 
  fok_cons fnsev94_ok <| 
  fok_cons fnsev90_ok <| 
  fok_cons fnsev58_ok <| 
  fok_cons fnsev95_ok <| 
  fok_cons fnsev56_ok <| 
  fok_cons fnsev126_ok <| 
  fok_cons fnsev155_ok <| 
  fok_cons fnsev174_ok <| 
  fok_cons fnsev173_ok <| 
  fok_cons fnsev175_ok <| 
  fok_cons fnsev182_ok <| 
  fok_cons fnsev55_ok <| 
  fok_cons fnsev92_ok <| 
  fok_cons fnsev125_ok <| 
  fok_cons fnsev154_ok <| 
  fok_cons fnsev57_ok <| 
  fok_cons fnsev32_ok <| 
  fok_cons fnsev52_ok <| 
  fok_cons fnsev88_ok <| 
  fok_cons fnsev123_ok <| 
  fok_cons fnsev122_ok <| 
  fok_cons fnsev152_ok <| 
  fok_cons fnsev86_ok <| 
  fok_cons fnsev87_ok <| 
  fok_cons fnsev119_ok <| 
  fok_cons fnsev85_ok <| 
  fok_cons fnsev120_ok <| fok_nil
end Go.Proofs.YtiiagdnmbpdlaaaGreatDoor
