/-
  What the statement leans on, part 4: FnsI, Dec, Itoa, IndRuns, IndexKeys, LawKit0, LawL, Laid.
-/
import Derived.Shelf.Strconv.Itoa3
import Derived.Shelf.Small.Strs
import Derived.Shelf.Strconv.AtoiAll
import Derived.Test.YtppfcacnofjmdaaGreatDoorRows
import Derived.Lib.LaidTab
import Derived.LaidLaws
import Derived.LaidHandle
import Derived.Stop.Joined
import Derived.ChangeSame
import Derived.ChangeVars
import Derived.JoinedOf
import Derived.RowKitTokens
import Derived.Test.YtppfcacnofjmdaaGreatDoorPk1
import Derived.Test.YtppfcacnofjmdaaGreatDoorPk2
import Derived.Test.YtppfcacnofjmdaaGreatDoorPk3
namespace Go.Proofs.YtppfcacnofjmdaaGreatDoor
open Go.RowKit
noncomputable def fnsi35 : FnI := ⟨29, Tryz.f35.body.getD .skip, [.tmp 0], []⟩
theorem fnsi35_ok : FnOk Tryz.prog 35 fnsi35 := ⟨_, Tryz.func35, by kernel_rfl, by kernel_rfl, by kernel_rfl, by kernel_rfl, by kernel_rfl, by kernel_rfl⟩
noncomputable def fnsi36 : FnI := ⟨38, Tryz.f36.body.getD .skip, [.cell 2 62, .tmp 3], []⟩
theorem fnsi36_ok : FnOk Tryz.prog 36 fnsi36 := ⟨_, Tryz.func36, by kernel_rfl, by kernel_rfl, by kernel_rfl, by kernel_rfl, by kernel_rfl, by kernel_rfl⟩
noncomputable def fnsi61 : FnI := ⟨61, Tryz.f61.body.getD .skip, [.cell 2 28, .tmp 3, .tmp 4], [(11, [(0, true), (1, true), (2, true), (3, true), (4, true), (5, true), (6, true), (7, true), (8, true), (9, false), (10, false), (11, false)])]⟩
theorem fnsi61_ok : FnOk Tryz.prog 61 fnsi61 := ⟨_, Tryz.func61, by kernel_rfl, by kernel_rfl, by kernel_rfl, by kernel_rfl, by kernel_rfl, by kernel_rfl⟩
noncomputable def fnsi80 : FnI := ⟨19, Tryz.f80.body.getD .skip, [], []⟩
theorem fnsi80_ok : FnOk Tryz.prog 80 fnsi80 := ⟨_, Tryz.func80, by kernel_rfl, by kernel_rfl, by kernel_rfl, by kernel_rfl, by kernel_rfl, by kernel_rfl⟩
noncomputable def fnsi17 : FnI := ⟨10, Tryz.f17.body.getD .skip, [.tmp 2], []⟩
theorem fnsi17_ok : FnOk Tryz.prog 17 fnsi17 := ⟨_, Tryz.func17, by kernel_rfl, by kernel_rfl, by kernel_rfl, by kernel_rfl, by kernel_rfl, by kernel_rfl⟩
noncomputable def fnsi44 : FnI := ⟨52, Tryz.f44.body.getD .skip, [.tmp 6], []⟩
theorem fnsi44_ok : FnOk Tryz.prog 44 fnsi44 := ⟨_, Tryz.func44, by kernel_rfl, by kernel_rfl, by kernel_rfl, by kernel_rfl, by kernel_rfl, by kernel_rfl⟩
noncomputable def fnsi68 : FnI := ⟨39, Tryz.f68.body.getD .skip, [.tmp 4], []⟩
theorem fnsi68_ok : FnOk Tryz.prog 68 fnsi68 := ⟨_, Tryz.func68, by kernel_rfl, by kernel_rfl, by kernel_rfl, by kernel_rfl, by kernel_rfl, by kernel_rfl⟩
noncomputable def fnsi86 : FnI := ⟨39, Tryz.f86.body.getD .skip, [.tmp 2], []⟩
theorem fnsi86_ok : FnOk Tryz.prog 86 fnsi86 := ⟨_, Tryz.func86, by kernel_rfl, by kernel_rfl, by kernel_rfl, by kernel_rfl, by kernel_rfl, by kernel_rfl⟩
noncomputable def fnsi105 : FnI := ⟨49, Tryz.f105.body.getD .skip, [.tmp 2], []⟩
theorem fnsi105_ok : FnOk Tryz.prog 105 fnsi105 := ⟨_, Tryz.func105, by kernel_rfl, by kernel_rfl, by kernel_rfl, by kernel_rfl, by kernel_rfl, by kernel_rfl⟩
noncomputable def fnsi73 : FnI := ⟨38, Tryz.f73.body.getD .skip, [.tmp 2], []⟩
theorem fnsi73_ok : FnOk Tryz.prog 73 fnsi73 := ⟨_, Tryz.func73, by kernel_rfl, by kernel_rfl, by kernel_rfl, by kernel_rfl, by kernel_rfl, by kernel_rfl⟩
noncomputable def fnsi89 : FnI := ⟨60, Tryz.f89.body.getD .skip, [.tmp 4, .tmp 5], [(11, [(0, true), (1, true), (2, true), (3, false), (4, false), (5, false), (6, false), (7, false), (8, false), (9, false)])]⟩
theorem fnsi89_ok : FnOk Tryz.prog 89 fnsi89 := ⟨_, Tryz.func89, by kernel_rfl, by kernel_rfl, by kernel_rfl, by kernel_rfl, by kernel_rfl, by kernel_rfl⟩
noncomputable def fnsi114 : FnI := ⟨37, Tryz.f114.body.getD .skip, [.tmp 2], []⟩
theorem fnsi114_ok : FnOk Tryz.prog 114 fnsi114 := ⟨_, Tryz.func114, by kernel_rfl, by kernel_rfl, by kernel_rfl, by kernel_rfl, by kernel_rfl, by kernel_rfl⟩
noncomputable def fnsi143 : FnI := ⟨16, Tryz.f143.body.getD .skip, [.tmp 2], []⟩
theorem fnsi143_ok : FnOk Tryz.prog 143 fnsi143 := ⟨_, Tryz.func143, by kernel_rfl, by kernel_rfl, by kernel_rfl, by kernel_rfl, by kernel_rfl, by kernel_rfl⟩
noncomputable def fnsi103 : FnI := ⟨61, Tryz.f103.body.getD .skip, [.tmp 2], []⟩
theorem fnsi103_ok : FnOk Tryz.prog 103 fnsi103 := ⟨_, Tryz.func103, by kernel_rfl, by kernel_rfl, by kernel_rfl, by kernel_rfl, by kernel_rfl, by kernel_rfl⟩
noncomputable def fnsi113 : FnI := ⟨35, Tryz.f113.body.getD .skip, [.tmp 2, .tmp 3], []⟩
theorem fnsi113_ok : FnOk Tryz.prog 113 fnsi113 := ⟨_, Tryz.func113, by kernel_rfl, by kernel_rfl, by kernel_rfl, by kernel_rfl, by kernel_rfl, by kernel_rfl⟩
noncomputable def fnsi85 : FnI := ⟨21, Tryz.f85.body.getD .skip, [.tmp 2], []⟩
theorem fnsi85_ok : FnOk Tryz.prog 85 fnsi85 := ⟨_, Tryz.func85, by kernel_rfl, by kernel_rfl, by kernel_rfl, by kernel_rfl, by kernel_rfl, by kernel_rfl⟩
noncomputable def fnsi106 : FnI := ⟨25, Tryz.f106.body.getD .skip, [.tmp 2], []⟩
theorem fnsi106_ok : FnOk Tryz.prog 106 fnsi106 := ⟨_, Tryz.func106, by kernel_rfl, by kernel_rfl, by kernel_rfl, by kernel_rfl, by kernel_rfl, by kernel_rfl⟩
noncomputable def fnsi135 : FnI := ⟨22, Tryz.f135.body.getD .skip, [.tmp 2], []⟩
theorem fnsi135_ok : FnOk Tryz.prog 135 fnsi135 := ⟨_, Tryz.func135, by kernel_rfl, by kernel_rfl, by kernel_rfl, by kernel_rfl, by kernel_rfl, by kernel_rfl⟩
noncomputable def fnsi153 : FnI := ⟨21, Tryz.f153.body.getD .skip, [.tmp 2], []⟩
theorem fnsi153_ok : FnOk Tryz.prog 153 fnsi153 := ⟨_, Tryz.func153, by kernel_rfl, by kernel_rfl, by kernel_rfl, by kernel_rfl, by kernel_rfl, by kernel_rfl⟩
noncomputable def fnsi134 : FnI := ⟨9, Tryz.f134.body.getD .skip, [.tmp 2], []⟩
theorem fnsi134_ok : FnOk Tryz.prog 134 fnsi134 := ⟨_, Tryz.func134, by kernel_rfl, by kernel_rfl, by kernel_rfl, by kernel_rfl, by kernel_rfl, by kernel_rfl⟩
noncomputable def fnsi84 : FnI := ⟨28, Tryz.f84.body.getD .skip, [.tmp 4], []⟩
theorem fnsi84_ok : FnOk Tryz.prog 84 fnsi84 := ⟨_, Tryz.func84, by kernel_rfl, by kernel_rfl, by kernel_rfl, by kernel_rfl, by kernel_rfl, by kernel_rfl⟩
noncomputable def fnsi67 : FnI := ⟨68, Tryz.f67.body.getD .skip, [.tmp 4], []⟩
theorem fnsi67_ok : FnOk Tryz.prog 67 fnsi67 := ⟨_, Tryz.func67, by kernel_rfl, by kernel_rfl, by kernel_rfl, by kernel_rfl, by kernel_rfl, by kernel_rfl⟩
noncomputable def fnsi79 : FnI := ⟨7, Tryz.f79.body.getD .skip, [], []⟩
theorem fnsi79_ok : FnOk Tryz.prog 79 fnsi79 := ⟨_, Tryz.func79, by kernel_rfl, by kernel_rfl, by kernel_rfl, by kernel_rfl, by kernel_rfl, by kernel_rfl⟩
noncomputable def fnsi78 : FnI := ⟨13, Tryz.f78.body.getD .skip, [.cell 2 143], [(1, [(0, true), (1, true), (2, true), (3, true), (4, false), (5, false), (6, false), (7, false), (8, false), (9, false), (10, false)])]⟩
theorem fnsi78_ok : FnOk Tryz.prog 78 fnsi78 := ⟨_, Tryz.func78, by kernel_rfl, by kernel_rfl, by kernel_rfl, by kernel_rfl, by kernel_rfl, by kernel_rfl⟩
noncomputable def fnsi77 : FnI := ⟨39, Tryz.f77.body.getD .skip, [.cell 4 28], []⟩
theorem fnsi77_ok : FnOk Tryz.prog 77 fnsi77 := ⟨_, Tryz.func77, by kernel_rfl, by kernel_rfl, by kernel_rfl, by kernel_rfl, by kernel_rfl, by kernel_rfl⟩
noncomputable def fnsi100 : FnI := ⟨28, Tryz.f100.body.getD .skip, [.tmp 2], []⟩
theorem fnsi100_ok : FnOk Tryz.prog 100 fnsi100 := ⟨_, Tryz.func100, by kernel_rfl, by kernel_rfl, by kernel_rfl, by kernel_rfl, by kernel_rfl, by kernel_rfl⟩
noncomputable def fnsi131 : FnI := ⟨10, Tryz.f131.body.getD .skip, [], []⟩
theorem fnsi131_ok : FnOk Tryz.prog 131 fnsi131 := ⟨_, Tryz.func131, by kernel_rfl, by kernel_rfl, by kernel_rfl, by kernel_rfl, by kernel_rfl, by kernel_rfl⟩
noncomputable def fnsi95 : FnI := ⟨25, Tryz.f95.body.getD .skip, [.tmp 2], []⟩
theorem fnsi95_ok : FnOk Tryz.prog 95 fnsi95 := ⟨_, Tryz.func95, by kernel_rfl, by kernel_rfl, by kernel_rfl, by kernel_rfl, by kernel_rfl, by kernel_rfl⟩
noncomputable def fnsi94 : FnI := ⟨28, Tryz.f94.body.getD .skip, [.tmp 4], []⟩
theorem fnsi94_ok : FnOk Tryz.prog 94 fnsi94 := ⟨_, Tryz.func94, by kernel_rfl, by kernel_rfl, by kernel_rfl, by kernel_rfl, by kernel_rfl, by kernel_rfl⟩
noncomputable def fnsi129 : FnI := ⟨18, Tryz.f129.body.getD .skip, [.tmp 4], []⟩
theorem fnsi129_ok : FnOk Tryz.prog 129 fnsi129 := ⟨_, Tryz.func129, by kernel_rfl, by kernel_rfl, by kernel_rfl, by kernel_rfl, by kernel_rfl, by kernel_rfl⟩
noncomputable def fnsi132 : FnI := ⟨29, Tryz.f132.body.getD .skip, [.tmp 4], []⟩
theorem fnsi132_ok : FnOk Tryz.prog 132 fnsi132 := ⟨_, Tryz.func132, by kernel_rfl, by kernel_rfl, by kernel_rfl, by kernel_rfl, by kernel_rfl, by kernel_rfl⟩
noncomputable def fnsi128 : FnI := ⟨19, Tryz.f128.body.getD .skip, [.tmp 4], []⟩
theorem fnsi128_ok : FnOk Tryz.prog 128 fnsi128 := ⟨_, Tryz.func128, by kernel_rfl, by kernel_rfl, by kernel_rfl, by kernel_rfl, by kernel_rfl, by kernel_rfl⟩
noncomputable def fnsi99 : FnI := ⟨51, Tryz.f99.body.getD .skip, [.tmp 2], []⟩
theorem fnsi99_ok : FnOk Tryz.prog 99 fnsi99 := ⟨_, Tryz.func99, by kernel_rfl, by kernel_rfl, by kernel_rfl, by kernel_rfl, by kernel_rfl, by kernel_rfl⟩
noncomputable def fnsi133 : FnI := ⟨23, Tryz.f133.body.getD .skip, [.cell 4 59], []⟩
theorem fnsi133_ok : FnOk Tryz.prog 133 fnsi133 := ⟨_, Tryz.func133, by kernel_rfl, by kernel_rfl, by kernel_rfl, by kernel_rfl, by kernel_rfl, by kernel_rfl⟩
noncomputable def fnsi97 : FnI := ⟨10, Tryz.f97.body.getD .skip, [], []⟩
theorem fnsi97_ok : FnOk Tryz.prog 97 fnsi97 := ⟨_, Tryz.func97, by kernel_rfl, by kernel_rfl, by kernel_rfl, by kernel_rfl, by kernel_rfl, by kernel_rfl⟩
noncomputable def fnsi152 : FnI := ⟨25, Tryz.f152.body.getD .skip, [.tmp 6], []⟩
theorem fnsi152_ok : FnOk Tryz.prog 152 fnsi152 := ⟨_, Tryz.func152, by kernel_rfl, by kernel_rfl, by kernel_rfl, by kernel_rfl, by kernel_rfl, by kernel_rfl⟩
noncomputable def fnsi160 : FnI := ⟨52, Tryz.f160.body.getD .skip, [.tmp 4, .tmp 5], [(10, [(0, true), (1, true), (2, true), (3, true), (4, false), (5, false)])]⟩
theorem fnsi160_ok : FnOk Tryz.prog 160 fnsi160 := ⟨_, Tryz.func160, by kernel_rfl, by kernel_rfl, by kernel_rfl, by kernel_rfl, by kernel_rfl, by kernel_rfl⟩
noncomputable def fnsi167 : FnI := ⟨56, Tryz.f167.body.getD .skip, [.cell 2 52], []⟩
theorem fnsi167_ok : FnOk Tryz.prog 167 fnsi167 := ⟨_, Tryz.func167, by kernel_rfl, by kernel_rfl, by kernel_rfl, by kernel_rfl, by kernel_rfl, by kernel_rfl⟩
noncomputable def fnsi166 : FnI := ⟨17, Tryz.f166.body.getD .skip, [.cell 2 54], []⟩
theorem fnsi166_ok : FnOk Tryz.prog 166 fnsi166 := ⟨_, Tryz.func166, by kernel_rfl, by kernel_rfl, by kernel_rfl, by kernel_rfl, by kernel_rfl, by kernel_rfl⟩
noncomputable def fnsi168 : FnI := ⟨36, Tryz.f168.body.getD .skip, [.tmp 4, .cell 5 56], [(9, [(0, true), (1, true), (2, false), (3, false)])]⟩
theorem fnsi168_ok : FnOk Tryz.prog 168 fnsi168 := ⟨_, Tryz.func168, by kernel_rfl, by kernel_rfl, by kernel_rfl, by kernel_rfl, by kernel_rfl, by kernel_rfl⟩
noncomputable def fnsi173 : FnI := ⟨15, Tryz.f173.body.getD .skip, [.tmp 2], []⟩
theorem fnsi173_ok : FnOk Tryz.prog 173 fnsi173 := ⟨_, Tryz.func173, by kernel_rfl, by kernel_rfl, by kernel_rfl, by kernel_rfl, by kernel_rfl, by kernel_rfl⟩
noncomputable def fnsi96 : FnI := ⟨23, Tryz.f96.body.getD .skip, [.tmp 2], []⟩
theorem fnsi96_ok : FnOk Tryz.prog 96 fnsi96 := ⟨_, Tryz.func96, by kernel_rfl, by kernel_rfl, by kernel_rfl, by kernel_rfl, by kernel_rfl, by kernel_rfl⟩
noncomputable def fnsi130 : FnI := ⟨24, Tryz.f130.body.getD .skip, [.tmp 2], []⟩
theorem fnsi130_ok : FnOk Tryz.prog 130 fnsi130 := ⟨_, Tryz.func130, by kernel_rfl, by kernel_rfl, by kernel_rfl, by kernel_rfl, by kernel_rfl, by kernel_rfl⟩
noncomputable def fnsi151 : FnI := ⟨20, Tryz.f151.body.getD .skip, [.tmp 2], []⟩
theorem fnsi151_ok : FnOk Tryz.prog 151 fnsi151 := ⟨_, Tryz.func151, by kernel_rfl, by kernel_rfl, by kernel_rfl, by kernel_rfl, by kernel_rfl, by kernel_rfl⟩
noncomputable def fnsi159 : FnI := ⟨32, Tryz.f159.body.getD .skip, [.cell 2 62], []⟩
theorem fnsi159_ok : FnOk Tryz.prog 159 fnsi159 := ⟨_, Tryz.func159, by kernel_rfl, by kernel_rfl, by kernel_rfl, by kernel_rfl, by kernel_rfl, by kernel_rfl⟩
noncomputable def fnsi98 : FnI := ⟨33, Tryz.f98.body.getD .skip, [.tmp 4], []⟩
theorem fnsi98_ok : FnOk Tryz.prog 98 fnsi98 := ⟨_, Tryz.func98, by kernel_rfl, by kernel_rfl, by kernel_rfl, by kernel_rfl, by kernel_rfl, by kernel_rfl⟩
noncomputable def fnsi76 : FnI := ⟨52, Tryz.f76.body.getD .skip, [.tmp 2, .tmp 3, .tmp 4], []⟩
theorem fnsi76_ok : FnOk Tryz.prog 76 fnsi76 := ⟨_, Tryz.func76, by kernel_rfl, by kernel_rfl, by kernel_rfl, by kernel_rfl, by kernel_rfl, by kernel_rfl⟩
noncomputable def fnsi93 : FnI := ⟨106, Tryz.f93.body.getD .skip, [.cell 2 143, .tmp 3], [(30, [(0, true), (1, true), (2, false), (3, false), (4, false), (5, false), (6, false)])]⟩
theorem fnsi93_ok : FnOk Tryz.prog 93 fnsi93 := ⟨_, Tryz.func93, by kernel_rfl, by kernel_rfl, by kernel_rfl, by kernel_rfl, by kernel_rfl, by kernel_rfl⟩
noncomputable def fnsi126 : FnI := ⟨50, Tryz.f126.body.getD .skip, [.tmp 2, .tmp 3], []⟩
theorem fnsi126_ok : FnOk Tryz.prog 126 fnsi126 := ⟨_, Tryz.func126, by kernel_rfl, by kernel_rfl, by kernel_rfl, by kernel_rfl, by kernel_rfl, by kernel_rfl⟩
noncomputable def fnsi149 : FnI := ⟨38, Tryz.f149.body.getD .skip, [.tmp 2, .tmp 3], [(3, [(0, true), (1, true), (4, true), (5, true), (2, false), (3, true), (6, false), (7, false), (8, false), (9, false)])]⟩
theorem fnsi149_ok : FnOk Tryz.prog 149 fnsi149 := ⟨_, Tryz.func149, by kernel_rfl, by kernel_rfl, by kernel_rfl, by kernel_rfl, by kernel_rfl, by kernel_rfl⟩
noncomputable def fnsi148 : FnI := ⟨17, Tryz.f148.body.getD .skip, [.tmp 2], []⟩
theorem fnsi148_ok : FnOk Tryz.prog 148 fnsi148 := ⟨_, Tryz.func148, by kernel_rfl, by kernel_rfl, by kernel_rfl, by kernel_rfl, by kernel_rfl, by kernel_rfl⟩
noncomputable def fnsi157 : FnI := ⟨20, Tryz.f157.body.getD .skip, [.tmp 2], []⟩
theorem fnsi157_ok : FnOk Tryz.prog 157 fnsi157 := ⟨_, Tryz.func157, by kernel_rfl, by kernel_rfl, by kernel_rfl, by kernel_rfl, by kernel_rfl, by kernel_rfl⟩
noncomputable def fnsi124 : FnI := ⟨9, Tryz.f124.body.getD .skip, [.tmp 2], []⟩
theorem fnsi124_ok : FnOk Tryz.prog 124 fnsi124 := ⟨_, Tryz.func124, by kernel_rfl, by kernel_rfl, by kernel_rfl, by kernel_rfl, by kernel_rfl, by kernel_rfl⟩
noncomputable def fnsi125 : FnI := ⟨35, Tryz.f125.body.getD .skip, [.tmp 4, .tmp 5], []⟩
theorem fnsi125_ok : FnOk Tryz.prog 125 fnsi125 := ⟨_, Tryz.func125, by kernel_rfl, by kernel_rfl, by kernel_rfl, by kernel_rfl, by kernel_rfl, by kernel_rfl⟩
noncomputable def fnsi145 : FnI := ⟨20, Tryz.f145.body.getD .skip, [.tmp 4], []⟩
theorem fnsi145_ok : FnOk Tryz.prog 145 fnsi145 := ⟨_, Tryz.func145, by kernel_rfl, by kernel_rfl, by kernel_rfl, by kernel_rfl, by kernel_rfl, by kernel_rfl⟩
noncomputable def fnsi123 : FnI := ⟨12, Tryz.f123.body.getD .skip, [.tmp 2], []⟩
theorem fnsi123_ok : FnOk Tryz.prog 123 fnsi123 := ⟨_, Tryz.func123, by kernel_rfl, by kernel_rfl, by kernel_rfl, by kernel_rfl, by kernel_rfl, by kernel_rfl⟩
noncomputable def fnsi146 : FnI := ⟨17, Tryz.f146.body.getD .skip, [.tmp 2], []⟩
theorem fnsi146_ok : FnOk Tryz.prog 146 fnsi146 := ⟨_, Tryz.func146, by kernel_rfl, by kernel_rfl, by kernel_rfl, by kernel_rfl, by kernel_rfl, by kernel_rfl⟩
noncomputable def FnsIF : List (FuncId × FnI) := [(35, fnsi35),
  (36, fnsi36),
  (61, fnsi61),
  (80, fnsi80),
  (17, fnsi17),
  (44, fnsi44),
  (68, fnsi68),
  (86, fnsi86),
  (105, fnsi105),
  (73, fnsi73),
  (89, fnsi89),
  (114, fnsi114),
  (143, fnsi143),
  (103, fnsi103),
  (113, fnsi113),
  (85, fnsi85),
  (106, fnsi106),
  (135, fnsi135),
  (153, fnsi153),
  (134, fnsi134),
  (84, fnsi84),
  (67, fnsi67),
  (79, fnsi79),
  (78, fnsi78),
  (77, fnsi77),
  (100, fnsi100),
  (131, fnsi131),
  (95, fnsi95),
  (94, fnsi94),
  (129, fnsi129),
  (132, fnsi132),
  (128, fnsi128),
  (99, fnsi99),
  (133, fnsi133),
  (97, fnsi97),
  (152, fnsi152),
  (160, fnsi160),
  (167, fnsi167),
  (166, fnsi166),
  (168, fnsi168),
  (173, fnsi173),
  (96, fnsi96),
  (130, fnsi130),
  (151, fnsi151),
  (159, fnsi159),
  (98, fnsi98),
  (76, fnsi76),
  (93, fnsi93),
  (126, fnsi126),
  (149, fnsi149),
  (148, fnsi148),
  (157, fnsi157),
  (124, fnsi124),
  (125, fnsi125),
  (145, fnsi145),
  (123, fnsi123),
  (146, fnsi146)]
theorem FnsIF_ok (C : FuncId → List PV → Option SV) : FOk Tryz.prog ⟨TTab, FnsIF, C⟩ := qj fnsi35_ok <|
  qj fnsi36_ok <|
  qj fnsi61_ok <|
  qj fnsi80_ok <|
  qj fnsi17_ok <|
  qj fnsi44_ok <|
  qj fnsi68_ok <|
  qj fnsi86_ok <|
  qj fnsi105_ok <|
  qj fnsi73_ok <|
  qj fnsi89_ok <|
  qj fnsi114_ok <|
  qj fnsi143_ok <|
  qj fnsi103_ok <|
  qj fnsi113_ok <|
  qj fnsi85_ok <|
  qj fnsi106_ok <|
  qj fnsi135_ok <|
  qj fnsi153_ok <|
  qj fnsi134_ok <|
  qj fnsi84_ok <|
  qj fnsi67_ok <|
  qj fnsi79_ok <|
  qj fnsi78_ok <|
  qj fnsi77_ok <|
  qj fnsi100_ok <|
  qj fnsi131_ok <|
  qj fnsi95_ok <|
  qj fnsi94_ok <|
  qj fnsi129_ok <|
  qj fnsi132_ok <|
  qj fnsi128_ok <|
  qj fnsi99_ok <|
  qj fnsi133_ok <|
  qj fnsi97_ok <|
  qj fnsi152_ok <|
  qj fnsi160_ok <|
  qj fnsi167_ok <|
  qj fnsi166_ok <|
  qj fnsi168_ok <|
  qj fnsi173_ok <|
  qj fnsi96_ok <|
  qj fnsi130_ok <|
  qj fnsi151_ok <|
  qj fnsi159_ok <|
  qj fnsi98_ok <|
  qj fnsi76_ok <|
  qj fnsi93_ok <|
  qj fnsi126_ok <|
  qj fnsi149_ok <|
  qj fnsi148_ok <|
  qj fnsi157_ok <|
  qj fnsi124_ok <|
  qj fnsi125_ok <|
  qj fnsi145_ok <|
  qj fnsi123_ok <|
  qj fnsi146_ok <| fok_nil
end Go.Proofs.YtppfcacnofjmdaaGreatDoor
namespace Go.Proofs.YtppfcacnofjmdaaGreatDoor
set_option linter.unusedVariables false
set_option linter.unusedSimpArgs false
def decF : Nat → Nat → List UInt8
  | 0, _ => []
  | f + 1, u => bif Nat.blt u 10 then [UInt8.ofNat (48 + u)] else decF f (u / 10) ++ [UInt8.ofNat (48 + u % 10)]
def itoaF (n : Int) : List UInt8 := match n with
  | .ofNat u => decF 20 u
  | .negSucc u => 45 :: decF 20 (u + 1)
end Go.Proofs.YtppfcacnofjmdaaGreatDoor
namespace Go.Proofs.YtppfcacnofjmdaaGreatDoor
open Go.RowKit Go.Shelf
def laysItoa_ren : Go.Shelf.Ren := ⟨fun | 171 => 172 | 243 => 176 | 246 => 177 | 283 => 178 | 284 => 179 | 285 => 180 | 286 => 181 | 129 => 183 | 317 => 182 | 318 => 184 | 319 => 185 | 320 => 186 | 337 => 187 | 338 => 188 | n => n, fun | 3 => 3 | 9 => 9 | 2 => 2 | 4 => 4 | 171 => 251 | 0 => 0 | 53 => 236 | 37 => 214 | 5 => 5 | 173 => 254 | 212 => 257 | 51 => 258 | 20 => 20 | 213 => 259 | 46 => 239 | 232 => 262 | 233 => 263 | n => n, fun | 17 => 3 | 18 => 4 | 19 => 5 | n => n⟩
theorem laysItoa : Go.Proofs.LaysM.n171 Tryz.prog laysItoa_ren := {
  mixed := by kernel_rfl
  f129 := Tryz.func183.trans (congrArg some (by kernel_rfl))
  f171 := Tryz.func172.trans (congrArg some (by kernel_rfl))
  f243 := Tryz.func176.trans (congrArg some (by kernel_rfl))
  f246 := Tryz.func177.trans (congrArg some (by kernel_rfl))
  f283 := Tryz.func178.trans (congrArg some (by kernel_rfl))
  f284 := Tryz.func179.trans (congrArg some (by kernel_rfl))
  f285 := Tryz.func180.trans (congrArg some (by kernel_rfl))
  f286 := Tryz.func181.trans (congrArg some (by kernel_rfl))
  f317 := Tryz.func182.trans (congrArg some (by kernel_rfl))
  f318 := Tryz.func184.trans (congrArg some (by kernel_rfl))
  f319 := Tryz.func185.trans (congrArg some (by kernel_rfl))
  f320 := Tryz.func186.trans (congrArg some (by kernel_rfl))
  f337 := Tryz.func187.trans (congrArg some (by kernel_rfl))
  f338 := Tryz.func188.trans (congrArg some (by kernel_rfl))
  t0 := Tryz.underlying0
  a0 := Tryz.isAgg0
  z0 := Tryz.sizeOf0
  v0 := Tryz.zeroValue0
  t2 := Tryz.underlying2
  a2 := Tryz.isAgg2
  z2 := Tryz.sizeOf2
  v2 := Tryz.zeroValue2
  t3 := Tryz.underlying3
  a3 := Tryz.isAgg3
  z3 := Tryz.sizeOf3
  v3 := Tryz.zeroValue3
  t4 := Tryz.underlying4
  a4 := Tryz.isAgg4
  z4 := Tryz.sizeOf4
  v4 := Tryz.zeroValue4
  t5 := Tryz.underlying5
  a5 := Tryz.isAgg5
  z5 := Tryz.sizeOf5
  v5 := Tryz.zeroValue5
  t9 := Tryz.underlying9
  a9 := Tryz.isAgg9
  z9 := Tryz.sizeOf9
  v9 := Tryz.zeroValue9
  t20 := Tryz.underlying20
  a20 := Tryz.isAgg20
  z20 := Tryz.sizeOf20
  v20 := Tryz.zeroValue20
  t37 := Tryz.underlying214
  a37 := Tryz.isAgg214
  z37 := Tryz.sizeOf214
  v37 := Tryz.zeroValue214
  t46 := Tryz.underlying239
  a46 := Tryz.isAgg239
  z46 := Tryz.sizeOf239
  v46 := Tryz.zeroValue239
  t51 := Tryz.underlying258
  a51 := Tryz.isAgg258
  z51 := Tryz.sizeOf258
  v51 := Tryz.zeroValue258
  t53 := Tryz.underlying236
  a53 := Tryz.isAgg236
  z53 := Tryz.sizeOf236
  v53 := Tryz.zeroValue236
  t171 := Tryz.underlying251
  a171 := Tryz.isAgg251
  z171 := Tryz.sizeOf251
  v171 := Tryz.zeroValue251
  t173 := Tryz.underlying254
  a173 := Tryz.isAgg254
  z173 := Tryz.sizeOf254
  v173 := Tryz.zeroValue254
  t212 := Tryz.underlying257
  a212 := Tryz.isAgg257
  z212 := Tryz.sizeOf257
  v212 := Tryz.zeroValue257
  t213 := Tryz.underlying259
  a213 := Tryz.isAgg259
  z213 := Tryz.sizeOf259
  t232 := Tryz.underlying262
  a232 := Tryz.isAgg262
  z232 := Tryz.sizeOf262
  v232 := Tryz.zeroValue262
  t233 := Tryz.underlying263
  a233 := Tryz.isAgg263
  z233 := Tryz.sizeOf263
  v233 := Tryz.zeroValue263
  g17 := by kernel_rfl
  g18 := by kernel_rfl
  g19 := by kernel_rfl
  i0 := by kernel_rfl
  i2 := by kernel_rfl
  i3 := by kernel_rfl
  i4 := by kernel_rfl
  i5 := by kernel_rfl
  i9 := by kernel_rfl
  i20 := by kernel_rfl
  i37 := by kernel_rfl
  i46 := by kernel_rfl
  i51 := by kernel_rfl
  i53 := by kernel_rfl
  i171 := by kernel_rfl
  i173 := by kernel_rfl
  i212 := by kernel_rfl
  i232 := by kernel_rfl
  i233 := by kernel_rfl
  m17 := by kernel_rfl
  m18 := by kernel_rfl
  m19 := by kernel_rfl
}
def laysIdx_ren : Go.Shelf.Ren := ⟨fun | 137 => 127 | 217 => 150 | 266 => 158 | n => n, fun | 9 => 9 | 5 => 5 | 3 => 3 | n => n, fun | n => n⟩
theorem laysIdx : Go.Proofs.Lays.n137 Tryz.prog laysIdx_ren := {
  mixed := by kernel_rfl
  f137 := Tryz.func127.trans (congrArg some (by kernel_rfl))
  f217 := Tryz.func150.trans (congrArg some (by kernel_rfl))
  f266 := Tryz.func158.trans (congrArg some (by kernel_rfl))
  t3 := Tryz.underlying3
  a3 := Tryz.isAgg3
  z3 := Tryz.sizeOf3
  v3 := Tryz.zeroValue3
  t5 := Tryz.underlying5
  a5 := Tryz.isAgg5
  z5 := Tryz.sizeOf5
  v5 := Tryz.zeroValue5
  t9 := Tryz.underlying9
  a9 := Tryz.isAgg9
  z9 := Tryz.sizeOf9
  v9 := Tryz.zeroValue9
}
def laysAtoi_ren : Go.Shelf.Ren := ⟨fun | 172 => 147 | 244 => 155 | 245 => 156 | 247 => 161 | 279 => 162 | 280 => 163 | 281 => 164 | 282 => 165 | 287 => 169 | 316 => 170 | 171 => 172 | 205 => 171 | 321 => 174 | 322 => 175 | 243 => 176 | 246 => 177 | 283 => 178 | 284 => 179 | 285 => 180 | 286 => 181 | 129 => 183 | 317 => 182 | 318 => 184 | 319 => 185 | 320 => 186 | 337 => 187 | 338 => 188 | n => n, fun | 9 => 9 | 3 => 3 | 75 => 211 | 76 => 212 | 4 => 4 | 5 => 5 | 167 => 226 | 37 => 214 | 0 => 0 | 85 => 227 | 2 => 2 | 168 => 229 | 53 => 236 | 175 => 237 | 46 => 239 | 210 => 241 | 127 => 246 | 145 => 249 | 143 => 247 | 21 => 21 | 171 => 251 | 173 => 254 | 212 => 257 | 51 => 258 | 20 => 20 | 213 => 259 | 232 => 262 | 233 => 263 | 80 => 164 | n => n, fun | 15 => 1 | 16 => 2 | 17 => 3 | 18 => 4 | 19 => 5 | n => n⟩
theorem laysAtoi : Go.Proofs.LaysC.n172 Tryz.prog laysAtoi_ren := {
  mixed := by kernel_rfl
  f129 := Tryz.func183.trans (congrArg some (by kernel_rfl))
  f171 := Tryz.func172.trans (congrArg some (by kernel_rfl))
  f172 := Tryz.func147.trans (congrArg some (by kernel_rfl))
  f205 := Tryz.func171.trans (congrArg some (by kernel_rfl))
  f243 := Tryz.func176.trans (congrArg some (by kernel_rfl))
  f244 := Tryz.func155.trans (congrArg some (by kernel_rfl))
  f245 := Tryz.func156.trans (congrArg some (by kernel_rfl))
  f246 := Tryz.func177.trans (congrArg some (by kernel_rfl))
  f247 := Tryz.func161.trans (congrArg some (by kernel_rfl))
  f279 := Tryz.func162.trans (congrArg some (by kernel_rfl))
  f280 := Tryz.func163.trans (congrArg some (by kernel_rfl))
  f281 := Tryz.func164.trans (congrArg some (by kernel_rfl))
  f282 := Tryz.func165.trans (congrArg some (by kernel_rfl))
  f283 := Tryz.func178.trans (congrArg some (by kernel_rfl))
  f284 := Tryz.func179.trans (congrArg some (by kernel_rfl))
  f285 := Tryz.func180.trans (congrArg some (by kernel_rfl))
  f286 := Tryz.func181.trans (congrArg some (by kernel_rfl))
  f287 := Tryz.func169.trans (congrArg some (by kernel_rfl))
  f316 := Tryz.func170.trans (congrArg some (by kernel_rfl))
  f317 := Tryz.func182.trans (congrArg some (by kernel_rfl))
  f318 := Tryz.func184.trans (congrArg some (by kernel_rfl))
  f319 := Tryz.func185.trans (congrArg some (by kernel_rfl))
  f320 := Tryz.func186.trans (congrArg some (by kernel_rfl))
  f321 := Tryz.func174.trans (congrArg some (by kernel_rfl))
  f322 := Tryz.func175.trans (congrArg some (by kernel_rfl))
  f337 := Tryz.func187.trans (congrArg some (by kernel_rfl))
  f338 := Tryz.func188.trans (congrArg some (by kernel_rfl))
  t0 := Tryz.underlying0
  a0 := Tryz.isAgg0
  z0 := Tryz.sizeOf0
  v0 := Tryz.zeroValue0
  t2 := Tryz.underlying2
  a2 := Tryz.isAgg2
  z2 := Tryz.sizeOf2
  v2 := Tryz.zeroValue2
  t3 := Tryz.underlying3
  a3 := Tryz.isAgg3
  z3 := Tryz.sizeOf3
  v3 := Tryz.zeroValue3
  t4 := Tryz.underlying4
  a4 := Tryz.isAgg4
  z4 := Tryz.sizeOf4
  v4 := Tryz.zeroValue4
  t5 := Tryz.underlying5
  a5 := Tryz.isAgg5
  z5 := Tryz.sizeOf5
  v5 := Tryz.zeroValue5
  t9 := Tryz.underlying9
  a9 := Tryz.isAgg9
  z9 := Tryz.sizeOf9
  v9 := Tryz.zeroValue9
  t20 := Tryz.underlying20
  a20 := Tryz.isAgg20
  z20 := Tryz.sizeOf20
  v20 := Tryz.zeroValue20
  t21 := Tryz.underlying21
  a21 := Tryz.isAgg21
  z21 := Tryz.sizeOf21
  v21 := Tryz.zeroValue21
  t37 := Tryz.underlying214
  a37 := Tryz.isAgg214
  z37 := Tryz.sizeOf214
  v37 := Tryz.zeroValue214
  t46 := Tryz.underlying239
  a46 := Tryz.isAgg239
  z46 := Tryz.sizeOf239
  v46 := Tryz.zeroValue239
  t51 := Tryz.underlying258
  a51 := Tryz.isAgg258
  z51 := Tryz.sizeOf258
  v51 := Tryz.zeroValue258
  t53 := Tryz.underlying236
  a53 := Tryz.isAgg236
  z53 := Tryz.sizeOf236
  v53 := Tryz.zeroValue236
  t75 := Tryz.underlying211
  a75 := Tryz.isAgg211
  z75 := Tryz.sizeOf211
  v75 := Tryz.zeroValue211
  t76 := Tryz.underlying212
  a76 := Tryz.isAgg212
  z76 := Tryz.sizeOf212
  v76 := Tryz.zeroValue212
  t85 := Tryz.underlying227
  a85 := Tryz.isAgg227
  z85 := Tryz.sizeOf227
  v85 := Tryz.zeroValue227
  t127 := Tryz.underlying246
  a127 := Tryz.isAgg246
  z127 := Tryz.sizeOf246
  v127 := Tryz.zeroValue246
  t143 := Tryz.underlying247
  a143 := Tryz.isAgg247
  z143 := Tryz.sizeOf247
  v143 := Tryz.zeroValue247
  t145 := Tryz.underlying249
  a145 := Tryz.isAgg249
  z145 := Tryz.sizeOf249
  v145 := Tryz.zeroValue249
  t167 := Tryz.underlying226
  a167 := Tryz.isAgg226
  z167 := Tryz.sizeOf226
  v167 := Tryz.zeroValue226
  t168 := Tryz.underlying229
  a168 := Tryz.isAgg229
  z168 := Tryz.sizeOf229
  v168 := Tryz.zeroValue229
  t171 := Tryz.underlying251
  a171 := Tryz.isAgg251
  z171 := Tryz.sizeOf251
  v171 := Tryz.zeroValue251
  t173 := Tryz.underlying254
  a173 := Tryz.isAgg254
  z173 := Tryz.sizeOf254
  v173 := Tryz.zeroValue254
  t175 := Tryz.underlying237
  a175 := Tryz.isAgg237
  z175 := Tryz.sizeOf237
  v175 := Tryz.zeroValue237
  t210 := Tryz.underlying241
  a210 := Tryz.isAgg241
  z210 := Tryz.sizeOf241
  v210 := Tryz.zeroValue241
  t212 := Tryz.underlying257
  a212 := Tryz.isAgg257
  z212 := Tryz.sizeOf257
  v212 := Tryz.zeroValue257
  t213 := Tryz.underlying259
  a213 := Tryz.isAgg259
  z213 := Tryz.sizeOf259
  t232 := Tryz.underlying262
  a232 := Tryz.isAgg262
  z232 := Tryz.sizeOf262
  v232 := Tryz.zeroValue262
  t233 := Tryz.underlying263
  a233 := Tryz.isAgg263
  z233 := Tryz.sizeOf263
  v233 := Tryz.zeroValue263
  g15 := by kernel_rfl
  g16 := by kernel_rfl
  g17 := by kernel_rfl
  g18 := by kernel_rfl
  g19 := by kernel_rfl
  t80 := Tryz.underlying164
  a80 := Tryz.isAgg164
  z80 := Tryz.sizeOf164
  v80 := Tryz.zeroValue164
  i0 := by kernel_rfl
  i2 := by kernel_rfl
  i3 := by kernel_rfl
  i4 := by kernel_rfl
  i5 := by kernel_rfl
  i9 := by kernel_rfl
  i20 := by kernel_rfl
  i21 := by kernel_rfl
  i37 := by kernel_rfl
  i46 := by kernel_rfl
  i51 := by kernel_rfl
  i53 := by kernel_rfl
  i75 := by kernel_rfl
  i76 := by kernel_rfl
  i80 := by kernel_rfl
  i85 := by kernel_rfl
  i127 := by kernel_rfl
  i143 := by kernel_rfl
  i145 := by kernel_rfl
  i167 := by kernel_rfl
  i168 := by kernel_rfl
  i171 := by kernel_rfl
  i173 := by kernel_rfl
  i175 := by kernel_rfl
  i210 := by kernel_rfl
  i212 := by kernel_rfl
  i232 := by kernel_rfl
  i233 := by kernel_rfl
  m15 := by kernel_rfl
  m16 := by kernel_rfl
  m17 := by kernel_rfl
  m18 := by kernel_rfl
  m19 := by kernel_rfl
  c0 := by kernel_rfl
  c2 := by kernel_rfl
  c3 := by kernel_rfl
  c4 := by kernel_rfl
  c5 := by kernel_rfl
  c9 := by kernel_rfl
  c20 := by kernel_rfl
  c21 := by kernel_rfl
  c37 := by kernel_rfl
  c46 := by kernel_rfl
  c51 := by kernel_rfl
  c53 := by kernel_rfl
  c75 := by kernel_rfl
  c76 := by kernel_rfl
  c80 := by kernel_rfl
  c85 := by kernel_rfl
  c127 := by kernel_rfl
  c143 := by kernel_rfl
  c145 := by kernel_rfl
  c167 := by kernel_rfl
  c168 := by kernel_rfl
  c171 := by kernel_rfl
  c173 := by kernel_rfl
  c175 := by kernel_rfl
  c210 := by kernel_rfl
  c212 := by kernel_rfl
  c213 := by kernel_rfl
  c232 := by kernel_rfl
  c233 := by kernel_rfl
}
theorem decF_eq : ∀ (f u : Nat), u < 10 ^ f → 0 < f → decF f u = Lib.decDigits u
  | f + 1, u, h, _ => by
    rw [decF, Lib.decDigits]
    by_cases hu : u < 10
    · rw [show Nat.blt u 10 = true from by simpa [Nat.blt, Nat.lt_iff_add_one_le] using hu, dif_pos hu]; rfl
    · rw [show Nat.blt u 10 = false from by cases hb : Nat.blt u 10 with | false => rfl | true => exact absurd (by simpa [Nat.blt, Nat.lt_iff_add_one_le] using hb) hu, dif_neg hu, cond_false]
      have hf : 0 < f := by
        rcases Nat.eq_zero_or_pos f with h0 | h0
        · subst h0; exact absurd (by simpa using h) hu
        · exact h0
      rw [decF_eq f (u / 10) (by rw [Nat.pow_succ] at h; omega) hf]
theorem itoaF_eq (n : Int) (h : -9223372036854775808 ≤ n ∧ n ≤ 9223372036854775807) : itoaF n = Lib.itoa n := by
  unfold itoaF Lib.itoa
  cases n with
  | ofNat u =>
    have : u < 10 ^ 20 := by have := h.2; simp only [Int.ofNat_eq_natCast] at this; omega
    rw [if_neg (by simp)]
    exact decF_eq 20 u this (by decide)
  | negSucc u =>
    have : u + 1 < 10 ^ 20 := by have := h.1; simp only [Int.negSucc_eq] at this; omega
    rw [if_pos (Int.negSucc_lt_zero u)]
    exact congrArg _ (decF_eq 20 (u + 1) this (by decide))
theorem itoa_h (n : Int) (h : -9223372036854775808 ≤ n ∧ n ≤ 9223372036854775807) : Holds Tryz.prog 172 [.v (.int .i64 n)] (.p (.v (.string ⟨⟨itoaF n⟩⟩))) [] :=
  .of_callsG Tryz.func172 (by kernel_rfl) rfl (fun w vs hg hl hr => by
    have hv : ∃ u, vs = [u] := by
      match vs, hl with
      | [u], _ => exact ⟨u, rfl⟩
    obtain ⟨u, rfl⟩ := hv
    have h1 := zX (hr 0 _ u rfl rfl) rfl
    subst h1
    have htab : Lib.TabIs Tryz.prog w "internal/strconv.uint64pow10" .u64 Lib.pow10Tab := by
      obtain ⟨ty, m, hb⟩ := hg 3 _ rfl
      unfold Lib.TabIs World.var?
      rw [show Tryz.prog.globalNamed "internal/strconv.uint64pow10" = some 3 from by kernel_rfl]
      simp only [Option.bind_some, hb]
      rfl
    refine (Any.strconv_Itoa laysItoa n h.1 h.2 w htab).mono fun e w' ⟨h1, k, os, h2⟩ => ⟨?_, ?_⟩
    · rw [h1, ← itoaF_eq n h]; rfl
    · subst h2
      refine ⟨rfl, rfl, rfl, by simp [Sort.grow], fun b hb => ?_⟩
      show (_ ++ os)[b]? = _
      rw [Array.getElem?_append_left (by exact hb)]; rfl) rfl fun w => .p (.v rfl)
theorem indexByte_h (s : ByteArray) (c : Int) : Holds Tryz.prog 127 [.v (.string s), .v (.int .u8 c)] (.p (.v (.int .i64 (Lib.indexByte s.data.toList c.toNat.toUInt8)))) [] :=
  .of_callsG Tryz.func127 (by kernel_rfl) rfl (fun w vs hg hl hr => by
    have hv : ∃ u v, vs = [u, v] := by
      match vs, hl with
      | [u, v], _ => exact ⟨u, v, rfl⟩
    obtain ⟨u, v, rfl⟩ := hv
    have h1 := zX (hr 0 _ u rfl rfl) rfl
    have h2 := zX (hr 1 _ v rfl rfl) rfl
    subst h1 h2
    exact (Any.strings_IndexByte laysIdx s c w).mono fun e w' ⟨h1, h2⟩ => ⟨h1, h2 ▸ Below.refl _ _⟩) rfl fun w => .p (.v rfl)
theorem atoi_h (s : ByteArray) (hs : s.size ≤ 9223372036854775806) (v : Int) (h : Lib.atoiAll s.data.toList = .ok v) : Holds Tryz.prog 147 [.v (.string s)] (.tup [.p (.v (.int .i64 v)), .p (.v .nilIface)]) [] :=
  .of_callsG Tryz.func147 (by kernel_rfl) rfl (fun w vs hg hl hr => by
    have hv : ∃ u, vs = [u] := by
      match vs, hl with
      | [u], _ => exact ⟨u, rfl⟩
    obtain ⟨u, rfl⟩ := hv
    have h1 := zX (hr 0 _ u rfl rfl) rfl
    subst h1
    refine (Any.strconv_Atoi_ok laysAtoi s hs v h w).mono fun e w' ⟨h1, h2⟩ => ⟨h1, ?_⟩
    rcases h2 with rfl | ⟨t, rfl⟩
    · exact Below.refl _ _
    · exact Lib.bytesWorld_below _ _ _) rfl fun w => .tup (us := [.int .i64 v, .nilIface]) rfl fun i s u hs hu => by
      match i, hs, hu with
      | 0, hs, hu => cases hs; cases hu; exact .p (.v rfl)
      | 1, hs, hu => cases hs; cases hu; exact .p (.v rfl)
def ctab (f : FuncId) (ps : List PV) : Option SV := bif Nat.beq f 172 then (match ps with
  | [.v (.int .i64 n)] => bif ible (-9223372036854775808) n && ible n 9223372036854775807 then some (.p (.v (.string ⟨⟨itoaF n⟩⟩))) else none
  | _ => none)
  else bif Nat.beq f 127 then (match ps with
  | [.v (.string s), .v (.int .u8 c)] => some (.p (.v (.int .i64 (Lib.indexByte s.data.toList c.toNat.toUInt8))))
  | _ => none)
  else bif Nat.beq f 147 then (match ps with
  | [.v (.string s)] => bif Nat.ble s.size 9223372036854775806 then (match Lib.atoiAll s.data.toList with
    | .ok v => some (.tup [.p (.v (.int .i64 v)), .p (.v .nilIface)])
    | _ => none) else none
  | _ => none)
  else none
theorem zU (F : List (FuncId × FnI)) : TabOk Tryz.prog ⟨TTab, F, ctab⟩ := fun f ps r h0 => by
  have h : ctab f ps = some r := h0
  clear h0
  unfold ctab at h
  cases hf : Nat.beq f 172 with
  | false =>
    rw [hf, cond_false] at h
    cases hf : Nat.beq f 127 with
    | true =>
      rw [hf, cond_true] at h
      have e := Nat.eq_of_beq_eq_true hf
      subst e
      split at h
      · cases h; exact indexByte_h _ _
      · cases h
    | false =>
      rw [hf, cond_false] at h
      cases hf : Nat.beq f 147 with
      | true =>
        rw [hf, cond_true] at h
        have e := Nat.eq_of_beq_eq_true hf
        subst e
        split at h
        · rename_i s
          cases hb : Nat.ble s.size 9223372036854775806 with
          | false => rw [hb] at h; cases h
          | true =>
            rw [hb, cond_true] at h
            split at h
            · rename_i v hv
              cases h
              exact atoi_h s (Nat.le_of_ble_eq_true hb) v hv
            · cases h
        · cases h
      | false =>
        rw [hf, cond_false] at h
        cases h
  | true =>
    rw [hf, cond_true] at h
    have e := Nat.eq_of_beq_eq_true hf
    subst e
    split at h
    · rename_i n
      cases hb : (ible (-9223372036854775808) n && ible n 9223372036854775807) with
      | false => rw [hb] at h; cases h
      | true =>
        rw [hb, cond_true] at h
        cases h
        simp only [Bool.and_eq_true] at hb
        exact itoa_h n ⟨jT hb.1, jT hb.2⟩
    · cases h
end Go.Proofs.YtppfcacnofjmdaaGreatDoor
namespace Go.Proofs.YtppfcacnofjmdaaGreatDoor
set_option linter.unusedVariables false
set_option linter.unusedSimpArgs false
open Go.RowKit
theorem qay : Holds Tryz.prog 35 [] (.p (.v (.bool true))) [] :=
  .ofW (zT (n := 5000) qe (zU _) (FnsIF_ok ctab) (by kernel_rfl) (by kernel_rfl))
end Go.Proofs.YtppfcacnofjmdaaGreatDoor
namespace Go.Proofs.YtppfcacnofjmdaaGreatDoor
set_option linter.unusedVariables false
set_option linter.unusedSimpArgs false
open Go.RowKit
set_option maxHeartbeats 4000000
def restN (g : List Giv) (ks : List Pol) (k n : Nat) : List Nat := (List.range' k n).filter (pickF g ks)
theorem pickN_rest (g : List Giv) (ks : List Pol) {k n : Nat} (h : k ≤ n) : qB g ks n = qB g ks k ++ restN g ks k (n - k) := by
  unfold qB restN
  rw [← List.filter_append]
  congr 1
  rw [List.range_eq_range', List.range_eq_range', ← show k + (n - k) = n by omega]
  rw [← List.range'_append]
  simp
theorem rest_ge {g : List Giv} {ks : List Pol} {k n x : Nat} (h : x ∈ restN g ks k n) : k ≤ x := by
  unfold restN at h
  have := (List.mem_filter.1 h).1
  rw [List.mem_range'] at this
  obtain ⟨i, hi, rfl⟩ := this
  omega
theorem restN_step (g : List Giv) (ks : List Pol) {k n : Nat} (h : k < n) : restN g ks k (n - k) = if pickF g ks k then k :: restN g ks (k + 1) (n - (k + 1)) else restN g ks (k + 1) (n - (k + 1)) := by
  obtain ⟨m, hm⟩ : ∃ m, n - k = m + 1 := ⟨n - k - 1, by omega⟩
  have e : n - (k + 1) = m := by omega
  unfold restN
  rw [hm, e, List.range'_succ, List.filter_cons]
theorem pick_at {g : List Giv} {ks : List Pol} {k n : Nat} (h : k < n) : pickF g ks k = true → ∃ h : (qB g ks k).length < (qB g ks n).length, (qB g ks n)[(qB g ks k).length] = k := by
  intro hp
  have e := pickN_rest g ks (Nat.le_of_lt h)
  rw [restN_step g ks h, if_pos hp] at e
  refine ⟨by rw [e]; simp, ?_⟩
  simp only [e]
  rw [List.getElem_append_right (Nat.le_refl _)]
  simp
theorem pick_not {g : List Giv} {ks : List Pol} {k n : Nat} (h : k < n) (hp : pickF g ks k = false) (hl : (qB g ks k).length < (qB g ks n).length) : (qB g ks n)[(qB g ks k).length] ≠ k := by
  have e := pickN_rest g ks (Nat.le_of_lt h)
  rw [restN_step g ks h, if_neg (by simp [hp])] at e
  have e2 : (qB g ks n)[(qB g ks k).length]? = (restN g ks (k + 1) (n - (k + 1)))[0]? := by
    rw [e, List.getElem?_append_right (Nat.le_refl _)]
    simp
  rw [List.getElem?_eq_getElem hl] at e2
  have hm : (qB g ks n)[(qB g ks k).length] ∈ restN g ks (k + 1) (n - (k + 1)) := List.mem_of_getElem? e2.symm
  have := rest_ge hm
  omega
theorem pickN_le (g : List Giv) (ks : List Pol) {k n : Nat} (h : k ≤ n) : (qB g ks k).length ≤ (qB g ks n).length := by
  rw [pickN_rest g ks h, List.length_append]; omega
theorem eqL_mat (x y : Mat) : ∃ b, eqL x.pv y.pv = some b ∧ (x = y → b = true) := by
  have h : eqL x.pv y.pv = some ((x.attr.cat == y.attr.cat) && ((x.attr.name.toList == y.attr.name.toList) && ((x.attr.must == y.attr.must) && ((x.op == y.op) && ((x.val.kind == y.val.kind) && ((x.val.n == y.val.n) && ((x.val.s.toList == y.val.s.toList) && true))))))) := rfl
  refine ⟨_, h, fun e => ?_⟩
  subst e
  simp
theorem opR_neM {T : TT} {K : List Nat} {st : St} {o : Op} {t t' : TypeId} {a b : Operand} (x : Mat) (ho : o = .binOp .neq t a b t') {n m : Nat} {d : Ty} {z : List Value} (ht : lk t T = some ⟨n, m, d, z, true⟩) (ha : evS st a = some (.p (.agg x.pv))) (hb : evS st b = some (.p (.agg x.pv))) : opR T K st o = some (zm x.pv z = true, .p (pB false)) := by
  subst ho
  show rBin T .neq t (evS st a) (evS st b) = _
  rw [ha, hb]
  obtain ⟨b, h1, h2⟩ := eqL_mat x x
  unfold rBin
  simp only [ht, h1, h2 rfl]
  rfl
theorem indexKeys_h {n : Nat} (p : Pol) (hf : PolF n p) (g : List Giv) (hg : ∀ x ∈ g, x.Fit) : Holds Tryz.prog 12 [.agg (polP p), zP g] (.p (pB true)) [] := by
  have hS := small_h p hf
  rw [zf] at hS ⊢
  obtain ⟨id, set, al, tg, rules, ks, obls⟩ := p
  have l2 : ((ks.map polP).length) = ks.length := by simp
  refine qA (ts := [4]) Tryz.func12 (by kernel_rfl) rfl rfl rfl ?_
  (repeat refine qb ?_); refine qa ?_
  repeat (first | refine zR ?_ | refine zK ?_ | refine zM ?_ | refine zB ?_ | refine zA ?_ | refine zS ?_ | refine zL ?_)
  refine qc ?_
  (repeat refine qb ?_); refine qa ?_
  repeat (first | refine zR ?_ | refine zK ?_ | refine zM ?_ | refine zB ?_ | refine zA ?_ | refine zS ?_ | refine zL ?_)
  refine qn rfl (act_call_E rfl rfl rfl rfl (hS) rfl ?_)
  rintro _ ⟨b1, rfl, h1⟩
  cases b1 with
  | false =>
    repeat (first | refine zR ?_ | refine zK ?_ | refine zM ?_ | refine zB ?_ | refine zA ?_ | refine zS ?_ | refine zL ?_)
    refine qc ?_
    (repeat refine qb ?_); refine qf rfl (fun hc => ?_) (fun hc => ?_)
    · (repeat refine qb ?_); refine qa ?_
      repeat (first | refine zR ?_ | refine zK ?_ | refine zM ?_ | refine zB ?_ | refine zA ?_ | refine zS ?_ | refine zL ?_)
      refine qn rfl (qg rfl rfl rfl rfl (qay) rfl rfl ?_)
      repeat (first | refine zR ?_ | refine zK ?_ | refine zM ?_ | refine zB ?_ | refine zA ?_ | refine zS ?_ | refine zL ?_)
      refine qc ?_
      (repeat refine qb ?_); refine qk ?_
      exact wS rfl rfl
    · cases hc
  | true =>
    repeat (first | refine zR ?_ | refine zK ?_ | refine zM ?_ | refine zB ?_ | refine zA ?_ | refine zS ?_ | refine zL ?_)
    refine qn rfl (act_call_E rfl rfl rfl rfl (few_h g hg) rfl ?_)
    rintro _ ⟨b2, rfl, h2⟩
    cases b2 with
    | false =>
      repeat (first | refine zR ?_ | refine zK ?_ | refine zM ?_ | refine zB ?_ | refine zA ?_ | refine zS ?_ | refine zL ?_)
      refine qc ?_
      (repeat refine qb ?_); refine qf rfl (fun hc => ?_) (fun hc => ?_)
      · (repeat refine qb ?_); refine qa ?_
        repeat (first | refine zR ?_ | refine zK ?_ | refine zM ?_ | refine zB ?_ | refine zA ?_ | refine zS ?_ | refine zL ?_)
        refine qn rfl (qg rfl rfl rfl rfl (qay) rfl rfl ?_)
        repeat (first | refine zR ?_ | refine zK ?_ | refine zM ?_ | refine zB ?_ | refine zA ?_ | refine zS ?_ | refine zL ?_)
        refine qc ?_
        (repeat refine qb ?_); refine qk ?_
        exact wS rfl rfl
      · cases hc
    | true =>
      repeat (first | refine zR ?_ | refine zK ?_ | refine zM ?_ | refine zB ?_ | refine zA ?_ | refine zS ?_ | refine zL ?_)
      refine qc ?_
      (repeat refine qb ?_); refine qf rfl (fun hc => ?_) (fun hc => ?_)
      · cases hc
      refine qm ?_
      have hsz := h1 rfl
      have hG := givOk_of hg (h2 rfl)
      obtain ⟨htg, _, hkl, _, _, hks⟩ := sz_facts hsz (Nat.le_refl _)
      simp only [Pol.target, Pol.kids] at htg hkl hks
      have hsm : ∀ {t : Tar}, TarL t → TarSm t := fun h => ⟨by have := h.1; omega, fun x hx => ⟨by have := (h.2 x hx).1; omega, fun y hy => by have := (h.2 x hx).2 y hy; omega⟩⟩
      have htf : TarFit tg := (polF_fit 1 hf).1.tgt
      have hkf : ∀ k ∈ ks, TarFit k.target ∧ TarSm k.target := fun k hk => ⟨((polF_fit 2 hf).2 k hk).1.tgt, hsm (sz_facts (hks k hk) (Nat.le_refl _)).1⟩
      have hP := (pick_h ks g hG (by omega) hkf).row_sl
      have hK := key_h tg (hsm htg)
      have hM := match2_h (keyR tg).1 g (keyR_fit htf) hG.fit hG.len hG.bags
      have hT := metT_h tg g htf (hsm htg) hG.fit hG.len hG.bags
      have hkey : (keyR tg).2 = true → (keyR tg).1.op = 1 ∧ (keyR tg).1.attr.must = false ∧ (qax (keyR tg).1 g = 0 → metT tg g = 0) := by
        unfold keyR
        cases h : keyS tg with
        | none => intro h; cases h
        | some m =>
          intro _
          obtain ⟨a, b, _⟩ := keyS_of h
          exact ⟨a, b, fun h0 => key_met h h0⟩
      have hnone : (keyR tg).2 = false → (keyR tg).1 = m0 := by
        unfold keyR
        cases h : keyS tg with
        | none => intro _; rfl
        | some m => intro h; cases h
      generalize keyR tg = r at *
      obtain ⟨m, b⟩ := r
      simp only at hM hkey hnone
      obtain ⟨⟨ac, an, am⟩, mo, ⟨vk, vn, vs⟩⟩ := m
      obtain ⟨L, hL⟩ : ∃ L, L = qB g ks ks.length := ⟨_, rfl⟩
      rw [← hL] at hP
      simp only [natsP] at hP
      have lL : ((L.map fun (i : Nat) => [pI (i : Int)]).length) = L.length := by simp
      have hLl : L.length ≤ ks.length := by rw [hL]; exact pickN_len _ _ _
      refine SW.wk (qq [1, 2] [(2, 2)] rfl rfl) ?_
      (repeat refine qb ?_); refine qa ?_
      repeat (first | refine zR ?_ | refine zK ?_ | refine zM ?_ | refine zB ?_ | refine zA ?_ | refine zS ?_ | refine zL ?_)
      refine qn rfl (qD rfl rfl rfl rfl (hK) rfl rfl rfl ?_)
      repeat (first | refine zR ?_ | refine zK ?_ | refine zM ?_ | refine zB ?_ | refine zA ?_ | refine zS ?_ | refine zL ?_)
      refine qc ?_
      cases b with
      | true =>
        obtain ⟨hop, hmust, himp⟩ := hkey rfl
        simp only at hop hmust
        subst hop hmust
        (repeat refine qb ?_); refine qa ?_
        repeat (first | refine zR ?_ | refine zK ?_ | refine zM ?_ | refine zB ?_ | refine zA ?_ | refine zS ?_ | refine zL ?_)
        refine qn rfl (qg rfl rfl rfl rfl (hM) rfl rfl ?_)
        repeat (first | refine zR ?_ | refine zK ?_ | refine zM ?_ | refine zB ?_ | refine zA ?_ | refine zS ?_ | refine zL ?_)
        by_cases h0 : qax ⟨⟨ac, an, false⟩, 1, ⟨vk, vn, vs⟩⟩ g = 0
        · rw [himp h0] at hT
          rw [show (qax ⟨⟨ac, an, false⟩, 1, ⟨vk, vn, vs⟩⟩ g == 0) = true by simpa using h0]
          repeat (first | refine zR ?_ | refine zK ?_ | refine zM ?_ | refine zB ?_ | refine zA ?_ | refine zS ?_ | refine zL ?_)
          refine qn rfl (qg rfl rfl rfl rfl (hT) rfl rfl ?_)
          repeat (first | refine zR ?_ | refine zK ?_ | refine zM ?_ | refine zB ?_ | refine zA ?_ | refine zS ?_ | refine zL ?_)
          refine qc ?_
          (repeat refine qb ?_); refine qf rfl (fun hq => ?_) (fun hq => ?_)
          · cases hq
          refine qm ?_
          refine SW.wk (qq [1, 2] [(2, 2)] rfl rfl) ?_
          change SW _ _ _ ⟨109, [(1, .p (zP g)), (2, .ptr 2 0)], [(2, .cells [.p (pS id), .p (pB set), .p (pI al), .p (tgtP tg), .p (.sl 5 (rules.map zt)), .p (.sl 7 (ks.map polP)), .p (zQ obls)])]⟩
          (repeat refine qb ?_); refine qa ?_
          repeat (first | refine zR ?_ | refine zK ?_ | refine zM ?_ | refine zB ?_ | refine zA ?_ | refine zS ?_ | refine zL ?_)
          refine qn rfl (qD rfl rfl rfl rfl (hP) rfl rfl rfl ?_)
          repeat (first | refine zR ?_ | refine zK ?_ | refine zM ?_ | refine zB ?_ | refine zA ?_ | refine zS ?_ | refine zL ?_)
          refine qc ?_
          (repeat refine qb ?_); refine qa ?_
          repeat (first | refine zR ?_ | refine zK ?_ | refine zM ?_ | refine zB ?_ | refine zA ?_ | refine zS ?_ | refine zL ?_)
          refine qc ?_
          (repeat refine qb ?_); refine qa ?_
          repeat (first | refine zR ?_ | refine zK ?_ | refine zM ?_ | refine zB ?_ | refine zA ?_ | refine zS ?_ | refine zL ?_)
          refine qc ?_
          (repeat refine qb ?_); refine ql ?_
          refine SW.wk (qq [2, 7, 8, 67, 68, 69] [(2, 2)] rfl rfl) ?_
          refine qO (fun m s => ∃ (k : Nat) (kk at_ : Int), k ≤ ks.length ∧ m = ks.length - k ∧ kk = k ∧ at_ = ((qB g ks k).length : Int) ∧ s = ⟨109, [(2, .ptr 2 0), (7, .p (.sl 1 (L.map fun (i : Nat) => [pI (i : Int)]))), (8, .p (pI at_)), (67, .p (.sl 7 (ks.map polP))), (68, .p (pI (ks.map polP).length)), (69, .p (pI kk))], [(2, .cells [.p (pS id), .p (pB set), .p (pI al), .p (tgtP tg), .p (.sl 5 (rules.map zt)), .p (.sl 7 (ks.map polP)), .p (zQ obls)])]⟩) ks.length ⟨0, 0, 0, Nat.zero_le _, rfl, rfl, rfl, rfl⟩ ?_
          rintro m s ⟨k, _, _, hk', rfl, rfl, rfl, rfl⟩
          (repeat refine qb ?_); refine qa ?_
          repeat (first | refine zR ?_ | refine zK ?_ | refine zM ?_ | refine zB ?_ | refine zA ?_ | refine zS ?_ | refine zL ?_)
          refine qc ?_
          (repeat refine qb ?_); refine qf rfl (fun hlt => ?_) (fun hlt => ?_)
          · refine qm ?_
            rw [l2] at hlt
            simp only [decide_eq_true_eq] at hlt
            have hlt' : k < ks.length := by omega
            have hKk := key_h ks[k].target (hkf _ (List.getElem_mem hlt')).2
            have hpk := pick_key g ks[k]
            have hpf := pickF_at (g := g) hlt'
            have hsucc := pickN_succ g ks k
            have hat := pick_at (g := g) (ks := ks) hlt'
            have hno := pick_not (g := g) (ks := ks) hlt'
            have hle := pickN_le g ks (Nat.le_of_lt hlt')
            have hpl := pickN_len g ks k
            rw [← hpf] at hpk
            simp only [← hL] at hat hno hle
            obtain ⟨x, hx⟩ : ∃ x, x = ks[k] := ⟨_, rfl⟩
            rw [← hx] at hKk hpk
            (repeat refine qb ?_); refine ql ?_
            (repeat refine qb ?_); refine qa ?_
            repeat (first | refine zR ?_ | refine zK ?_ | refine zM ?_ | refine zB ?_ | refine zA ?_ | refine zS ?_ | refine zL ?_)
            refine qw qe rfl rfl (by rw [l2]; omega) rfl ?_
            rw [qJ hlt', ← hx, zf]
            repeat (first | refine zR ?_ | refine zK ?_ | refine zM ?_ | refine zB ?_ | refine zA ?_ | refine zS ?_ | refine zL ?_)
            refine qc ?_
            (repeat refine qb ?_); refine qa ?_
            repeat (first | refine zR ?_ | refine zK ?_ | refine zM ?_ | refine zB ?_ | refine zA ?_ | refine zS ?_ | refine zL ?_)
            refine qn rfl (qD rfl rfl rfl rfl (hKk) rfl rfl rfl ?_)
            repeat (first | refine zR ?_ | refine zK ?_ | refine zM ?_ | refine zB ?_ | refine zA ?_ | refine zS ?_ | refine zL ?_)
            refine qc ?_
            refine SW.wk (qq [2, 7, 8, 9, 12, 67, 68, 69] [(2, 2)] rfl rfl) ?_
            generalize keyR x.target = r at *
            obtain ⟨rm, rb⟩ := r
            simp only at hpk
            generalize ha0 : (qB g ks k).length = a at *
            (repeat refine qb ?_); refine qa ?_
            repeat (first | refine zR ?_ | refine zK ?_ | refine zM ?_ | refine zB ?_ | refine zA ?_ | refine zS ?_ | refine zL ?_)
            rw [lL]
            cases hf : pickF g ks k with
            | true =>
              rw [hf, if_pos rfl] at hsucc
              obtain ⟨ha, hget⟩ := hat hf
              rw [show decide ((a : Int) < (L.length : Int)) = true by simp; omega]
              repeat (first | refine zR ?_ | refine zK ?_ | refine zM ?_ | refine zB ?_ | refine zA ?_ | refine zS ?_ | refine zL ?_)
              refine qw qe rfl rfl (by rw [lL]; omega) rfl ?_
              rw [qJ ha, hget]
              repeat (first | refine zR ?_ | refine zK ?_ | refine zM ?_ | refine zB ?_ | refine zA ?_ | refine zS ?_ | refine zL ?_)
              rw [show ((k : Int) == (k : Int)) = true by simp]
              repeat (first | refine zR ?_ | refine zK ?_ | refine zM ?_ | refine zB ?_ | refine zA ?_ | refine zS ?_ | refine zL ?_)
              refine qc ?_
              (repeat refine qb ?_); refine qa ?_
              repeat (first | refine zR ?_ | refine zK ?_ | refine zM ?_ | refine zB ?_ | refine zA ?_ | refine zS ?_ | refine zL ?_)
              refine qc ?_
              (repeat refine qb ?_); refine qf rfl (fun hi => ?_) (fun hi => ?_)
              · (repeat refine qb ?_); refine qa ?_
                repeat (first | refine zR ?_ | refine zK ?_ | refine zM ?_ | refine zB ?_ | refine zA ?_ | refine zS ?_ | refine zL ?_)
                refine qc ?_
                cases rb with
                | true =>
                  (repeat refine qb ?_); refine qa ?_
                  repeat (first | refine zR ?_ | refine zK ?_ | refine zM ?_ | refine zB ?_ | refine zA ?_ | refine zS ?_ | refine zL ?_)
                  refine qc ?_
                  (repeat refine qb ?_); refine qf rfl (fun hz => ?_) (fun hz => ?_)
                  · cases hz
                  refine qm ?_
                  (repeat refine qb ?_); refine qa ?_
                  repeat (first | refine zR ?_ | refine zK ?_ | refine zM ?_ | refine zB ?_ | refine zA ?_ | refine zS ?_ | refine zL ?_)
                  refine qc ?_
                  refine ⟨_, _, ?_, qq [2, 7, 8, 67, 68, 69] [(2, 2)] rfl rfl, k + 1, _, _, hlt', rfl, qz hlt' (by omega), ?_, rfl⟩
                  · omega
                  · rw [hsucc, List.length_append, ha0, IntWalk.i64_in _ (by omega)]; rfl
                | false =>
                  (repeat refine qb ?_); refine qa ?_
                  repeat (first | refine zR ?_ | refine zK ?_ | refine zM ?_ | refine zB ?_ | refine zA ?_ | refine zS ?_ | refine zL ?_)
                  refine qc ?_
                  (repeat refine qb ?_); refine qf rfl (fun hz => ?_) (fun hz => ?_)
                  · cases hz
                  refine qm ?_
                  (repeat refine qb ?_); refine qa ?_
                  repeat (first | refine zR ?_ | refine zK ?_ | refine zM ?_ | refine zB ?_ | refine zA ?_ | refine zS ?_ | refine zL ?_)
                  refine qc ?_
                  refine ⟨_, _, ?_, qq [2, 7, 8, 67, 68, 69] [(2, 2)] rfl rfl, k + 1, _, _, hlt', rfl, qz hlt' (by omega), ?_, rfl⟩
                  · omega
                  · rw [hsucc, List.length_append, ha0, IntWalk.i64_in _ (by omega)]; rfl
              · cases hi
            | false =>
              rw [hf, if_neg (by simp)] at hsucc
              rw [hf] at hpk
              have hrb : rb = true := by
                cases rb with
                | true => rfl
                | false => simp at hpk
              subst hrb
              by_cases ha : a < L.length
              · have hget := hno hf ha
                rw [show decide ((a : Int) < (L.length : Int)) = true by simp; omega]
                repeat (first | refine zR ?_ | refine zK ?_ | refine zM ?_ | refine zB ?_ | refine zA ?_ | refine zS ?_ | refine zL ?_)
                refine qw qe rfl rfl (by rw [lL]; omega) rfl ?_
                rw [qJ ha]
                repeat (first | refine zR ?_ | refine zK ?_ | refine zM ?_ | refine zB ?_ | refine zA ?_ | refine zS ?_ | refine zL ?_)
                rw [show ((L[a] : Int) == (k : Int)) = false by simp; omega]
                repeat (first | refine zR ?_ | refine zK ?_ | refine zM ?_ | refine zB ?_ | refine zA ?_ | refine zS ?_ | refine zL ?_)
                refine qc ?_
                (repeat refine qb ?_); refine qa ?_
                repeat (first | refine zR ?_ | refine zK ?_ | refine zM ?_ | refine zB ?_ | refine zA ?_ | refine zS ?_ | refine zL ?_)
                refine qc ?_
                (repeat refine qb ?_); refine qf rfl (fun hi => ?_) (fun hi => ?_)
                · cases hi
                refine qm ?_
                (repeat refine qb ?_); refine qa ?_
                repeat (first | refine zR ?_ | refine zK ?_ | refine zM ?_ | refine zB ?_ | refine zA ?_ | refine zS ?_ | refine zL ?_)
                refine qc ?_
                (repeat refine qb ?_); refine qf rfl (fun hz => ?_) (fun hz => ?_)
                · cases hz
                refine qm ?_
                (repeat refine qb ?_); refine qa ?_
                repeat (first | refine zR ?_ | refine zK ?_ | refine zM ?_ | refine zB ?_ | refine zA ?_ | refine zS ?_ | refine zL ?_)
                refine qc ?_
                refine ⟨_, _, ?_, qq [2, 7, 8, 67, 68, 69] [(2, 2)] rfl rfl, k + 1, _, _, hlt', rfl, qz hlt' (by omega), ?_, rfl⟩
                · omega
                · rw [hsucc, ha0]
              · rw [show decide ((a : Int) < (L.length : Int)) = false by simp; omega]
                repeat (first | refine zR ?_ | refine zK ?_ | refine zM ?_ | refine zB ?_ | refine zA ?_ | refine zS ?_ | refine zL ?_)
                refine qc ?_
                (repeat refine qb ?_); refine qa ?_
                repeat (first | refine zR ?_ | refine zK ?_ | refine zM ?_ | refine zB ?_ | refine zA ?_ | refine zS ?_ | refine zL ?_)
                refine qc ?_
                (repeat refine qb ?_); refine qf rfl (fun hi => ?_) (fun hi => ?_)
                · cases hi
                refine qm ?_
                (repeat refine qb ?_); refine qa ?_
                repeat (first | refine zR ?_ | refine zK ?_ | refine zM ?_ | refine zB ?_ | refine zA ?_ | refine zS ?_ | refine zL ?_)
                refine qc ?_
                (repeat refine qb ?_); refine qf rfl (fun hz => ?_) (fun hz => ?_)
                · cases hz
                refine qm ?_
                (repeat refine qb ?_); refine qa ?_
                repeat (first | refine zR ?_ | refine zK ?_ | refine zM ?_ | refine zB ?_ | refine zA ?_ | refine zS ?_ | refine zL ?_)
                refine qc ?_
                refine ⟨_, _, ?_, qq [2, 7, 8, 67, 68, 69] [(2, 2)] rfl rfl, k + 1, _, _, hlt', rfl, qz hlt' (by omega), ?_, rfl⟩
                · omega
                · rw [hsucc, ha0]
          · refine qK ?_
            rw [l2] at hlt
            simp only [decide_eq_false_iff_not] at hlt
            have hkk : k = ks.length := by omega
            subst hkk
            rw [← hL]
            (repeat refine qb ?_); refine qa ?_
            repeat (first | refine zR ?_ | refine zK ?_ | refine zM ?_ | refine zB ?_ | refine zA ?_ | refine zS ?_ | refine zL ?_)
            rw [lL, show ((L.length : Int) == (L.length : Int)) = true by simp]
            repeat (first | refine zR ?_ | refine zK ?_ | refine zM ?_ | refine zB ?_ | refine zA ?_ | refine zS ?_ | refine zL ?_)
            refine qn rfl (qg rfl rfl rfl rfl (qay) rfl rfl ?_)
            repeat (first | refine zR ?_ | refine zK ?_ | refine zM ?_ | refine zB ?_ | refine zA ?_ | refine zS ?_ | refine zL ?_)
            refine qc ?_
            (repeat refine qb ?_); refine qk ?_
            exact wS rfl rfl
        · rw [show (qax ⟨⟨ac, an, false⟩, 1, ⟨vk, vn, vs⟩⟩ g == 0) = false by simpa using h0]
          repeat (first | refine zR ?_ | refine zK ?_ | refine zM ?_ | refine zB ?_ | refine zA ?_ | refine zS ?_ | refine zL ?_)
          refine qc ?_
          (repeat refine qb ?_); refine qf rfl (fun hq => ?_) (fun hq => ?_)
          · cases hq
          refine qm ?_
          refine SW.wk (qq [1, 2] [(2, 2)] rfl rfl) ?_
          change SW _ _ _ ⟨109, [(1, .p (zP g)), (2, .ptr 2 0)], [(2, .cells [.p (pS id), .p (pB set), .p (pI al), .p (tgtP tg), .p (.sl 5 (rules.map zt)), .p (.sl 7 (ks.map polP)), .p (zQ obls)])]⟩
          (repeat refine qb ?_); refine qa ?_
          repeat (first | refine zR ?_ | refine zK ?_ | refine zM ?_ | refine zB ?_ | refine zA ?_ | refine zS ?_ | refine zL ?_)
          refine qn rfl (qD rfl rfl rfl rfl (hP) rfl rfl rfl ?_)
          repeat (first | refine zR ?_ | refine zK ?_ | refine zM ?_ | refine zB ?_ | refine zA ?_ | refine zS ?_ | refine zL ?_)
          refine qc ?_
          (repeat refine qb ?_); refine qa ?_
          repeat (first | refine zR ?_ | refine zK ?_ | refine zM ?_ | refine zB ?_ | refine zA ?_ | refine zS ?_ | refine zL ?_)
          refine qc ?_
          (repeat refine qb ?_); refine qa ?_
          repeat (first | refine zR ?_ | refine zK ?_ | refine zM ?_ | refine zB ?_ | refine zA ?_ | refine zS ?_ | refine zL ?_)
          refine qc ?_
          (repeat refine qb ?_); refine ql ?_
          refine SW.wk (qq [2, 7, 8, 67, 68, 69] [(2, 2)] rfl rfl) ?_
          refine qO (fun m s => ∃ (k : Nat) (kk at_ : Int), k ≤ ks.length ∧ m = ks.length - k ∧ kk = k ∧ at_ = ((qB g ks k).length : Int) ∧ s = ⟨109, [(2, .ptr 2 0), (7, .p (.sl 1 (L.map fun (i : Nat) => [pI (i : Int)]))), (8, .p (pI at_)), (67, .p (.sl 7 (ks.map polP))), (68, .p (pI (ks.map polP).length)), (69, .p (pI kk))], [(2, .cells [.p (pS id), .p (pB set), .p (pI al), .p (tgtP tg), .p (.sl 5 (rules.map zt)), .p (.sl 7 (ks.map polP)), .p (zQ obls)])]⟩) ks.length ⟨0, 0, 0, Nat.zero_le _, rfl, rfl, rfl, rfl⟩ ?_
          rintro m s ⟨k, _, _, hk', rfl, rfl, rfl, rfl⟩
          (repeat refine qb ?_); refine qa ?_
          repeat (first | refine zR ?_ | refine zK ?_ | refine zM ?_ | refine zB ?_ | refine zA ?_ | refine zS ?_ | refine zL ?_)
          refine qc ?_
          (repeat refine qb ?_); refine qf rfl (fun hlt => ?_) (fun hlt => ?_)
          · refine qm ?_
            rw [l2] at hlt
            simp only [decide_eq_true_eq] at hlt
            have hlt' : k < ks.length := by omega
            have hKk := key_h ks[k].target (hkf _ (List.getElem_mem hlt')).2
            have hpk := pick_key g ks[k]
            have hpf := pickF_at (g := g) hlt'
            have hsucc := pickN_succ g ks k
            have hat := pick_at (g := g) (ks := ks) hlt'
            have hno := pick_not (g := g) (ks := ks) hlt'
            have hle := pickN_le g ks (Nat.le_of_lt hlt')
            have hpl := pickN_len g ks k
            rw [← hpf] at hpk
            simp only [← hL] at hat hno hle
            obtain ⟨x, hx⟩ : ∃ x, x = ks[k] := ⟨_, rfl⟩
            rw [← hx] at hKk hpk
            (repeat refine qb ?_); refine ql ?_
            (repeat refine qb ?_); refine qa ?_
            repeat (first | refine zR ?_ | refine zK ?_ | refine zM ?_ | refine zB ?_ | refine zA ?_ | refine zS ?_ | refine zL ?_)
            refine qw qe rfl rfl (by rw [l2]; omega) rfl ?_
            rw [qJ hlt', ← hx, zf]
            repeat (first | refine zR ?_ | refine zK ?_ | refine zM ?_ | refine zB ?_ | refine zA ?_ | refine zS ?_ | refine zL ?_)
            refine qc ?_
            (repeat refine qb ?_); refine qa ?_
            repeat (first | refine zR ?_ | refine zK ?_ | refine zM ?_ | refine zB ?_ | refine zA ?_ | refine zS ?_ | refine zL ?_)
            refine qn rfl (qD rfl rfl rfl rfl (hKk) rfl rfl rfl ?_)
            repeat (first | refine zR ?_ | refine zK ?_ | refine zM ?_ | refine zB ?_ | refine zA ?_ | refine zS ?_ | refine zL ?_)
            refine qc ?_
            refine SW.wk (qq [2, 7, 8, 9, 12, 67, 68, 69] [(2, 2)] rfl rfl) ?_
            generalize keyR x.target = r at *
            obtain ⟨rm, rb⟩ := r
            simp only at hpk
            generalize ha0 : (qB g ks k).length = a at *
            (repeat refine qb ?_); refine qa ?_
            repeat (first | refine zR ?_ | refine zK ?_ | refine zM ?_ | refine zB ?_ | refine zA ?_ | refine zS ?_ | refine zL ?_)
            rw [lL]
            cases hf : pickF g ks k with
            | true =>
              rw [hf, if_pos rfl] at hsucc
              obtain ⟨ha, hget⟩ := hat hf
              rw [show decide ((a : Int) < (L.length : Int)) = true by simp; omega]
              repeat (first | refine zR ?_ | refine zK ?_ | refine zM ?_ | refine zB ?_ | refine zA ?_ | refine zS ?_ | refine zL ?_)
              refine qw qe rfl rfl (by rw [lL]; omega) rfl ?_
              rw [qJ ha, hget]
              repeat (first | refine zR ?_ | refine zK ?_ | refine zM ?_ | refine zB ?_ | refine zA ?_ | refine zS ?_ | refine zL ?_)
              rw [show ((k : Int) == (k : Int)) = true by simp]
              repeat (first | refine zR ?_ | refine zK ?_ | refine zM ?_ | refine zB ?_ | refine zA ?_ | refine zS ?_ | refine zL ?_)
              refine qc ?_
              (repeat refine qb ?_); refine qa ?_
              repeat (first | refine zR ?_ | refine zK ?_ | refine zM ?_ | refine zB ?_ | refine zA ?_ | refine zS ?_ | refine zL ?_)
              refine qc ?_
              (repeat refine qb ?_); refine qf rfl (fun hi => ?_) (fun hi => ?_)
              · (repeat refine qb ?_); refine qa ?_
                repeat (first | refine zR ?_ | refine zK ?_ | refine zM ?_ | refine zB ?_ | refine zA ?_ | refine zS ?_ | refine zL ?_)
                refine qc ?_
                cases rb with
                | true =>
                  (repeat refine qb ?_); refine qa ?_
                  repeat (first | refine zR ?_ | refine zK ?_ | refine zM ?_ | refine zB ?_ | refine zA ?_ | refine zS ?_ | refine zL ?_)
                  refine qc ?_
                  (repeat refine qb ?_); refine qf rfl (fun hz => ?_) (fun hz => ?_)
                  · cases hz
                  refine qm ?_
                  (repeat refine qb ?_); refine qa ?_
                  repeat (first | refine zR ?_ | refine zK ?_ | refine zM ?_ | refine zB ?_ | refine zA ?_ | refine zS ?_ | refine zL ?_)
                  refine qc ?_
                  refine ⟨_, _, ?_, qq [2, 7, 8, 67, 68, 69] [(2, 2)] rfl rfl, k + 1, _, _, hlt', rfl, qz hlt' (by omega), ?_, rfl⟩
                  · omega
                  · rw [hsucc, List.length_append, ha0, IntWalk.i64_in _ (by omega)]; rfl
                | false =>
                  (repeat refine qb ?_); refine qa ?_
                  repeat (first | refine zR ?_ | refine zK ?_ | refine zM ?_ | refine zB ?_ | refine zA ?_ | refine zS ?_ | refine zL ?_)
                  refine qc ?_
                  (repeat refine qb ?_); refine qf rfl (fun hz => ?_) (fun hz => ?_)
                  · cases hz
                  refine qm ?_
                  (repeat refine qb ?_); refine qa ?_
                  repeat (first | refine zR ?_ | refine zK ?_ | refine zM ?_ | refine zB ?_ | refine zA ?_ | refine zS ?_ | refine zL ?_)
                  refine qc ?_
                  refine ⟨_, _, ?_, qq [2, 7, 8, 67, 68, 69] [(2, 2)] rfl rfl, k + 1, _, _, hlt', rfl, qz hlt' (by omega), ?_, rfl⟩
                  · omega
                  · rw [hsucc, List.length_append, ha0, IntWalk.i64_in _ (by omega)]; rfl
              · cases hi
            | false =>
              rw [hf, if_neg (by simp)] at hsucc
              rw [hf] at hpk
              have hrb : rb = true := by
                cases rb with
                | true => rfl
                | false => simp at hpk
              subst hrb
              by_cases ha : a < L.length
              · have hget := hno hf ha
                rw [show decide ((a : Int) < (L.length : Int)) = true by simp; omega]
                repeat (first | refine zR ?_ | refine zK ?_ | refine zM ?_ | refine zB ?_ | refine zA ?_ | refine zS ?_ | refine zL ?_)
                refine qw qe rfl rfl (by rw [lL]; omega) rfl ?_
                rw [qJ ha]
                repeat (first | refine zR ?_ | refine zK ?_ | refine zM ?_ | refine zB ?_ | refine zA ?_ | refine zS ?_ | refine zL ?_)
                rw [show ((L[a] : Int) == (k : Int)) = false by simp; omega]
                repeat (first | refine zR ?_ | refine zK ?_ | refine zM ?_ | refine zB ?_ | refine zA ?_ | refine zS ?_ | refine zL ?_)
                refine qc ?_
                (repeat refine qb ?_); refine qa ?_
                repeat (first | refine zR ?_ | refine zK ?_ | refine zM ?_ | refine zB ?_ | refine zA ?_ | refine zS ?_ | refine zL ?_)
                refine qc ?_
                (repeat refine qb ?_); refine qf rfl (fun hi => ?_) (fun hi => ?_)
                · cases hi
                refine qm ?_
                (repeat refine qb ?_); refine qa ?_
                repeat (first | refine zR ?_ | refine zK ?_ | refine zM ?_ | refine zB ?_ | refine zA ?_ | refine zS ?_ | refine zL ?_)
                refine qc ?_
                (repeat refine qb ?_); refine qf rfl (fun hz => ?_) (fun hz => ?_)
                · cases hz
                refine qm ?_
                (repeat refine qb ?_); refine qa ?_
                repeat (first | refine zR ?_ | refine zK ?_ | refine zM ?_ | refine zB ?_ | refine zA ?_ | refine zS ?_ | refine zL ?_)
                refine qc ?_
                refine ⟨_, _, ?_, qq [2, 7, 8, 67, 68, 69] [(2, 2)] rfl rfl, k + 1, _, _, hlt', rfl, qz hlt' (by omega), ?_, rfl⟩
                · omega
                · rw [hsucc, ha0]
              · rw [show decide ((a : Int) < (L.length : Int)) = false by simp; omega]
                repeat (first | refine zR ?_ | refine zK ?_ | refine zM ?_ | refine zB ?_ | refine zA ?_ | refine zS ?_ | refine zL ?_)
                refine qc ?_
                (repeat refine qb ?_); refine qa ?_
                repeat (first | refine zR ?_ | refine zK ?_ | refine zM ?_ | refine zB ?_ | refine zA ?_ | refine zS ?_ | refine zL ?_)
                refine qc ?_
                (repeat refine qb ?_); refine qf rfl (fun hi => ?_) (fun hi => ?_)
                · cases hi
                refine qm ?_
                (repeat refine qb ?_); refine qa ?_
                repeat (first | refine zR ?_ | refine zK ?_ | refine zM ?_ | refine zB ?_ | refine zA ?_ | refine zS ?_ | refine zL ?_)
                refine qc ?_
                (repeat refine qb ?_); refine qf rfl (fun hz => ?_) (fun hz => ?_)
                · cases hz
                refine qm ?_
                (repeat refine qb ?_); refine qa ?_
                repeat (first | refine zR ?_ | refine zK ?_ | refine zM ?_ | refine zB ?_ | refine zA ?_ | refine zS ?_ | refine zL ?_)
                refine qc ?_
                refine ⟨_, _, ?_, qq [2, 7, 8, 67, 68, 69] [(2, 2)] rfl rfl, k + 1, _, _, hlt', rfl, qz hlt' (by omega), ?_, rfl⟩
                · omega
                · rw [hsucc, ha0]
          · refine qK ?_
            rw [l2] at hlt
            simp only [decide_eq_false_iff_not] at hlt
            have hkk : k = ks.length := by omega
            subst hkk
            rw [← hL]
            (repeat refine qb ?_); refine qa ?_
            repeat (first | refine zR ?_ | refine zK ?_ | refine zM ?_ | refine zB ?_ | refine zA ?_ | refine zS ?_ | refine zL ?_)
            rw [lL, show ((L.length : Int) == (L.length : Int)) = true by simp]
            repeat (first | refine zR ?_ | refine zK ?_ | refine zM ?_ | refine zB ?_ | refine zA ?_ | refine zS ?_ | refine zL ?_)
            refine qn rfl (qg rfl rfl rfl rfl (qay) rfl rfl ?_)
            repeat (first | refine zR ?_ | refine zK ?_ | refine zM ?_ | refine zB ?_ | refine zA ?_ | refine zS ?_ | refine zL ?_)
            refine qc ?_
            (repeat refine qb ?_); refine qk ?_
            exact wS rfl rfl
      | false =>
        have hm0 := hnone rfl
        simp only [m0, Mat.mk.injEq, Atr.mk.injEq, Val.mk.injEq] at hm0
        obtain ⟨⟨rfl, rfl, rfl⟩, rfl, ⟨rfl, rfl, rfl⟩⟩ := hm0
        (repeat refine qb ?_); refine qa ?_
        repeat (first | refine zR ?_ | refine zK ?_ | refine zM ?_ | refine zB ?_ | refine zA ?_ | refine zS ?_ | refine zL ?_)
        refine qw qe rfl (opR_neM m0 rfl rfl rfl rfl) rfl rfl ?_
        repeat (first | refine zR ?_ | refine zK ?_ | refine zM ?_ | refine zB ?_ | refine zA ?_ | refine zS ?_ | refine zL ?_)
        refine qc ?_
        (repeat refine qb ?_); refine qf rfl (fun hq => ?_) (fun hq => ?_)
        · cases hq
        refine qm ?_
        refine SW.wk (qq [1, 2] [(2, 2)] rfl rfl) ?_
        change SW _ _ _ ⟨109, [(1, .p (zP g)), (2, .ptr 2 0)], [(2, .cells [.p (pS id), .p (pB set), .p (pI al), .p (tgtP tg), .p (.sl 5 (rules.map zt)), .p (.sl 7 (ks.map polP)), .p (zQ obls)])]⟩
        (repeat refine qb ?_); refine qa ?_
        repeat (first | refine zR ?_ | refine zK ?_ | refine zM ?_ | refine zB ?_ | refine zA ?_ | refine zS ?_ | refine zL ?_)
        refine qn rfl (qD rfl rfl rfl rfl (hP) rfl rfl rfl ?_)
        repeat (first | refine zR ?_ | refine zK ?_ | refine zM ?_ | refine zB ?_ | refine zA ?_ | refine zS ?_ | refine zL ?_)
        refine qc ?_
        (repeat refine qb ?_); refine qa ?_
        repeat (first | refine zR ?_ | refine zK ?_ | refine zM ?_ | refine zB ?_ | refine zA ?_ | refine zS ?_ | refine zL ?_)
        refine qc ?_
        (repeat refine qb ?_); refine qa ?_
        repeat (first | refine zR ?_ | refine zK ?_ | refine zM ?_ | refine zB ?_ | refine zA ?_ | refine zS ?_ | refine zL ?_)
        refine qc ?_
        (repeat refine qb ?_); refine ql ?_
        refine SW.wk (qq [2, 7, 8, 67, 68, 69] [(2, 2)] rfl rfl) ?_
        refine qO (fun m s => ∃ (k : Nat) (kk at_ : Int), k ≤ ks.length ∧ m = ks.length - k ∧ kk = k ∧ at_ = ((qB g ks k).length : Int) ∧ s = ⟨109, [(2, .ptr 2 0), (7, .p (.sl 1 (L.map fun (i : Nat) => [pI (i : Int)]))), (8, .p (pI at_)), (67, .p (.sl 7 (ks.map polP))), (68, .p (pI (ks.map polP).length)), (69, .p (pI kk))], [(2, .cells [.p (pS id), .p (pB set), .p (pI al), .p (tgtP tg), .p (.sl 5 (rules.map zt)), .p (.sl 7 (ks.map polP)), .p (zQ obls)])]⟩) ks.length ⟨0, 0, 0, Nat.zero_le _, rfl, rfl, rfl, rfl⟩ ?_
        rintro m s ⟨k, _, _, hk', rfl, rfl, rfl, rfl⟩
        (repeat refine qb ?_); refine qa ?_
        repeat (first | refine zR ?_ | refine zK ?_ | refine zM ?_ | refine zB ?_ | refine zA ?_ | refine zS ?_ | refine zL ?_)
        refine qc ?_
        (repeat refine qb ?_); refine qf rfl (fun hlt => ?_) (fun hlt => ?_)
        · refine qm ?_
          rw [l2] at hlt
          simp only [decide_eq_true_eq] at hlt
          have hlt' : k < ks.length := by omega
          have hKk := key_h ks[k].target (hkf _ (List.getElem_mem hlt')).2
          have hpk := pick_key g ks[k]
          have hpf := pickF_at (g := g) hlt'
          have hsucc := pickN_succ g ks k
          have hat := pick_at (g := g) (ks := ks) hlt'
          have hno := pick_not (g := g) (ks := ks) hlt'
          have hle := pickN_le g ks (Nat.le_of_lt hlt')
          have hpl := pickN_len g ks k
          rw [← hpf] at hpk
          simp only [← hL] at hat hno hle
          obtain ⟨x, hx⟩ : ∃ x, x = ks[k] := ⟨_, rfl⟩
          rw [← hx] at hKk hpk
          (repeat refine qb ?_); refine ql ?_
          (repeat refine qb ?_); refine qa ?_
          repeat (first | refine zR ?_ | refine zK ?_ | refine zM ?_ | refine zB ?_ | refine zA ?_ | refine zS ?_ | refine zL ?_)
          refine qw qe rfl rfl (by rw [l2]; omega) rfl ?_
          rw [qJ hlt', ← hx, zf]
          repeat (first | refine zR ?_ | refine zK ?_ | refine zM ?_ | refine zB ?_ | refine zA ?_ | refine zS ?_ | refine zL ?_)
          refine qc ?_
          (repeat refine qb ?_); refine qa ?_
          repeat (first | refine zR ?_ | refine zK ?_ | refine zM ?_ | refine zB ?_ | refine zA ?_ | refine zS ?_ | refine zL ?_)
          refine qn rfl (qD rfl rfl rfl rfl (hKk) rfl rfl rfl ?_)
          repeat (first | refine zR ?_ | refine zK ?_ | refine zM ?_ | refine zB ?_ | refine zA ?_ | refine zS ?_ | refine zL ?_)
          refine qc ?_
          refine SW.wk (qq [2, 7, 8, 9, 12, 67, 68, 69] [(2, 2)] rfl rfl) ?_
          generalize keyR x.target = r at *
          obtain ⟨rm, rb⟩ := r
          simp only at hpk
          generalize ha0 : (qB g ks k).length = a at *
          (repeat refine qb ?_); refine qa ?_
          repeat (first | refine zR ?_ | refine zK ?_ | refine zM ?_ | refine zB ?_ | refine zA ?_ | refine zS ?_ | refine zL ?_)
          rw [lL]
          cases hf : pickF g ks k with
          | true =>
            rw [hf, if_pos rfl] at hsucc
            obtain ⟨ha, hget⟩ := hat hf
            rw [show decide ((a : Int) < (L.length : Int)) = true by simp; omega]
            repeat (first | refine zR ?_ | refine zK ?_ | refine zM ?_ | refine zB ?_ | refine zA ?_ | refine zS ?_ | refine zL ?_)
            refine qw qe rfl rfl (by rw [lL]; omega) rfl ?_
            rw [qJ ha, hget]
            repeat (first | refine zR ?_ | refine zK ?_ | refine zM ?_ | refine zB ?_ | refine zA ?_ | refine zS ?_ | refine zL ?_)
            rw [show ((k : Int) == (k : Int)) = true by simp]
            repeat (first | refine zR ?_ | refine zK ?_ | refine zM ?_ | refine zB ?_ | refine zA ?_ | refine zS ?_ | refine zL ?_)
            refine qc ?_
            (repeat refine qb ?_); refine qa ?_
            repeat (first | refine zR ?_ | refine zK ?_ | refine zM ?_ | refine zB ?_ | refine zA ?_ | refine zS ?_ | refine zL ?_)
            refine qc ?_
            (repeat refine qb ?_); refine qf rfl (fun hi => ?_) (fun hi => ?_)
            · (repeat refine qb ?_); refine qa ?_
              repeat (first | refine zR ?_ | refine zK ?_ | refine zM ?_ | refine zB ?_ | refine zA ?_ | refine zS ?_ | refine zL ?_)
              refine qc ?_
              cases rb with
              | true =>
                (repeat refine qb ?_); refine qa ?_
                repeat (first | refine zR ?_ | refine zK ?_ | refine zM ?_ | refine zB ?_ | refine zA ?_ | refine zS ?_ | refine zL ?_)
                refine qc ?_
                (repeat refine qb ?_); refine qf rfl (fun hz => ?_) (fun hz => ?_)
                · cases hz
                refine qm ?_
                (repeat refine qb ?_); refine qa ?_
                repeat (first | refine zR ?_ | refine zK ?_ | refine zM ?_ | refine zB ?_ | refine zA ?_ | refine zS ?_ | refine zL ?_)
                refine qc ?_
                refine ⟨_, _, ?_, qq [2, 7, 8, 67, 68, 69] [(2, 2)] rfl rfl, k + 1, _, _, hlt', rfl, qz hlt' (by omega), ?_, rfl⟩
                · omega
                · rw [hsucc, List.length_append, ha0, IntWalk.i64_in _ (by omega)]; rfl
              | false =>
                (repeat refine qb ?_); refine qa ?_
                repeat (first | refine zR ?_ | refine zK ?_ | refine zM ?_ | refine zB ?_ | refine zA ?_ | refine zS ?_ | refine zL ?_)
                refine qc ?_
                (repeat refine qb ?_); refine qf rfl (fun hz => ?_) (fun hz => ?_)
                · cases hz
                refine qm ?_
                (repeat refine qb ?_); refine qa ?_
                repeat (first | refine zR ?_ | refine zK ?_ | refine zM ?_ | refine zB ?_ | refine zA ?_ | refine zS ?_ | refine zL ?_)
                refine qc ?_
                refine ⟨_, _, ?_, qq [2, 7, 8, 67, 68, 69] [(2, 2)] rfl rfl, k + 1, _, _, hlt', rfl, qz hlt' (by omega), ?_, rfl⟩
                · omega
                · rw [hsucc, List.length_append, ha0, IntWalk.i64_in _ (by omega)]; rfl
            · cases hi
          | false =>
            rw [hf, if_neg (by simp)] at hsucc
            rw [hf] at hpk
            have hrb : rb = true := by
              cases rb with
              | true => rfl
              | false => simp at hpk
            subst hrb
            by_cases ha : a < L.length
            · have hget := hno hf ha
              rw [show decide ((a : Int) < (L.length : Int)) = true by simp; omega]
              repeat (first | refine zR ?_ | refine zK ?_ | refine zM ?_ | refine zB ?_ | refine zA ?_ | refine zS ?_ | refine zL ?_)
              refine qw qe rfl rfl (by rw [lL]; omega) rfl ?_
              rw [qJ ha]
              repeat (first | refine zR ?_ | refine zK ?_ | refine zM ?_ | refine zB ?_ | refine zA ?_ | refine zS ?_ | refine zL ?_)
              rw [show ((L[a] : Int) == (k : Int)) = false by simp; omega]
              repeat (first | refine zR ?_ | refine zK ?_ | refine zM ?_ | refine zB ?_ | refine zA ?_ | refine zS ?_ | refine zL ?_)
              refine qc ?_
              (repeat refine qb ?_); refine qa ?_
              repeat (first | refine zR ?_ | refine zK ?_ | refine zM ?_ | refine zB ?_ | refine zA ?_ | refine zS ?_ | refine zL ?_)
              refine qc ?_
              (repeat refine qb ?_); refine qf rfl (fun hi => ?_) (fun hi => ?_)
              · cases hi
              refine qm ?_
              (repeat refine qb ?_); refine qa ?_
              repeat (first | refine zR ?_ | refine zK ?_ | refine zM ?_ | refine zB ?_ | refine zA ?_ | refine zS ?_ | refine zL ?_)
              refine qc ?_
              (repeat refine qb ?_); refine qf rfl (fun hz => ?_) (fun hz => ?_)
              · cases hz
              refine qm ?_
              (repeat refine qb ?_); refine qa ?_
              repeat (first | refine zR ?_ | refine zK ?_ | refine zM ?_ | refine zB ?_ | refine zA ?_ | refine zS ?_ | refine zL ?_)
              refine qc ?_
              refine ⟨_, _, ?_, qq [2, 7, 8, 67, 68, 69] [(2, 2)] rfl rfl, k + 1, _, _, hlt', rfl, qz hlt' (by omega), ?_, rfl⟩
              · omega
              · rw [hsucc, ha0]
            · rw [show decide ((a : Int) < (L.length : Int)) = false by simp; omega]
              repeat (first | refine zR ?_ | refine zK ?_ | refine zM ?_ | refine zB ?_ | refine zA ?_ | refine zS ?_ | refine zL ?_)
              refine qc ?_
              (repeat refine qb ?_); refine qa ?_
              repeat (first | refine zR ?_ | refine zK ?_ | refine zM ?_ | refine zB ?_ | refine zA ?_ | refine zS ?_ | refine zL ?_)
              refine qc ?_
              (repeat refine qb ?_); refine qf rfl (fun hi => ?_) (fun hi => ?_)
              · cases hi
              refine qm ?_
              (repeat refine qb ?_); refine qa ?_
              repeat (first | refine zR ?_ | refine zK ?_ | refine zM ?_ | refine zB ?_ | refine zA ?_ | refine zS ?_ | refine zL ?_)
              refine qc ?_
              (repeat refine qb ?_); refine qf rfl (fun hz => ?_) (fun hz => ?_)
              · cases hz
              refine qm ?_
              (repeat refine qb ?_); refine qa ?_
              repeat (first | refine zR ?_ | refine zK ?_ | refine zM ?_ | refine zB ?_ | refine zA ?_ | refine zS ?_ | refine zL ?_)
              refine qc ?_
              refine ⟨_, _, ?_, qq [2, 7, 8, 67, 68, 69] [(2, 2)] rfl rfl, k + 1, _, _, hlt', rfl, qz hlt' (by omega), ?_, rfl⟩
              · omega
              · rw [hsucc, ha0]
        · refine qK ?_
          rw [l2] at hlt
          simp only [decide_eq_false_iff_not] at hlt
          have hkk : k = ks.length := by omega
          subst hkk
          rw [← hL]
          (repeat refine qb ?_); refine qa ?_
          repeat (first | refine zR ?_ | refine zK ?_ | refine zM ?_ | refine zB ?_ | refine zA ?_ | refine zS ?_ | refine zL ?_)
          rw [lL, show ((L.length : Int) == (L.length : Int)) = true by simp]
          repeat (first | refine zR ?_ | refine zK ?_ | refine zM ?_ | refine zB ?_ | refine zA ?_ | refine zS ?_ | refine zL ?_)
          refine qn rfl (qg rfl rfl rfl rfl (qay) rfl rfl ?_)
          repeat (first | refine zR ?_ | refine zK ?_ | refine zM ?_ | refine zB ?_ | refine zA ?_ | refine zS ?_ | refine zL ?_)
          refine qc ?_
          (repeat refine qb ?_); refine qk ?_
          exact wS rfl rfl
end Go.Proofs.YtppfcacnofjmdaaGreatDoor
namespace Go.Proofs.YtppfcacnofjmdaaGreatDoor
set_option linter.unusedVariables false
set_option linter.unusedSimpArgs false
open Go.RowKit
inductive RelsP (w : World) : List PV → List Value → Prop
  | nil : RelsP w [] []
  | cons {x : PV} {u : Value} {xs : List PV} {us : List Value} (h : RelP (fun _ => True) w x u) (r : RelsP w xs us) : RelsP w (x :: xs) (u :: us)
theorem RelsP.get {w : World} {xs : List PV} {us : List Value} (h : RelsP w xs us) : us.length = xs.length ∧ ∀ (i : Nat) (s : PV) (u : Value), xs[i]? = some s → us[i]? = some u → RelP (fun _ => True) w s u := by
  induction h with
  | nil => exact ⟨rfl, fun i s u h => by simp at h⟩
  | cons h r ih =>
    refine ⟨by simp [ih.1], fun i s u hs hu => ?_⟩
    cases i with
    | zero => simp at hs hu; subst hs; subst hu; exact h
    | succ i => exact ih.2 i s u (by simpa using hs) (by simpa using hu)
theorem law_callsG {P : Program} {f : FuncId} {args : List PV} {us : List Value} {W : World} (hg : GlOk (entry W) fun _ => False) (H : Holds P f args (.p (.v (.bool true))) []) (hr : RelsP W args us) : Calls P f us.toArray W fun e w' => e = .returned (.bool true) ∧ Below W.heap.size W w' := by
  obtain ⟨h1, h2⟩ := hr.get
  refine (H.2 W (fun _ => False) us ⟨fun _ h => h.elim, hg⟩ h1 fun i s u hs hu => (h2 i s u hs hu).weak fun _ _ _ => fun h => h).mono fun e w' ⟨v, γ, he, hb, _, hv⟩ => ?_
  have := hv.v_inv
  subst this
  exact ⟨he, hb⟩
theorem rel_agg {w : World} {cs : List Value} {x : List PV} (h : rPV (fun _ => True) w cs x) : RelP (fun _ => True) w (.agg x) (.agg cs.toArray) := .agg h.1 h.2
end Go.Proofs.YtppfcacnofjmdaaGreatDoor
namespace Go.Proofs.YtppfcacnofjmdaaGreatDoor
set_option linter.unusedSimpArgs false
open Go.ChangeShapes Go.WideShapes Go.ChangeAt Go.RowKit
set_option linter.unusedVariables false
theorem law_liftL {H : Type} {enc : TypeId × Value → H} {C : Checked} {os : Os} {f : FuncId} {fn : Func} {s : ChangeSpec} {bt : TypeId} {laid : List (String × DataW Unit)}
    (own : ownKnob C.prog.godebug = none) (started : os.Started) (noInit : C.prog.inits.idxOf? f = none) (hfn : C.prog.funcs[f]? = some fn)
    (witness : ∃ (w : World) (tape : Tape) (i : Input), w.os = os ∧ (w.forCall tape i).Shaped C.prog ∧ i.vars = [] ∧ Input.okWide C.prog (w.forCall tape i) .any w.heap.size f i ∧
      ((s.pre enc C.prog fn [] false (w.forCall tape i).memory i.args ∧ laidMetH C.prog laid (w.forCall tape i).memory) ∧ sizedMet enc C.prog fn (OpenSpec.ofChange s) false (w.forCall tape i).memory i.args) ∧ ({} : Assume).holds C.prog (lone (Frame.enter C.prog f i.args .normal) [] (w.forCall tape i)))
    (hl : laidOutB C.prog = true) (hts : ∀ t ∈ fn.params.toList, C.prog.readableRec t = true ∧ t < C.prog.types.size) (hvars : s.vars = []) (hvt : s.plain.varTypes C.prog = [])
    (hspec : ∀ (W : World) (args : Array Value) (ds : List (DataW H)) (ps : List MemPlace), DataW.TrodAll enc C.prog W 0 (fun _ => true) true fn.params.toList args.toList ds ps → s.fn H ds = { results := [.lit (.bool true)], args := ds })
    (hres : fn.resultTypes = #[bt]) (hbt : C.prog.underlying bt = some .bool)
    (walk : ∀ (W : World) (base : Nat) (args : Array Value) (ds : List (DataW H)) (ps : List MemPlace), laidMetH C.prog laid W →
      (∀ (j : Nat) t v, fn.params[j]? = some t → args[j]? = some v → Value.okWide C.prog W .any base t v) →
      DataW.TrodAll enc C.prog W 0 (fun _ => true) true fn.params.toList args.toList ds ps →
      (∀ n ∈ DataW.weightsEach C.prog fn.params.toList ds, n ≤ reachBytes) →
      Calls C.prog f args W fun e W' => e = .returned (.bool true) ∧ Below W.heap.size W W') :
    ReturnsInHanded {} C os f .any (fun w args => (s.pre enc C.prog fn [] false w args ∧ laidMetH C.prog laid w) ∧ sizedMet enc C.prog fn (OpenSpec.ofChange s) false w args) (s.post enc C.prog fn false true false false) := by
  refine returnsInHanded_of_change_and (X := fun w _ => laidMetH C.prog laid w) (fun _ _ _ hh h => h.of_heap hh) own started noInit hfn witness ?_
  intro W base args ds gs before hval hW _ hsz hL _
  have hlt : ∀ p ∈ before, p.block < W.heap.size := fun p hp => hW.lt p hp
  have hW0 := hW
  obtain ⟨p, q, hA, hV, rfl, hz, hn⟩ := hW0
  rw [hvars] at hV
  obtain ⟨rfl, rfl⟩ := trodVars_none hV
  have hsp := hspec W args ds p hA
  refine (walk W base args ds p hL hval hA ?_).mono fun e W' ⟨he, hb⟩ => ?_
  · intro n hn
    rw [hvt, List.append_nil, List.append_nil] at hsz
    exact of_decide_eq_true (List.all_eq_true.1 hsz n hn)
  · subst he
    refine ⟨_, rfl, ds, [], p ++ [], [], p, [], hW, ?_, ?_, ?_, World.keptBut_mono (fun x hx => ⟨hx, Or.inr (Or.inl (by simpa using hx))⟩) (hb.frame (· ∈ p ++ [])), fun h => by cases h⟩
    · rw [List.append_nil, hsp, hres]
      exact trodAll_mk1 (shut_bool hbt _)
    · rw [List.append_nil, hsp]
      exact qap hl hb hts (fun x hx => hlt x (by simpa using hx)) (fun x hx => by simpa using hlt x (by simpa using hx)) hA
    · rw [List.append_nil, hsp, hvars]
      rfl
theorem laidMet_tail {P : Program} {x : String × DataW Unit} {l : List (String × DataW Unit)} {W : World} (h : laidMet P (x :: l) W) : laidMet P l W := by
  obtain ⟨ps, ⟨g, t, cs, fuel, p, q, h1, h2, h3, h4, h5, h6⟩, hn, hb⟩ := h
  subst h6
  exact ⟨q, h5, (List.nodup_append.1 hn).2.1, fun b off hm => hb b off (List.mem_append_right _ hm)⟩
theorem block_of_tab {P : Program} {W : World} {name : String} {k : IntKind} {zs : List Int} {g : Nat} (h : Lib.TabIs P W name k zs) (hg : P.globalNamed name = some g) {us : List Value} (hu : us = zs.map fun z => Value.int k z) : g < W.heap.size ∧ ∃ ty m, W.heap[g]? = some (.cells us.toArray ty m) := by
  unfold Lib.TabIs World.var? at h
  rw [hg] at h
  simp only [Option.bind_some] at h
  split at h
  · rename_i cs ty m hb
    cases h
    exact ⟨(Array.getElem?_eq_some_iff.1 hb).1, ty, m, by rw [hb, hu]⟩
  · cases h
end Go.Proofs.YtppfcacnofjmdaaGreatDoor
namespace Go.Proofs.YtppfcacnofjmdaaGreatDoor
open Go.RowKit
theorem own_none : ownKnob Tryz.prog.godebug = none := by kernel_rfl
theorem gl_of_laid {rest : List (String × DataW Unit)} {W : World} (h : laidMet Tryz.prog (("math/bits.deBruijn32tab", Rows.laid_math_bits_deBruijn32tab) :: ("math/bits.deBruijn64tab", Rows.laid_math_bits_deBruijn64tab) :: ("internal/strconv.uint64pow10", Rows.laid_internal_strconv_uint64pow10) :: rest) W) : GlOk (entry W) fun _ => False := by
  have b0 := block_of_tab (g := 4) (us := [.int .u8 0, .int .u8 1, .int .u8 28, .int .u8 2, .int .u8 29, .int .u8 14, .int .u8 24, .int .u8 3, .int .u8 30, .int .u8 22, .int .u8 20, .int .u8 15, .int .u8 25, .int .u8 17, .int .u8 4, .int .u8 8, .int .u8 31, .int .u8 27, .int .u8 13, .int .u8 23, .int .u8 21, .int .u8 19, .int .u8 16, .int .u8 7, .int .u8 26, .int .u8 12, .int .u8 18, .int .u8 6, .int .u8 11, .int .u8 5, .int .u8 10, .int .u8 9]) (Lib.tabIs_of_head (k := .u8) (zs := [0, 1, 28, 2, 29, 14, 24, 3, 30, 22, 20, 15, 25, 17, 4, 8, 31, 27, 13, 23, 21, 19, 16, 7, 26, 12, 18, 6, 11, 5, 10, 9]) (g := 4) (t := 262) (e := 5) (n := 32) (by kernel_rfl) (by kernel_rfl) Tryz.underlying262 Tryz.underlying5 (by kernel_rfl) (by kernel_rfl) h) (by kernel_rfl) rfl
  have b1 := block_of_tab (g := 5) (us := [.int .u8 0, .int .u8 1, .int .u8 56, .int .u8 2, .int .u8 57, .int .u8 49, .int .u8 28, .int .u8 3, .int .u8 61, .int .u8 58, .int .u8 42, .int .u8 50, .int .u8 38, .int .u8 29, .int .u8 17, .int .u8 4, .int .u8 62, .int .u8 47, .int .u8 59, .int .u8 36, .int .u8 45, .int .u8 43, .int .u8 51, .int .u8 22, .int .u8 53, .int .u8 39, .int .u8 33, .int .u8 30, .int .u8 24, .int .u8 18, .int .u8 12, .int .u8 5, .int .u8 63, .int .u8 55, .int .u8 48, .int .u8 27, .int .u8 60, .int .u8 41, .int .u8 37, .int .u8 16, .int .u8 46, .int .u8 35, .int .u8 44, .int .u8 21, .int .u8 52, .int .u8 32, .int .u8 23, .int .u8 11, .int .u8 54, .int .u8 26, .int .u8 40, .int .u8 15, .int .u8 34, .int .u8 20, .int .u8 31, .int .u8 10, .int .u8 25, .int .u8 14, .int .u8 19, .int .u8 9, .int .u8 13, .int .u8 8, .int .u8 7, .int .u8 6]) (Lib.tabIs_of_head (k := .u8) (zs := [0, 1, 56, 2, 57, 49, 28, 3, 61, 58, 42, 50, 38, 29, 17, 4, 62, 47, 59, 36, 45, 43, 51, 22, 53, 39, 33, 30, 24, 18, 12, 5, 63, 55, 48, 27, 60, 41, 37, 16, 46, 35, 44, 21, 52, 32, 23, 11, 54, 26, 40, 15, 34, 20, 31, 10, 25, 14, 19, 9, 13, 8, 7, 6]) (g := 5) (t := 263) (e := 5) (n := 64) (by kernel_rfl) (by kernel_rfl) Tryz.underlying263 Tryz.underlying5 (by kernel_rfl) (by kernel_rfl) (laidMet_tail h)) (by kernel_rfl) rfl
  have b2 := block_of_tab (g := 3) (us := [.int .u64 1, .int .u64 10, .int .u64 100, .int .u64 1000, .int .u64 10000, .int .u64 100000, .int .u64 1000000, .int .u64 10000000, .int .u64 100000000, .int .u64 1000000000, .int .u64 10000000000, .int .u64 100000000000, .int .u64 1000000000000, .int .u64 10000000000000, .int .u64 100000000000000, .int .u64 1000000000000000, .int .u64 10000000000000000, .int .u64 100000000000000000, .int .u64 1000000000000000000, .int .u64 10000000000000000000]) (Lib.tabIs_of_head (k := .u64) (zs := [1, 10, 100, 1000, 10000, 100000, 1000000, 10000000, 100000000, 1000000000, 10000000000, 100000000000, 1000000000000, 10000000000000, 100000000000000, 1000000000000000, 10000000000000000, 100000000000000000, 1000000000000000000, 10000000000000000000]) (g := 3) (t := 257) (e := 236) (n := 20) (by kernel_rfl) (by kernel_rfl) Tryz.underlying257 Tryz.underlying236 (by kernel_rfl) (by kernel_rfl) (laidMet_tail (laidMet_tail h))) (by kernel_rfl) rfl
  intro g us hg
  simp only [GTab, qE] at hg
  repeat' split at hg
  all_goals first | cases hg; done | skip
  all_goals (subst_vars; cases hg)
  all_goals first | exact ⟨b0.1, fun h => h, b0.2⟩ | exact ⟨b1.1, fun h => h, b1.2⟩ | exact ⟨b2.1, fun h => h, b2.2⟩
noncomputable def lowB : Nat := (World.holding Tryz.prog default ⟨#[], #[], []⟩).heap.size
noncomputable def worldB (os : Os) : World :=
  let w0 := World.holding Tryz.prog os ⟨#[.cells #[.string ⟨#[118, 97, 108, 117, 101, 32, 111, 117, 116, 32, 111, 102, 32, 114, 97, 110, 103, 101]⟩] 249, .cells #[.string ⟨#[105, 110, 118, 97, 108, 105, 100, 32, 115, 121, 110, 116, 97, 120]⟩] 249], #[], []⟩
  { w0 with heap := ((((((((((w0.heap).modify 4 fun | .cells _ t frozen => .cells #[.int .u8 0, .int .u8 1, .int .u8 28, .int .u8 2, .int .u8 29, .int .u8 14, .int .u8 24, .int .u8 3, .int .u8 30, .int .u8 22, .int .u8 20, .int .u8 15, .int .u8 25, .int .u8 17, .int .u8 4, .int .u8 8, .int .u8 31, .int .u8 27, .int .u8 13, .int .u8 23, .int .u8 21, .int .u8 19, .int .u8 16, .int .u8 7, .int .u8 26, .int .u8 12, .int .u8 18, .int .u8 6, .int .u8 11, .int .u8 5, .int .u8 10, .int .u8 9] t frozen | o => o)).modify 5 fun | .cells _ t frozen => .cells #[.int .u8 0, .int .u8 1, .int .u8 56, .int .u8 2, .int .u8 57, .int .u8 49, .int .u8 28, .int .u8 3, .int .u8 61, .int .u8 58, .int .u8 42, .int .u8 50, .int .u8 38, .int .u8 29, .int .u8 17, .int .u8 4, .int .u8 62, .int .u8 47, .int .u8 59, .int .u8 36, .int .u8 45, .int .u8 43, .int .u8 51, .int .u8 22, .int .u8 53, .int .u8 39, .int .u8 33, .int .u8 30, .int .u8 24, .int .u8 18, .int .u8 12, .int .u8 5, .int .u8 63, .int .u8 55, .int .u8 48, .int .u8 27, .int .u8 60, .int .u8 41, .int .u8 37, .int .u8 16, .int .u8 46, .int .u8 35, .int .u8 44, .int .u8 21, .int .u8 52, .int .u8 32, .int .u8 23, .int .u8 11, .int .u8 54, .int .u8 26, .int .u8 40, .int .u8 15, .int .u8 34, .int .u8 20, .int .u8 31, .int .u8 10, .int .u8 25, .int .u8 14, .int .u8 19, .int .u8 9, .int .u8 13, .int .u8 8, .int .u8 7, .int .u8 6] t frozen | o => o)).modify 3 fun | .cells _ t frozen => .cells #[.int .u64 1, .int .u64 10, .int .u64 100, .int .u64 1000, .int .u64 10000, .int .u64 100000, .int .u64 1000000, .int .u64 10000000, .int .u64 100000000, .int .u64 1000000000, .int .u64 10000000000, .int .u64 100000000000, .int .u64 1000000000000, .int .u64 10000000000000, .int .u64 100000000000000, .int .u64 1000000000000000, .int .u64 10000000000000000, .int .u64 100000000000000000, .int .u64 1000000000000000000, .int .u64 10000000000000000000] t frozen | o => o)).modify 2 fun | .cells _ t frozen => .cells #[.iface 247 (.pointer (some ⟨lowB + 0, 0, none⟩))] t frozen | o => o)).modify 1 fun | .cells _ t frozen => .cells #[.iface 247 (.pointer (some ⟨lowB + 1, 0, none⟩))] t frozen | o => o) }
theorem worldB_met (os : Os) (args : Array Value) : laidMet Tryz.prog [("math/bits.deBruijn32tab", Rows.laid_math_bits_deBruijn32tab), ("math/bits.deBruijn64tab", Rows.laid_math_bits_deBruijn64tab), ("internal/strconv.uint64pow10", Rows.laid_internal_strconv_uint64pow10), ("strconv.ErrRange", Rows.laid_strconv_ErrRange), ("strconv.ErrSyntax", Rows.laid_strconv_ErrSyntax)] ((worldB os).forCall (fun _ _ => 0) ⟨#[], args, []⟩).memory :=
  laidMet_of_run' 100 (by kernel_rfl) (by kernel_rfl)
end Go.Proofs.YtppfcacnofjmdaaGreatDoor
