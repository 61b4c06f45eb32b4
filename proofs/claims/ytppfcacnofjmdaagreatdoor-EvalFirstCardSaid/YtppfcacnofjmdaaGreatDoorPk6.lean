/-
  What the statement leans on, part 6: EvalRuns, Within, EvFirst, LawKit0, LawL, Laid.
-/
import Derived.Test.YtppfcacnofjmdaaGreatDoorRows
import Derived.Lib.LaidTab
import Derived.LaidLaws
import Derived.LaidHandle
import Derived.Stop.Joined
import Derived.ChangeSame
import Derived.ChangeVars
import Derived.JoinedOf
import Derived.RowKitTokens
import Derived.Test.YtppfcacnofjmdaaGreatDoorPk1
import Derived.Test.YtppfcacnofjmdaaGreatDoorPk2
import Derived.Test.YtppfcacnofjmdaaGreatDoorPk3
import Derived.Test.YtppfcacnofjmdaaGreatDoorPk4
import Derived.Test.YtppfcacnofjmdaaGreatDoorPk5
namespace Go.Proofs.YtppfcacnofjmdaaGreatDoor
set_option linter.unusedVariables false
set_option linter.unusedSimpArgs false
open Go.RowKit
set_option maxHeartbeats 2000000
set_option maxRecDepth 100000
theorem evRead : Holds Tryz.prog 45 [.v (.string ⟨#[112, 111, 108, 105, 99, 121, 32, 112, 32, 100, 101, 110, 121, 111, 118, 101, 114, 32, 123, 32, 112, 101, 114, 109, 105, 116, 32, 114, 32, 111, 110, 32, 112, 101, 114, 109, 105, 116, 32, 108, 111, 103, 32, 97, 59, 32, 100, 101, 110, 121, 32, 100, 32, 119, 104, 101, 110, 32, 40, 99, 97, 115, 101, 46, 120, 32, 61, 32, 49, 41, 32, 111, 110, 32, 100, 101, 110, 121, 32, 110, 111, 116, 105, 102, 121, 32, 98, 59, 32, 125, 32, 111, 110, 32, 112, 101, 114, 109, 105, 116, 32, 114, 101, 118, 105, 101, 119, 32, 99]⟩)] (.agg [.p (.v (.string ⟨#[112]⟩)), .p (.v (.bool false)), .p (.v (.int .i64 1)), .p (.v (.slice none 0 0)), .row 1, .p (.v (.slice none 0 0)), .row 0]) [(0, .row 43 3 [[(.v (.int .i64 1)), (.v (.int .i64 3)), (.v (.string ⟨#[99]⟩))]]), (1, .row 59 5 [[(.v (.string ⟨#[114]⟩)), (.v (.bool false)), (.v (.slice none 0 0)), (.v (.slice none 0 0)), (.sl 3 [[(.v (.int .i64 1)), (.v (.int .i64 1)), (.v (.string ⟨#[97]⟩))]])], [(.v (.string ⟨#[100]⟩)), (.v (.bool true)), (.sl 1 [[(.sl 1 [[(.sl 7 [[(.v (.int .i64 3)), (.v (.string ⟨#[120]⟩)), (.v (.bool false)), (.v (.int .i64 1)), (.v (.int .i64 2)), (.v (.int .i64 1)), (.v (.string ⟨#[]⟩))]])]])]]), (.v (.slice none 0 0)), (.sl 3 [[(.v (.int .i64 2)), (.v (.int .i64 4)), (.v (.string ⟨#[98]⟩))]])]])] :=
  .ofW (zT (n := 5000) qe (zU _) (jr ctab) (by kernel_rfl) (by kernel_rfl))
theorem evPol0 : Holds Tryz.prog 19 [(.agg [(.v (.string ⟨#[112]⟩)), (.v (.bool false)), (.v (.int .i64 1)), (.v (.slice none 0 0)), (.sl 5 [[(.v (.string ⟨#[114]⟩)), (.v (.bool false)), (.v (.slice none 0 0)), (.v (.slice none 0 0)), (.sl 3 [[(.v (.int .i64 1)), (.v (.int .i64 1)), (.v (.string ⟨#[97]⟩))]])], [(.v (.string ⟨#[100]⟩)), (.v (.bool true)), (.sl 1 [[(.sl 1 [[(.sl 7 [[(.v (.int .i64 3)), (.v (.string ⟨#[120]⟩)), (.v (.bool false)), (.v (.int .i64 1)), (.v (.int .i64 2)), (.v (.int .i64 1)), (.v (.string ⟨#[]⟩))]])]])]]), (.v (.slice none 0 0)), (.sl 3 [[(.v (.int .i64 2)), (.v (.int .i64 4)), (.v (.string ⟨#[98]⟩))]])]]), (.v (.slice none 0 0)), (.sl 3 [[(.v (.int .i64 1)), (.v (.int .i64 3)), (.v (.string ⟨#[99]⟩))]])]), (.v (.slice none 0 0))] (.tup [.agg [.p (.v (.complex .f64 4607182418800017408 0)), .row 0], .p (.v (.int .i64 0))]) [(0, .row 43 3 [[(.v (.int .i64 1)), (.v (.int .i64 1)), (.v (.string ⟨#[97]⟩))], [(.v (.int .i64 1)), (.v (.int .i64 3)), (.v (.string ⟨#[99]⟩))]])] :=
  .ofW (zT (n := 5000) qe (zU _) (jr ctab) (by kernel_rfl) (by kernel_rfl))
theorem evPol1 : Holds Tryz.prog 19 [(.agg [(.v (.string ⟨#[112]⟩)), (.v (.bool false)), (.v (.int .i64 1)), (.v (.slice none 0 0)), (.sl 5 [[(.v (.string ⟨#[114]⟩)), (.v (.bool false)), (.v (.slice none 0 0)), (.v (.slice none 0 0)), (.sl 3 [[(.v (.int .i64 1)), (.v (.int .i64 1)), (.v (.string ⟨#[97]⟩))]])], [(.v (.string ⟨#[100]⟩)), (.v (.bool true)), (.sl 1 [[(.sl 1 [[(.sl 7 [[(.v (.int .i64 3)), (.v (.string ⟨#[120]⟩)), (.v (.bool false)), (.v (.int .i64 1)), (.v (.int .i64 2)), (.v (.int .i64 1)), (.v (.string ⟨#[]⟩))]])]])]]), (.v (.slice none 0 0)), (.sl 3 [[(.v (.int .i64 2)), (.v (.int .i64 4)), (.v (.string ⟨#[98]⟩))]])]]), (.v (.slice none 0 0)), (.sl 3 [[(.v (.int .i64 1)), (.v (.int .i64 3)), (.v (.string ⟨#[99]⟩))]])]), (.sl 3 [[(.v (.int .i64 3)), (.v (.string ⟨#[120]⟩)), (.sl 3 [[(.v (.int .i64 2)), (.v (.int .i64 1)), (.v (.string ⟨#[]⟩))]])]])] (.tup [.agg [.p (.v (.complex .f64 0 4607182418800017408)), .row 0], .p (.v (.int .i64 0))]) [(0, .row 43 3 [[(.v (.int .i64 2)), (.v (.int .i64 4)), (.v (.string ⟨#[98]⟩))]])] :=
  .ofW (zT (n := 5000) qe (zU _) (jr ctab) (by kernel_rfl) (by kernel_rfl))
theorem evPol2 : Holds Tryz.prog 19 [(.agg [(.v (.string ⟨#[112]⟩)), (.v (.bool false)), (.v (.int .i64 1)), (.v (.slice none 0 0)), (.sl 5 [[(.v (.string ⟨#[114]⟩)), (.v (.bool false)), (.v (.slice none 0 0)), (.v (.slice none 0 0)), (.sl 3 [[(.v (.int .i64 1)), (.v (.int .i64 1)), (.v (.string ⟨#[97]⟩))]])], [(.v (.string ⟨#[100]⟩)), (.v (.bool true)), (.sl 1 [[(.sl 1 [[(.sl 7 [[(.v (.int .i64 3)), (.v (.string ⟨#[120]⟩)), (.v (.bool false)), (.v (.int .i64 1)), (.v (.int .i64 2)), (.v (.int .i64 1)), (.v (.string ⟨#[]⟩))]])]])]]), (.v (.slice none 0 0)), (.sl 3 [[(.v (.int .i64 2)), (.v (.int .i64 4)), (.v (.string ⟨#[98]⟩))]])]]), (.v (.slice none 0 0)), (.sl 3 [[(.v (.int .i64 1)), (.v (.int .i64 3)), (.v (.string ⟨#[99]⟩))]])]), (.sl 3 [[(.v (.int .i64 3)), (.v (.string ⟨#[120]⟩)), (.sl 3 [[(.v (.int .i64 3)), (.v (.int .i64 0)), (.v (.string ⟨#[97]⟩))]])]])] (.tup [.p (.agg [(.v (.complex .f64 4602678819172646912 4602678819172646912)), (.v (.slice none 0 0))]), .p (.v (.int .i64 0))]) [] :=
  .ofW (zT (n := 5000) qe (zU _) (jr ctab) (by kernel_rfl) (by kernel_rfl))
theorem evX0 : Holds Tryz.prog 46 [(.sl 3 [[(.v (.int .i64 2)), (.v (.int .i64 1)), (.v (.string ⟨#[]⟩))]])] ((.row 0)) [(0, .row 88 3 [[(.v (.int .i64 3)), (.v (.string ⟨#[120]⟩)), .sl 3 [[(.v (.int .i64 2)), (.v (.int .i64 1)), (.v (.string ⟨#[]⟩))]]]])] :=
  .ofW (zT (n := 5000) qe (zU _) (jr ctab) (by kernel_rfl) (by kernel_rfl))
theorem evX1 : Holds Tryz.prog 46 [(.sl 3 [[(.v (.int .i64 3)), (.v (.int .i64 0)), (.v (.string ⟨#[97]⟩))]])] ((.row 0)) [(0, .row 88 3 [[(.v (.int .i64 3)), (.v (.string ⟨#[120]⟩)), .sl 3 [[(.v (.int .i64 3)), (.v (.int .i64 0)), (.v (.string ⟨#[97]⟩))]]]])] :=
  .ofW (zT (n := 5000) qe (zU _) (jr ctab) (by kernel_rfl) (by kernel_rfl))
theorem evRes0 : Holds Tryz.prog 23 [.agg [(.v (.complex .f64 4607182418800017408 0)), (.sl 3 [[(.v (.int .i64 1)), (.v (.int .i64 1)), (.v (.string ⟨#[97]⟩))], [(.v (.int .i64 1)), (.v (.int .i64 3)), (.v (.string ⟨#[99]⟩))]])], .agg [(.v (.complex .f64 4607182418800017408 0)), (.sl 3 [[(.v (.int .i64 1)), (.v (.int .i64 1)), (.v (.string ⟨#[97]⟩))], [(.v (.int .i64 1)), (.v (.int .i64 3)), (.v (.string ⟨#[99]⟩))]])]] (.p (.v (.bool true))) [] :=
  .ofW (zT (n := 5000) qe (zU _) (jr ctab) (by kernel_rfl) (by kernel_rfl))
theorem evRes1 : Holds Tryz.prog 23 [.agg [(.v (.complex .f64 0 4607182418800017408)), (.sl 3 [[(.v (.int .i64 2)), (.v (.int .i64 4)), (.v (.string ⟨#[98]⟩))]])], .agg [(.v (.complex .f64 0 4607182418800017408)), (.sl 3 [[(.v (.int .i64 2)), (.v (.int .i64 4)), (.v (.string ⟨#[98]⟩))]])]] (.p (.v (.bool true))) [] :=
  .ofW (zT (n := 5000) qe (zU _) (jr ctab) (by kernel_rfl) (by kernel_rfl))
theorem evRes2 : Holds Tryz.prog 23 [.agg [(.v (.complex .f64 4602678819172646912 4602678819172646912)), (.v (.slice none 0 0))], .agg [(.v (.complex .f64 4602678819172646912 4602678819172646912)), (.v (.slice none 0 0))]] (.p (.v (.bool true))) [] :=
  .ofW (zT (n := 5000) qe (zU _) (jr ctab) (by kernel_rfl) (by kernel_rfl))
theorem jB : Holds Tryz.prog 18 [] (.p (.v (.bool true))) [] := by
  refine qA (ts := [0]) Tryz.func18 (by kernel_rfl) rfl rfl rfl ?_
  (repeat refine qb ?_); refine qa ?_
  repeat (first | refine zR ?_ | refine zK ?_ | refine zM ?_ | refine zB ?_ | refine zA ?_ | refine zS ?_ | refine zL ?_)
  refine qc ?_
  (repeat refine qb ?_); refine qa ?_
  repeat (first | refine zR ?_ | refine zK ?_ | refine zM ?_ | refine zB ?_ | refine zA ?_ | refine zS ?_ | refine zL ?_)
  refine qn rfl (qD rfl rfl rfl rfl (evRead) rfl rfl rfl ?_)
  repeat (first | refine zR ?_ | refine zK ?_ | refine zM ?_ | refine zB ?_ | refine zA ?_ | refine zS ?_ | refine zL ?_)
  refine qc ?_
  refine SW.wk ((zN (k := 10000) rfl).trans (zN (k := 10001) rfl)) ?_
  refine SW.wk (qq [1] [(1, 1)] rfl rfl) ?_
  (repeat refine qb ?_); refine qa ?_
  repeat (first | refine zR ?_ | refine zK ?_ | refine zM ?_ | refine zB ?_ | refine zA ?_ | refine zS ?_ | refine zL ?_)
  refine qn rfl (qD rfl rfl rfl rfl (evPol0) rfl rfl rfl ?_)
  repeat (first | refine zR ?_ | refine zK ?_ | refine zM ?_ | refine zB ?_ | refine zA ?_ | refine zS ?_ | refine zL ?_)
  refine qc ?_
  refine SW.wk (zN (k := 13000) rfl) ?_
  refine SW.wk (qq [1, 2, 3] [(1, 1), (2, 2)] rfl rfl) ?_
  (repeat refine qb ?_); refine zH 11 rfl (by kernel_rfl) ?_
  refine qy (i := 0) (K := [18, 19, 4, 20000, 21000]) (by kernel_rfl) (by kernel_rfl) rfl rfl (qi qe rfl (by exact True.intro)) rfl ?_
  refine qy (i := 1) (K := [18, 19, 4, 20000, 21000]) (by kernel_rfl) (by kernel_rfl) rfl rfl (qi qe rfl (by exact True.intro)) rfl ?_
  refine zE 2 8 (by kernel_rfl) ?_ ?_
  first | refine qd rfl rfl rfl (aM (h := ?_)) | refine qd rfl rfl rfl (aB (h := ?_)) | refine qd rfl rfl rfl (aA (h := ?_)) | refine qd rfl rfl rfl (aS (h := ?_)) | refine qd rfl rfl rfl (aL (h := ?_)) | refine qd rfl rfl rfl (qv (K := []) (qi qe rfl (by exact True.intro)) rfl ?_)
  refine zE 3 8 (by kernel_rfl) ?_ ?_
  refine qd rfl rfl rfl (ActOk.frz (i := 18) rfl (qD rfl rfl rfl rfl evX0 rfl rfl rfl ?_))
  refine zE 4 8 (by kernel_rfl) ?_ ?_
  refine qd rfl rfl rfl (ActOk.frz (i := 20000) rfl (qD rfl rfl rfl rfl evPol1 rfl rfl rfl ?_))
  refine qy (i := 5) (K := [18, 19, 4, 20000, 21000]) (by kernel_rfl) (by kernel_rfl) rfl rfl (qi qe rfl (by exact True.intro)) rfl ?_
  refine qy (i := 6) (K := [18, 19, 4, 20000, 21000]) (by kernel_rfl) (by kernel_rfl) rfl rfl (qi qe rfl (by exact True.intro)) rfl ?_
  refine qy (i := 7) (K := [18, 19, 4, 20000, 21000]) (by kernel_rfl) (by kernel_rfl) rfl rfl (qi qe rfl (by exact True.intro)) rfl ?_
  refine qo 8 (by kernel_rfl) ?_
  first | refine qd rfl rfl rfl (aM (h := ?_)) | refine qd rfl rfl rfl (aB (h := ?_)) | refine qd rfl rfl rfl (aA (h := ?_)) | refine qd rfl rfl rfl (aS (h := ?_)) | refine qd rfl rfl rfl (aL (h := ?_)) | refine qd rfl rfl rfl (qv (K := []) (qi qe rfl (by exact True.intro)) rfl ?_)
  refine qo 9 (by kernel_rfl) ?_
  first | refine qd rfl rfl rfl (aM (h := ?_)) | refine qd rfl rfl rfl (aB (h := ?_)) | refine qd rfl rfl rfl (aA (h := ?_)) | refine qd rfl rfl rfl (aS (h := ?_)) | refine qd rfl rfl rfl (aL (h := ?_)) | refine qd rfl rfl rfl (qv (K := []) (qi qe rfl (by exact True.intro)) rfl ?_)
  refine qy (i := 10) (K := [18, 19, 4, 20000, 21000]) (by kernel_rfl) (by kernel_rfl) rfl rfl (qi qe rfl (by exact True.intro)) rfl ?_
  refine zd (by kernel_rfl) ?_
  refine SW.wk (qq [1, 2, 3, 4, 5] [(1, 1), (2, 2), (4, 4), (21000, 700)] rfl rfl) ?_
  refine ?fk3_51
  rotate_left
  first | refine qd rfl rfl rfl (aM (h := ?_)) | refine qd rfl rfl rfl (aB (h := ?_)) | refine qd rfl rfl rfl (aA (h := ?_)) | refine qd rfl rfl rfl (aS (h := ?_)) | refine qd rfl rfl rfl (aL (h := ?_)) | refine qd rfl rfl rfl (qv (K := []) (qi qe rfl (by exact True.intro)) rfl ?_)
  refine qo 4 (by kernel_rfl) ?_
  refine qd rfl rfl rfl (ActOk.frz (i := 20000) rfl (qD rfl rfl rfl rfl evPol1 rfl rfl rfl ?_))
  refine qy (i := 5) (K := [18, 19, 4, 20000, 21000]) (by kernel_rfl) (by kernel_rfl) rfl rfl (qi qe rfl (by exact True.intro)) rfl ?_
  refine qy (i := 6) (K := [18, 19, 4, 20000, 21000]) (by kernel_rfl) (by kernel_rfl) rfl rfl (qi qe rfl (by exact True.intro)) rfl ?_
  refine qy (i := 7) (K := [18, 19, 4, 20000, 21000]) (by kernel_rfl) (by kernel_rfl) rfl rfl (qi qe rfl (by exact True.intro)) rfl ?_
  refine qo 9 (by kernel_rfl) ?_
  first | refine qd rfl rfl rfl (aM (h := ?_)) | refine qd rfl rfl rfl (aB (h := ?_)) | refine qd rfl rfl rfl (aA (h := ?_)) | refine qd rfl rfl rfl (aS (h := ?_)) | refine qd rfl rfl rfl (aL (h := ?_)) | refine qd rfl rfl rfl (qv (K := []) (qi qe rfl (by exact True.intro)) rfl ?_)
  refine qy (i := 10) (K := [18, 19, 4, 20000, 21000]) (by kernel_rfl) (by kernel_rfl) rfl rfl (qi qe rfl (by exact True.intro)) rfl ?_
  refine zd (by kernel_rfl) ?_
  refine SW.wk (qq [1, 2, 3, 4, 5] [(1, 1), (2, 2), (4, 4), (21000, 700)] rfl rfl) ?_
  exact ?fk3_51
  first | refine qd rfl rfl rfl (aM (h := ?_)) | refine qd rfl rfl rfl (aB (h := ?_)) | refine qd rfl rfl rfl (aA (h := ?_)) | refine qd rfl rfl rfl (aS (h := ?_)) | refine qd rfl rfl rfl (aL (h := ?_)) | refine qd rfl rfl rfl (qv (K := []) (qi qe rfl (by exact True.intro)) rfl ?_)
  refine qo 3 (by kernel_rfl) ?_
  refine qd rfl rfl rfl (ActOk.frz (i := 18) rfl (qD rfl rfl rfl rfl evX0 rfl rfl rfl ?_))
  refine qo 4 (by kernel_rfl) ?_
  refine qd rfl rfl rfl (ActOk.frz (i := 20000) rfl (qD rfl rfl rfl rfl evPol1 rfl rfl rfl ?_))
  refine qy (i := 5) (K := [18, 19, 4, 20000, 21000]) (by kernel_rfl) (by kernel_rfl) rfl rfl (qi qe rfl (by exact True.intro)) rfl ?_
  refine qy (i := 6) (K := [18, 19, 4, 20000, 21000]) (by kernel_rfl) (by kernel_rfl) rfl rfl (qi qe rfl (by exact True.intro)) rfl ?_
  refine qy (i := 7) (K := [18, 19, 4, 20000, 21000]) (by kernel_rfl) (by kernel_rfl) rfl rfl (qi qe rfl (by exact True.intro)) rfl ?_
  refine qo 9 (by kernel_rfl) ?_
  first | refine qd rfl rfl rfl (aM (h := ?_)) | refine qd rfl rfl rfl (aB (h := ?_)) | refine qd rfl rfl rfl (aA (h := ?_)) | refine qd rfl rfl rfl (aS (h := ?_)) | refine qd rfl rfl rfl (aL (h := ?_)) | refine qd rfl rfl rfl (qv (K := []) (qi qe rfl (by exact True.intro)) rfl ?_)
  refine qy (i := 10) (K := [18, 19, 4, 20000, 21000]) (by kernel_rfl) (by kernel_rfl) rfl rfl (qi qe rfl (by exact True.intro)) rfl ?_
  refine zd (by kernel_rfl) ?_
  refine SW.wk (qq [1, 2, 3, 4, 5] [(1, 1), (2, 2), (4, 4), (21000, 700)] rfl rfl) ?_
  exact ?fk3_51
  first | refine qd rfl rfl rfl (aM (h := ?_)) | refine qd rfl rfl rfl (aB (h := ?_)) | refine qd rfl rfl rfl (aA (h := ?_)) | refine qd rfl rfl rfl (aS (h := ?_)) | refine qd rfl rfl rfl (aL (h := ?_)) | refine qd rfl rfl rfl (qv (K := []) (qi qe rfl (by exact True.intro)) rfl ?_)
  refine qo 2 (by kernel_rfl) ?_
  first | refine qd rfl rfl rfl (aM (h := ?_)) | refine qd rfl rfl rfl (aB (h := ?_)) | refine qd rfl rfl rfl (aA (h := ?_)) | refine qd rfl rfl rfl (aS (h := ?_)) | refine qd rfl rfl rfl (aL (h := ?_)) | refine qd rfl rfl rfl (qv (K := []) (qi qe rfl (by exact True.intro)) rfl ?_)
  refine qo 3 (by kernel_rfl) ?_
  refine qd rfl rfl rfl (ActOk.frz (i := 18) rfl (qD rfl rfl rfl rfl evX0 rfl rfl rfl ?_))
  refine qo 4 (by kernel_rfl) ?_
  refine qd rfl rfl rfl (ActOk.frz (i := 20000) rfl (qD rfl rfl rfl rfl evPol1 rfl rfl rfl ?_))
  refine qy (i := 5) (K := [18, 19, 4, 20000, 21000]) (by kernel_rfl) (by kernel_rfl) rfl rfl (qi qe rfl (by exact True.intro)) rfl ?_
  refine qy (i := 6) (K := [18, 19, 4, 20000, 21000]) (by kernel_rfl) (by kernel_rfl) rfl rfl (qi qe rfl (by exact True.intro)) rfl ?_
  refine qy (i := 7) (K := [18, 19, 4, 20000, 21000]) (by kernel_rfl) (by kernel_rfl) rfl rfl (qi qe rfl (by exact True.intro)) rfl ?_
  refine qo 9 (by kernel_rfl) ?_
  first | refine qd rfl rfl rfl (aM (h := ?_)) | refine qd rfl rfl rfl (aB (h := ?_)) | refine qd rfl rfl rfl (aA (h := ?_)) | refine qd rfl rfl rfl (aS (h := ?_)) | refine qd rfl rfl rfl (aL (h := ?_)) | refine qd rfl rfl rfl (qv (K := []) (qi qe rfl (by exact True.intro)) rfl ?_)
  refine qy (i := 10) (K := [18, 19, 4, 20000, 21000]) (by kernel_rfl) (by kernel_rfl) rfl rfl (qi qe rfl (by exact True.intro)) rfl ?_
  refine zd (by kernel_rfl) ?_
  refine SW.wk (qq [1, 2, 3, 4, 5] [(1, 1), (2, 2), (4, 4), (21000, 700)] rfl rfl) ?_
  exact ?fk3_51
  refine SW.wk (zN (k := 700) rfl) ?_
  refine SW.wk (qq [1, 2, 3, 4, 5] [(1, 1), (2, 2), (4, 4)] rfl rfl) ?_
  (repeat refine qb ?_); refine zH 11 rfl (by kernel_rfl) ?_
  refine qy (i := 0) (K := [26, 27, 6, 28000, 29000]) (by kernel_rfl) (by kernel_rfl) rfl rfl (qi qe rfl (by exact True.intro)) rfl ?_
  refine qy (i := 1) (K := [26, 27, 6, 28000, 29000]) (by kernel_rfl) (by kernel_rfl) rfl rfl (qi qe rfl (by exact True.intro)) rfl ?_
  refine zE 2 8 (by kernel_rfl) ?_ ?_
  first | refine qd rfl rfl rfl (aM (h := ?_)) | refine qd rfl rfl rfl (aB (h := ?_)) | refine qd rfl rfl rfl (aA (h := ?_)) | refine qd rfl rfl rfl (aS (h := ?_)) | refine qd rfl rfl rfl (aL (h := ?_)) | refine qd rfl rfl rfl (qv (K := []) (qi qe rfl (by exact True.intro)) rfl ?_)
  refine zE 3 8 (by kernel_rfl) ?_ ?_
  refine qd rfl rfl rfl (ActOk.frz (i := 26) rfl (qD rfl rfl rfl rfl evX1 rfl rfl rfl ?_))
  refine zE 4 8 (by kernel_rfl) ?_ ?_
  refine qd rfl rfl rfl (ActOk.frz (i := 28000) rfl (qD rfl rfl rfl rfl evPol2 rfl rfl rfl ?_))
  refine qy (i := 5) (K := [26, 27, 6, 28000, 29000]) (by kernel_rfl) (by kernel_rfl) rfl rfl (qi qe rfl (by exact True.intro)) rfl ?_
  refine qy (i := 6) (K := [26, 27, 6, 28000, 29000]) (by kernel_rfl) (by kernel_rfl) rfl rfl (qi qe rfl (by exact True.intro)) rfl ?_
  refine qy (i := 7) (K := [26, 27, 6, 28000, 29000]) (by kernel_rfl) (by kernel_rfl) rfl rfl (qi qe rfl (by exact True.intro)) rfl ?_
  refine qo 8 (by kernel_rfl) ?_
  first | refine qd rfl rfl rfl (aM (h := ?_)) | refine qd rfl rfl rfl (aB (h := ?_)) | refine qd rfl rfl rfl (aA (h := ?_)) | refine qd rfl rfl rfl (aS (h := ?_)) | refine qd rfl rfl rfl (aL (h := ?_)) | refine qd rfl rfl rfl (qv (K := []) (qi qe rfl (by exact True.intro)) rfl ?_)
  refine qo 9 (by kernel_rfl) ?_
  first | refine qd rfl rfl rfl (aM (h := ?_)) | refine qd rfl rfl rfl (aB (h := ?_)) | refine qd rfl rfl rfl (aA (h := ?_)) | refine qd rfl rfl rfl (aS (h := ?_)) | refine qd rfl rfl rfl (aL (h := ?_)) | refine qd rfl rfl rfl (qv (K := []) (qi qe rfl (by exact True.intro)) rfl ?_)
  refine qy (i := 10) (K := [26, 27, 6, 28000, 29000]) (by kernel_rfl) (by kernel_rfl) rfl rfl (qi qe rfl (by exact True.intro)) rfl ?_
  refine zd (by kernel_rfl) ?_
  refine SW.wk (qq [1, 2, 3, 4, 5, 6, 7] [(1, 1), (2, 2), (4, 4), (6, 6)] rfl rfl) ?_
  refine ?fk4_116
  rotate_left
  first | refine qd rfl rfl rfl (aM (h := ?_)) | refine qd rfl rfl rfl (aB (h := ?_)) | refine qd rfl rfl rfl (aA (h := ?_)) | refine qd rfl rfl rfl (aS (h := ?_)) | refine qd rfl rfl rfl (aL (h := ?_)) | refine qd rfl rfl rfl (qv (K := []) (qi qe rfl (by exact True.intro)) rfl ?_)
  refine qo 4 (by kernel_rfl) ?_
  refine qd rfl rfl rfl (ActOk.frz (i := 28000) rfl (qD rfl rfl rfl rfl evPol2 rfl rfl rfl ?_))
  refine qy (i := 5) (K := [26, 27, 6, 28000, 29000]) (by kernel_rfl) (by kernel_rfl) rfl rfl (qi qe rfl (by exact True.intro)) rfl ?_
  refine qy (i := 6) (K := [26, 27, 6, 28000, 29000]) (by kernel_rfl) (by kernel_rfl) rfl rfl (qi qe rfl (by exact True.intro)) rfl ?_
  refine qy (i := 7) (K := [26, 27, 6, 28000, 29000]) (by kernel_rfl) (by kernel_rfl) rfl rfl (qi qe rfl (by exact True.intro)) rfl ?_
  refine qo 9 (by kernel_rfl) ?_
  first | refine qd rfl rfl rfl (aM (h := ?_)) | refine qd rfl rfl rfl (aB (h := ?_)) | refine qd rfl rfl rfl (aA (h := ?_)) | refine qd rfl rfl rfl (aS (h := ?_)) | refine qd rfl rfl rfl (aL (h := ?_)) | refine qd rfl rfl rfl (qv (K := []) (qi qe rfl (by exact True.intro)) rfl ?_)
  refine qy (i := 10) (K := [26, 27, 6, 28000, 29000]) (by kernel_rfl) (by kernel_rfl) rfl rfl (qi qe rfl (by exact True.intro)) rfl ?_
  refine zd (by kernel_rfl) ?_
  refine SW.wk (qq [1, 2, 3, 4, 5, 6, 7] [(1, 1), (2, 2), (4, 4), (6, 6)] rfl rfl) ?_
  exact ?fk4_116
  first | refine qd rfl rfl rfl (aM (h := ?_)) | refine qd rfl rfl rfl (aB (h := ?_)) | refine qd rfl rfl rfl (aA (h := ?_)) | refine qd rfl rfl rfl (aS (h := ?_)) | refine qd rfl rfl rfl (aL (h := ?_)) | refine qd rfl rfl rfl (qv (K := []) (qi qe rfl (by exact True.intro)) rfl ?_)
  refine qo 3 (by kernel_rfl) ?_
  refine qd rfl rfl rfl (ActOk.frz (i := 26) rfl (qD rfl rfl rfl rfl evX1 rfl rfl rfl ?_))
  refine qo 4 (by kernel_rfl) ?_
  refine qd rfl rfl rfl (ActOk.frz (i := 28000) rfl (qD rfl rfl rfl rfl evPol2 rfl rfl rfl ?_))
  refine qy (i := 5) (K := [26, 27, 6, 28000, 29000]) (by kernel_rfl) (by kernel_rfl) rfl rfl (qi qe rfl (by exact True.intro)) rfl ?_
  refine qy (i := 6) (K := [26, 27, 6, 28000, 29000]) (by kernel_rfl) (by kernel_rfl) rfl rfl (qi qe rfl (by exact True.intro)) rfl ?_
  refine qy (i := 7) (K := [26, 27, 6, 28000, 29000]) (by kernel_rfl) (by kernel_rfl) rfl rfl (qi qe rfl (by exact True.intro)) rfl ?_
  refine qo 9 (by kernel_rfl) ?_
  first | refine qd rfl rfl rfl (aM (h := ?_)) | refine qd rfl rfl rfl (aB (h := ?_)) | refine qd rfl rfl rfl (aA (h := ?_)) | refine qd rfl rfl rfl (aS (h := ?_)) | refine qd rfl rfl rfl (aL (h := ?_)) | refine qd rfl rfl rfl (qv (K := []) (qi qe rfl (by exact True.intro)) rfl ?_)
  refine qy (i := 10) (K := [26, 27, 6, 28000, 29000]) (by kernel_rfl) (by kernel_rfl) rfl rfl (qi qe rfl (by exact True.intro)) rfl ?_
  refine zd (by kernel_rfl) ?_
  refine SW.wk (qq [1, 2, 3, 4, 5, 6, 7] [(1, 1), (2, 2), (4, 4), (6, 6)] rfl rfl) ?_
  exact ?fk4_116
  first | refine qd rfl rfl rfl (aM (h := ?_)) | refine qd rfl rfl rfl (aB (h := ?_)) | refine qd rfl rfl rfl (aA (h := ?_)) | refine qd rfl rfl rfl (aS (h := ?_)) | refine qd rfl rfl rfl (aL (h := ?_)) | refine qd rfl rfl rfl (qv (K := []) (qi qe rfl (by exact True.intro)) rfl ?_)
  refine qo 2 (by kernel_rfl) ?_
  first | refine qd rfl rfl rfl (aM (h := ?_)) | refine qd rfl rfl rfl (aB (h := ?_)) | refine qd rfl rfl rfl (aA (h := ?_)) | refine qd rfl rfl rfl (aS (h := ?_)) | refine qd rfl rfl rfl (aL (h := ?_)) | refine qd rfl rfl rfl (qv (K := []) (qi qe rfl (by exact True.intro)) rfl ?_)
  refine qo 3 (by kernel_rfl) ?_
  refine qd rfl rfl rfl (ActOk.frz (i := 26) rfl (qD rfl rfl rfl rfl evX1 rfl rfl rfl ?_))
  refine qo 4 (by kernel_rfl) ?_
  refine qd rfl rfl rfl (ActOk.frz (i := 28000) rfl (qD rfl rfl rfl rfl evPol2 rfl rfl rfl ?_))
  refine qy (i := 5) (K := [26, 27, 6, 28000, 29000]) (by kernel_rfl) (by kernel_rfl) rfl rfl (qi qe rfl (by exact True.intro)) rfl ?_
  refine qy (i := 6) (K := [26, 27, 6, 28000, 29000]) (by kernel_rfl) (by kernel_rfl) rfl rfl (qi qe rfl (by exact True.intro)) rfl ?_
  refine qy (i := 7) (K := [26, 27, 6, 28000, 29000]) (by kernel_rfl) (by kernel_rfl) rfl rfl (qi qe rfl (by exact True.intro)) rfl ?_
  refine qo 9 (by kernel_rfl) ?_
  first | refine qd rfl rfl rfl (aM (h := ?_)) | refine qd rfl rfl rfl (aB (h := ?_)) | refine qd rfl rfl rfl (aA (h := ?_)) | refine qd rfl rfl rfl (aS (h := ?_)) | refine qd rfl rfl rfl (aL (h := ?_)) | refine qd rfl rfl rfl (qv (K := []) (qi qe rfl (by exact True.intro)) rfl ?_)
  refine qy (i := 10) (K := [26, 27, 6, 28000, 29000]) (by kernel_rfl) (by kernel_rfl) rfl rfl (qi qe rfl (by exact True.intro)) rfl ?_
  refine zd (by kernel_rfl) ?_
  refine SW.wk (qq [1, 2, 3, 4, 5, 6, 7] [(1, 1), (2, 2), (4, 4), (6, 6)] rfl rfl) ?_
  exact ?fk4_116
  (repeat refine qb ?_); refine qa ?_
  repeat (first | refine zR ?_ | refine zK ?_ | refine zM ?_ | refine zB ?_ | refine zA ?_ | refine zS ?_ | refine zL ?_)
  refine qc ?_
  (repeat refine qb ?_); refine qa ?_
  repeat (first | refine zR ?_ | refine zK ?_ | refine zM ?_ | refine zB ?_ | refine zA ?_ | refine zS ?_ | refine zL ?_)
  refine qn rfl (ActOk.frz (i := 33) rfl (qg rfl rfl rfl rfl evRes0 rfl rfl ?_))
  repeat (first | refine zR ?_ | refine zK ?_ | refine zM ?_ | refine zB ?_ | refine zA ?_ | refine zS ?_ | refine zL ?_)
  refine qn rfl (ActOk.frz (i := 53) rfl (qg rfl rfl rfl rfl evRes1 rfl rfl ?_))
  repeat (first | refine zR ?_ | refine zK ?_ | refine zM ?_ | refine zB ?_ | refine zA ?_ | refine zS ?_ | refine zL ?_)
  refine qn rfl (qg rfl rfl rfl rfl (evRes2) rfl rfl ?_)
  repeat (first | refine zR ?_ | refine zK ?_ | refine zM ?_ | refine zB ?_ | refine zA ?_ | refine zS ?_ | refine zL ?_)
  refine qc ?_
  (repeat refine qb ?_); refine qk ?_
  exact ⟨Or.inr rfl, _, _, [], Wk.refl _, rfl, rfl, rfl, rfl⟩
end Go.Proofs.YtppfcacnofjmdaaGreatDoor
namespace Go.Proofs.YtppfcacnofjmdaaGreatDoor
set_option linter.unusedVariables false
set_option linter.unusedSimpArgs false
open Go.RowKit
set_option maxHeartbeats 1000000
theorem within_h (n lo hi : Int) (hn : R64 n) (h1 : 0 ≤ lo) (h2 : lo ≤ hi) (h3 : hi ≤ 4611686018427387904) : Holds Tryz.prog 22 [pI n, pI lo, pI hi] (.p (pI (lo + n % (hi - lo + 1)))) [] := by
  obtain ⟨hn, hn'⟩ := hn
  have r0 := Int.emod_nonneg n (show hi - lo + 1 ≠ 0 by omega)
  have r1 := Int.emod_lt_of_pos n (show 0 < hi - lo + 1 by omega)
  have e : (n.tmod (hi - lo + 1) = n % (hi - lo + 1) ∧ 0 ≤ n % (hi - lo + 1)) ∨ (n.tmod (hi - lo + 1) = n % (hi - lo + 1) - (hi - lo + 1) ∧ n % (hi - lo + 1) - (hi - lo + 1) < 0) := by
    rw [Int.tmod_eq_emod]
    have hab : ((hi - lo + 1).natAbs : Int) = hi - lo + 1 := by omega
    split
    · left; omega
    · right; omega
  generalize hr : n % (hi - lo + 1) = r at *
  have w1 : IntKind.i64.wrap (IntKind.i64.wrap (hi - lo) + 1) = hi - lo + 1 := by
    rw [IntWalk.i64_in (hi - lo) (by omega), IntWalk.i64_in _ (by omega)]
  refine qA (ts := [6]) Tryz.func22 (by kernel_rfl) rfl rfl rfl ?_
  (repeat refine qb ?_); refine qa ?_
  repeat (first | refine zR ?_ | refine zK ?_ | refine zM ?_ | refine zB ?_ | refine zA ?_ | refine zS ?_ | refine zL ?_)
  refine qc ?_
  (repeat refine qb ?_); refine qa ?_
  repeat (first | refine zR ?_ | refine zK ?_ | refine zM ?_ | refine zB ?_ | refine zA ?_ | refine zS ?_ | refine zL ?_)
  rw [w1]
  refine qw qe rfl rfl (by omega) rfl ?_
  repeat (first | refine zR ?_ | refine zK ?_ | refine zM ?_ | refine zB ?_ | refine zA ?_ | refine zS ?_ | refine zL ?_)
  refine qc ?_
  (repeat refine qb ?_); refine qa ?_
  repeat (first | refine zR ?_ | refine zK ?_ | refine zM ?_ | refine zB ?_ | refine zA ?_ | refine zS ?_ | refine zL ?_)
  refine qc ?_
  (repeat refine qb ?_); refine qf rfl (fun h => ?_) (fun h => ?_)
  · rcases e with ⟨e, hneg⟩ | ⟨e, hneg⟩
    · rw [e] at h; simp at h; omega
    · (repeat refine qb ?_); refine qa ?_
      repeat (first | refine zR ?_ | refine zK ?_ | refine zM ?_ | refine zB ?_ | refine zA ?_ | refine zS ?_ | refine zL ?_)
      refine qc ?_
      (repeat refine qb ?_); refine qa ?_
      repeat (first | refine zR ?_ | refine zK ?_ | refine zM ?_ | refine zB ?_ | refine zA ?_ | refine zS ?_ | refine zL ?_)
      refine qc ?_
      (repeat refine qb ?_); refine qk ?_
      refine zg rfl ?_
      rw [e, IntWalk.i64_in (r - (hi - lo + 1) + hi) (by omega), IntWalk.i64_in (r - (hi - lo + 1) + hi - lo) (by omega), IntWalk.i64_in (r - (hi - lo + 1) + hi - lo + 1) (by omega), IntWalk.i64_in _ (by omega)]
      omega
  · rcases e with ⟨e, hneg⟩ | ⟨e, hneg⟩
    · refine qm ?_
      (repeat refine qb ?_); refine qa ?_
      repeat (first | refine zR ?_ | refine zK ?_ | refine zM ?_ | refine zB ?_ | refine zA ?_ | refine zS ?_ | refine zL ?_)
      refine qc ?_
      (repeat refine qb ?_); refine qk ?_
      refine zg rfl ?_
      rw [e, IntWalk.i64_in _ (by omega)]
    · rw [e] at h; simp at h; omega
end Go.Proofs.YtppfcacnofjmdaaGreatDoor
namespace Go.Proofs.YtppfcacnofjmdaaGreatDoor
set_option linter.unusedVariables false
set_option linter.unusedSimpArgs false
open Go.RowKit
set_option maxHeartbeats 4000000
def pA (p : Pol) (a : Int) (l : List Rul) : Pol := .mk p.id p.set a p.target l p.kids p.obls
theorem pA_f {n : Nat} {p : Pol} (h : PolF n p) {a : Int} (ha : R64 a) {l : List Rul} (hl : ∀ r ∈ l, r ∈ p.rules) (hn : l.length ≤ p.rules.length) : PolF n (pA p a l) := by
  cases n with
  | zero => exact h.elim
  | succ n => exact ⟨⟨h.1.id, h.1.tgt, fun r hr => h.1.rules r (hl r hr), h.1.obls, Nat.le_trans hn h.1.nr, h.1.nk⟩, ha, h.2.2⟩
theorem pA_sz {p : Pol} {a : Int} {l : List Rul} (h1 : l.length ≤ p.rules.length) (h2 : qT rusz l ≤ qT rusz p.rules) : (pA p a l).sz ≤ p.sz := by
  have e1 := Pol.sz_eq p
  have e2 : (pA p a l).sz = 1 + l.length + txt p.id + tsz p.target + osz p.obls + qT rusz l + qT Pol.sz p.kids := Pol.sz_eq (pA p a l)
  omega
theorem pA_P (p : Pol) (a : Int) (l : List Rul) : polP (pA p a l) = [pS p.id, pB p.set, pI a, tgtP p.target, .sl 5 (l.map zt), .sl 7 (p.kids.map polP), zQ p.obls] := by rw [zf]; rfl
theorem pA_h {n : Nat} {p : Pol} (hf : PolF n p) (hsz : p.sz ≤ 3000) (h : zb p = 0) (hs : p.set = false) (ht : p.target = []) {g : List Giv} (hG : GivOk g) {a : Int} (ha : a = 1 ∨ a = 2 ∨ a = 3) {l : List Rul} (hr : ∃ l', l'.Perm p.rules ∧ l.Sublist l') (hz : qT rusz l ≤ qT rusz p.rules) :
    Holds Tryz.prog 19 [.agg [pS p.id, pB p.set, pI a, tgtP p.target, .sl 5 (l.map zt), .sl 7 (p.kids.map polP), zQ p.obls], zP g] (.tup [.p (.agg (rsP (wM (pA p a l) 2 (l.map (qaw g))))), .p (pI 0)]) [] ∧
      (wM (pA p a l) 2 (l.map (qaw g))).m ∈ mks ∧ (wM (pA p a l) 2 (l.map (qaw g))).obls.length ≤ 1000000 := by
  obtain ⟨l', hp, hsub⟩ := hr
  have hlen : l.length ≤ p.rules.length := by have := hsub.length_le; have := hp.length_eq; omega
  have hR := right_rules (q := pA p a l) h hs rfl rfl rfl rfl rfl ⟨by show 1 ≤ a; omega, by show a ≤ 6; omega, by show a ≠ 4; omega⟩ ⟨l', hp, hsub⟩
  have hF := pA_f hf (a := a) ⟨by omega, by omega⟩ (fun r hr => hp.mem_iff.1 (hsub.subset hr)) hlen
  have hZ := pA_sz (a := a) hlen hz
  have H := evPol_h (pA p a l) hF (by omega) g hG
  have E : qF g 4 (pA p a l) = wM (pA p a l) 2 (l.map (qaw g)) := eval_rules g hR hs ht
  have hL := decide_obls (g := g) (p := pA p a l) (by omega)
  have hM := qaa g 4 (pA p a l)
  rw [evalS_right hR, E, pA_P] at H
  rw [E] at hL hM
  exact ⟨H, hM, hL⟩
theorem copyA_h {n : Nat} (p : Pol) (hf : PolF n p) (hsz : p.sz ≤ 3000) (a : Int) (ha : R64 a) : Holds Tryz.prog 26 [.agg [pS p.id, pB p.set, pI a, tgtP p.target, .sl 5 (p.rules.map zt), .sl 7 (p.kids.map polP), zQ p.obls]] (.agg [.p (pS p.id), .p (pB p.set), .p (pI a), .p (tgtP p.target), .row 0, .row 1, .p (zQ p.obls)]) (copyO p) := by
  have h := copy_h n (pA p a p.rules) (pA_f hf ha (fun r hr => hr) (Nat.le_refl _)) (Nat.le_trans (pA_sz (Nat.le_refl _) (Nat.le_refl _)) hsz)
  rw [pA_P] at h
  exact h
theorem slice_min2 {α : Type} (f : α → List PV) (l : List α) (N : Int) (n : Nat) (hN : N = n) : ((l.map f).drop (Int.toNat 0)).take (Int.toNat (if ((l.map f).length : Int) < N then ((l.map f).length : Int) else N) - Int.toNat 0) = (l.take n).map f := by
  subst hN
  rw [List.map_take]
  simp only [Int.toNat_zero, List.drop_zero, Nat.sub_zero, List.length_map]
  split
  · rw [Int.toNat_natCast, List.take_of_length_le (by simp), List.take_of_length_le (by simp; omega)]
  · rw [Int.toNat_natCast]
theorem slice_lo {α : Type} (f : α → List PV) (l : List α) (n : Nat) : ((l.map f).drop (Int.toNat (n : Int))).take (Int.toNat ((l.map f).length : Int) - Int.toNat (n : Int)) = (l.drop n).map f := by
  rw [Int.toNat_natCast, Int.toNat_natCast, List.take_of_length_le (by simp), List.map_drop]
theorem slice_hi {α : Type} (f : α → List PV) (l : List α) (n : Nat) : ((l.map f).drop (Int.toNat 0)).take (Int.toNat (n : Int) - Int.toNat 0) = (l.take n).map f := by
  rw [Int.toNat_natCast, List.map_take]; simp
theorem sumBy_split {α : Type} (f : α → Nat) (l : List α) (n : Nat) : qT f (l.drop n ++ l.take n) = qT f l := by
  have h : qT f (l.take n ++ l.drop n) = qT f l := by rw [List.take_append_drop]
  simp only [qT, List.map_append, List.sum_append] at h ⊢
  omega
theorem evalFirst_h {n : Nat} (p : Pol) (hf : PolF n p) (g : List Giv) (hg : ∀ x ∈ g, x.Fit) (alg cut : Int) (halg : R64 alg) (hcut : R64 cut) : Holds Tryz.prog 6 [.agg (polP p), zP g, pI alg, pI cut] (.p (pB true)) [] := by
  have hS := small_h p hf
  have hR := right_h p (polF_fit 4 hf)
  obtain ⟨id, set, al, tg, rules, kids, obls⟩ := p
  have l1 : ((rules.map zt).length) = rules.length := by simp
  have l2 : ((tg.map fun x => [anyP x]).length) = tg.length := by simp
  refine qA (ts := [8]) Tryz.func6 (by kernel_rfl) rfl rfl rfl ?_
  (repeat refine qb ?_); refine qa ?_
  repeat (first | refine zR ?_ | refine zK ?_ | refine zM ?_ | refine zB ?_ | refine zA ?_ | refine zS ?_ | refine zL ?_)
  refine qc ?_
  (repeat refine qb ?_); refine qa ?_
  repeat (first | refine zR ?_ | refine zK ?_ | refine zM ?_ | refine zB ?_ | refine zA ?_ | refine zS ?_ | refine zL ?_)
  refine qn rfl (act_call_E rfl rfl rfl rfl (hS) rfl ?_)
  rintro _ ⟨b1, rfl, h1⟩
  cases b1 with
  | false =>
    repeat (first | refine zR ?_ | refine zK ?_ | refine zM ?_ | refine zB ?_ | refine zA ?_ | refine zS ?_ | refine zL ?_)
    refine qc ?_
    (repeat refine qb ?_); refine qf rfl (fun hc => ?_) (fun hc => ?_)
    · (repeat refine qb ?_); refine qa ?_
      repeat (first | refine zR ?_ | refine zK ?_ | refine zM ?_ | refine zB ?_ | refine zA ?_ | refine zS ?_ | refine zL ?_)
      refine qn rfl (qg rfl rfl rfl rfl (jB) rfl rfl ?_)
      repeat (first | refine zR ?_ | refine zK ?_ | refine zM ?_ | refine zB ?_ | refine zA ?_ | refine zS ?_ | refine zL ?_)
      refine qc ?_
      (repeat refine qb ?_); refine qk ?_
      exact wS rfl rfl
    · cases hc
  | true =>
    repeat (first | refine zR ?_ | refine zK ?_ | refine zM ?_ | refine zB ?_ | refine zA ?_ | refine zS ?_ | refine zL ?_)
    refine qn rfl (act_call_E rfl rfl rfl rfl (few_h g hg) rfl ?_)
    rintro _ ⟨b2, rfl, h2⟩
    cases b2 with
    | false =>
      repeat (first | refine zR ?_ | refine zK ?_ | refine zM ?_ | refine zB ?_ | refine zA ?_ | refine zS ?_ | refine zL ?_)
      refine qc ?_
      (repeat refine qb ?_); refine qf rfl (fun hc => ?_) (fun hc => ?_)
      · (repeat refine qb ?_); refine qa ?_
        repeat (first | refine zR ?_ | refine zK ?_ | refine zM ?_ | refine zB ?_ | refine zA ?_ | refine zS ?_ | refine zL ?_)
        refine qn rfl (qg rfl rfl rfl rfl (jB) rfl rfl ?_)
        repeat (first | refine zR ?_ | refine zK ?_ | refine zM ?_ | refine zB ?_ | refine zA ?_ | refine zS ?_ | refine zL ?_)
        refine qc ?_
        (repeat refine qb ?_); refine qk ?_
        exact wS rfl rfl
      · cases hc
    | true =>
      repeat (first | refine zR ?_ | refine zK ?_ | refine zM ?_ | refine zB ?_ | refine zA ?_ | refine zS ?_ | refine zL ?_)
      refine qn rfl (qg rfl rfl rfl rfl (hR) rfl rfl ?_)
      repeat (first | refine zR ?_ | refine zK ?_ | refine zM ?_ | refine zB ?_ | refine zA ?_ | refine zS ?_ | refine zL ?_)
      by_cases h0 : zb (.mk id set al tg rules kids obls) = 0
      rotate_left
      · rw [show (zb (.mk id set al tg rules kids obls) != 0) = true by simpa using h0]
        repeat (first | refine zR ?_ | refine zK ?_ | refine zM ?_ | refine zB ?_ | refine zA ?_ | refine zS ?_ | refine zL ?_)
        refine qc ?_
        (repeat refine qb ?_); refine qf rfl (fun hc => ?_) (fun hc => ?_)
        · (repeat refine qb ?_); refine qa ?_
          repeat (first | refine zR ?_ | refine zK ?_ | refine zM ?_ | refine zB ?_ | refine zA ?_ | refine zS ?_ | refine zL ?_)
          refine qn rfl (qg rfl rfl rfl rfl (jB) rfl rfl ?_)
          repeat (first | refine zR ?_ | refine zK ?_ | refine zM ?_ | refine zB ?_ | refine zA ?_ | refine zS ?_ | refine zL ?_)
          refine qc ?_
          (repeat refine qb ?_); refine qk ?_
          exact wS rfl rfl
        · cases hc
      rw [show (zb (.mk id set al tg rules kids obls) != 0) = false by simpa using h0]
      repeat (first | refine zR ?_ | refine zK ?_ | refine zM ?_ | refine zB ?_ | refine zA ?_ | refine zS ?_ | refine zL ?_)
      cases set with
      | true =>
        repeat (first | refine zR ?_ | refine zK ?_ | refine zM ?_ | refine zB ?_ | refine zA ?_ | refine zS ?_ | refine zL ?_)
        refine qc ?_
        (repeat refine qb ?_); refine qf rfl (fun hc => ?_) (fun hc => ?_)
        · (repeat refine qb ?_); refine qa ?_
          repeat (first | refine zR ?_ | refine zK ?_ | refine zM ?_ | refine zB ?_ | refine zA ?_ | refine zS ?_ | refine zL ?_)
          refine qn rfl (qg rfl rfl rfl rfl (jB) rfl rfl ?_)
          repeat (first | refine zR ?_ | refine zK ?_ | refine zM ?_ | refine zB ?_ | refine zA ?_ | refine zS ?_ | refine zL ?_)
          refine qc ?_
          (repeat refine qb ?_); refine qk ?_
          exact wS rfl rfl
        · cases hc
      | false =>
        repeat (first | refine zR ?_ | refine zK ?_ | refine zM ?_ | refine zB ?_ | refine zA ?_ | refine zS ?_ | refine zL ?_)
        cases tg with
        | cons t0 tr =>
          rw [show decide ((((t0 :: tr).map fun x => [anyP x]).length : Int) > 0) = true by simp]
          repeat (first | refine zR ?_ | refine zK ?_ | refine zM ?_ | refine zB ?_ | refine zA ?_ | refine zS ?_ | refine zL ?_)
          refine qc ?_
          (repeat refine qb ?_); refine qf rfl (fun hc => ?_) (fun hc => ?_)
          · (repeat refine qb ?_); refine qa ?_
            repeat (first | refine zR ?_ | refine zK ?_ | refine zM ?_ | refine zB ?_ | refine zA ?_ | refine zS ?_ | refine zL ?_)
            refine qn rfl (qg rfl rfl rfl rfl (jB) rfl rfl ?_)
            repeat (first | refine zR ?_ | refine zK ?_ | refine zM ?_ | refine zB ?_ | refine zA ?_ | refine zS ?_ | refine zL ?_)
            refine qc ?_
            (repeat refine qb ?_); refine qk ?_
            exact wS rfl rfl
          · cases hc
        | nil =>
          repeat (first | refine zR ?_ | refine zK ?_ | refine zM ?_ | refine zB ?_ | refine zA ?_ | refine zS ?_ | refine zL ?_)
          refine qc ?_
          (repeat refine qb ?_); refine qf rfl (fun hc => ?_) (fun hc => ?_)
          · cases hc
          refine qm ?_
          have hsz := h1 rfl
          have hG := givOk_of hg (h2 rfl)
          obtain ⟨_, hrl, _, _, hru, _⟩ := sz_facts hsz (Nat.le_refl _)
          simp only [Pol.rules] at hrl hru
          have hA := fun {a : Int} ha {l : List Rul} hr hz => pA_h (p := .mk id false al [] rules kids obls) hf hsz h0 rfl rfl hG (a := a) ha (l := l) hr hz
          obtain ⟨HA, hXm, hXl⟩ := hA (a := 3) (.inr (.inr rfl)) (l := rules) ⟨rules, .refl _, .refl _⟩ (Nat.le_refl _)
          obtain ⟨X, hX⟩ : ∃ X, X = wM (pA (.mk id false al [] rules kids obls) 3 rules) 2 (rules.map (qaw g)) := ⟨_, rfl⟩
          rw [← hX] at HA hXm hXl
          have hRul := fun r (hr : r ∈ rules) => ruleR_h r g ((polF_fit 1 hf).1.rules r hr) (tarSm_of (hru r hr).1) (by have := (hru r hr).2.2; omega) hG.fit hG.len hG.bags
          refine SW.wk (qq [1, 2, 3, 4] [(4, 4)] rfl rfl) ?_
          (repeat refine qb ?_); refine qa ?_
          repeat (first | refine zR ?_ | refine zK ?_ | refine zM ?_ | refine zB ?_ | refine zA ?_ | refine zS ?_ | refine zL ?_)
          refine qn rfl (qD rfl rfl rfl rfl (copy_h n (.mk id false al [] rules kids obls) hf hsz) rfl rfl rfl ?_)
          repeat (first | refine zR ?_ | refine zK ?_ | refine zM ?_ | refine zB ?_ | refine zA ?_ | refine zS ?_ | refine zL ?_)
          refine qc ?_
          refine SW.wk ((zN (k := 47000) rfl).trans (zN (k := 47001) rfl)) ?_
          (repeat refine qb ?_); refine qa ?_
          repeat (first | refine zR ?_ | refine zK ?_ | refine zM ?_ | refine zB ?_ | refine zA ?_ | refine zS ?_ | refine zL ?_)
          refine qc ?_
          refine SW.wk (qq [1, 2, 3, 9] [(9, 9)] rfl rfl) ?_
          change SW _ _ _ ⟨160, [(1, .p (zP g)), (2, .p (pI alg)), (3, .p (pI cut)), (9, .ptr 9 0)], [(9, .cells [.p (pS id), .p (pB false), .p (pI 3), .p (tgtP []), .p (.sl 5 (rules.map zt)), .p (.sl 7 (kids.map polP)), .p (zQ obls)])]⟩
          (repeat refine qb ?_); refine qa ?_
          repeat (first | refine zR ?_ | refine zK ?_ | refine zM ?_ | refine zB ?_ | refine zA ?_ | refine zS ?_ | refine zL ?_)
          refine qn rfl (qD rfl rfl rfl rfl (HA) rfl rfl rfl ?_)
          repeat (first | refine zR ?_ | refine zK ?_ | refine zM ?_ | refine zB ?_ | refine zA ?_ | refine zS ?_ | refine zL ?_)
          refine qc ?_
          (repeat refine qb ?_); refine qa ?_
          repeat (first | refine zR ?_ | refine zK ?_ | refine zM ?_ | refine zB ?_ | refine zA ?_ | refine zS ?_ | refine zL ?_)
          refine qc ?_
          refine SW.wk (qq [1, 2, 3, 9, 10, 11, 12] [(9, 9), (10, 10)] rfl rfl) ?_
          (repeat refine qb ?_); refine ql ?_
          refine SW.mono (Q := fun e s => e = .exit 0 ∧ ∃ k : Nat, k ≤ rules.length ∧ (∀ x ∈ (rules.map (qaw g)).take k, x.m = (0, 0)) ∧ (∀ h : k < (rules.map (qaw g)).length, (rules.map (qaw g))[k].m ≠ (0, 0)) ∧ s = ⟨160, [(1, .p (zP g)), (2, .p (pI alg)), (3, .p (pI cut)), (9, .ptr 9 0), (10, .ptr 10 0), (11, .p (pI 0)), (12, .p (pI k))], [(9, .cells [.p (pS id), .p (pB false), .p (pI 3), .p (tgtP []), .p (.sl 5 (rules.map zt)), .p (.sl 7 (kids.map polP)), .p (zQ obls)]), (10, .cells [.p (mkP X.m), .p (zQ X.obls)])]⟩) ?_ ?_
          · refine qO (fun m s => ∃ (k : Nat) (kk : Int), k ≤ rules.length ∧ m = rules.length - k ∧ kk = k ∧ (∀ x ∈ (rules.map (qaw g)).take k, x.m = (0, 0)) ∧ s = ⟨160, [(1, .p (zP g)), (2, .p (pI alg)), (3, .p (pI cut)), (9, .ptr 9 0), (10, .ptr 10 0), (11, .p (pI 0)), (12, .p (pI kk))], [(9, .cells [.p (pS id), .p (pB false), .p (pI 3), .p (tgtP []), .p (.sl 5 (rules.map zt)), .p (.sl 7 (kids.map polP)), .p (zQ obls)]), (10, .cells [.p (mkP X.m), .p (zQ X.obls)])]⟩) rules.length ⟨0, 0, Nat.zero_le _, rfl, rfl, (fun x hx => by simp at hx), rfl⟩ ?_
            rintro m s ⟨k, _, hk, rfl, rfl, ha, rfl⟩
            by_cases hlt : k < rules.length
            · have hget : (rules.map (qaw g))[k]'(by simpa using hlt) = qaw g rules[k] := by simp
              have hmk : (qaw g rules[k]).m ∈ mks := qan _ _ _
              have hE := mkE_eq hmk (b := (0, 0)) (by simp [mks])
              (repeat refine qb ?_); refine qa ?_
              repeat (first | refine zR ?_ | refine zK ?_ | refine zM ?_ | refine zB ?_ | refine zA ?_ | refine zS ?_ | refine zL ?_)
              rw [l1, show decide ((k : Int) < rules.length) = true by simp; omega]
              repeat (first | refine zR ?_ | refine zK ?_ | refine zM ?_ | refine zB ?_ | refine zA ?_ | refine zS ?_ | refine zL ?_)
              refine qw qe rfl rfl (by rw [l1]; omega) rfl ?_
              rw [qJ hlt]
              repeat (first | refine zR ?_ | refine zK ?_ | refine zM ?_ | refine zB ?_ | refine zA ?_ | refine zS ?_ | refine zL ?_)
              refine qn rfl (qD rfl rfl rfl rfl (hRul _ (List.getElem_mem hlt)) rfl rfl rfl ?_)
              repeat (first | refine zR ?_ | refine zK ?_ | refine zM ?_ | refine zB ?_ | refine zA ?_ | refine zS ?_ | refine zL ?_)
              refine qc ?_
              (repeat refine qb ?_); refine qf rfl (fun hq => ?_) (fun hq => ?_)
              · change mkE (qaw g rules[k]).m (0, 0) = true at hq
                rw [hE] at hq
                refine qm ?_
                (repeat refine qb ?_); refine ql ?_
                (repeat refine qb ?_); refine qa ?_
                repeat (first | refine zR ?_ | refine zK ?_ | refine zM ?_ | refine zB ?_ | refine zA ?_ | refine zS ?_ | refine zL ?_)
                refine qc ?_
                refine ⟨_, _, ?_, qq [1, 2, 3, 9, 10, 11, 12] [(9, 9), (10, 10)] rfl rfl, k + 1, _, hlt, rfl, qz hlt (by omega), ?_, rfl⟩
                · omega
                · refine take_ok (by simpa using hlt) ha ?_
                  rw [hget]; exact of_decide_eq_true hq
              · change mkE (qaw g rules[k]).m (0, 0) = false at hq
                rw [hE] at hq
                refine SW.wk (qq [1, 2, 3, 9, 10, 11, 12] [(9, 9), (10, 10)] rfl rfl) ?_
                refine qK ?_
                exact ⟨rfl, k, hk, ha, fun _ => by rw [hget]; exact of_decide_eq_false hq, rfl⟩
            · (repeat refine qb ?_); refine qa ?_
              repeat (first | refine zR ?_ | refine zK ?_ | refine zM ?_ | refine zB ?_ | refine zA ?_ | refine zS ?_ | refine zL ?_)
              rw [l1, show decide ((k : Int) < rules.length) = false by simp; omega]
              repeat (first | refine zR ?_ | refine zK ?_ | refine zM ?_ | refine zB ?_ | refine zA ?_ | refine zS ?_ | refine zL ?_)
              refine qc ?_
              (repeat refine qb ?_); refine qf rfl (fun hq => ?_) (fun hq => ?_)
              · cases hq
              refine SW.wk (qq [1, 2, 3, 9, 10, 11, 12] [(9, 9), (10, 10)] rfl rfl) ?_
              refine qK ?_
              exact ⟨rfl, k, hk, ha, fun h => absurd (by simpa using h) hlt, rfl⟩
          rintro e s ⟨rfl, k, hk, ha, hne, rfl⟩
          show SW _ _ _ _
          have hfirst := joinR_first (p := pA (.mk id false al [] rules kids obls) 3 rules) (q := pA (.mk id false al [] rules kids obls) 3 (rules.take (k + 1))) rfl rfl rfl ha hne
          rw [← hX, ← List.map_take] at hfirst
          obtain ⟨HB, _, _⟩ := hA (a := 3) (.inr (.inr rfl)) (l := rules.take (k + 1)) ⟨rules, .refl _, List.take_sublist _ _⟩ (sumBy_take _ _ _)
          rw [hfirst] at HB
          (repeat refine qb ?_); refine qa ?_
          repeat (first | refine zR ?_ | refine zK ?_ | refine zM ?_ | refine zB ?_ | refine zA ?_ | refine zS ?_ | refine zL ?_)
          refine qn rfl (qD rfl rfl rfl rfl (copyA_h (.mk id false al [] rules kids obls) hf hsz 3 ⟨by decide, by decide⟩) rfl rfl rfl ?_)
          repeat (first | refine zR ?_ | refine zK ?_ | refine zM ?_ | refine zB ?_ | refine zA ?_ | refine zS ?_ | refine zL ?_)
          refine qc ?_
          refine SW.wk ((zN (k := 74000) rfl).trans (zN (k := 74001) rfl)) ?_
          refine SW.wk (qq [1, 2, 3, 9, 10, 11, 12, 13] [(9, 9), (10, 10), (13, 13)] rfl rfl) ?_
          change SW _ _ _ ⟨160, [(1, .p (zP g)), (2, .p (pI alg)), (3, .p (pI cut)), (9, .ptr 9 0), (10, .ptr 10 0), (11, .p (pI 0)), (12, .p (pI k)), (13, .ptr 13 0)], [(9, .cells [.p (pS id), .p (pB false), .p (pI 3), .p (tgtP []), .p (.sl 5 (rules.map zt)), .p (.sl 7 (kids.map polP)), .p (zQ obls)]), (10, .cells [.p (mkP X.m), .p (zQ X.obls)]), (13, .cells [.p (pS id), .p (pB false), .p (pI 3), .p (tgtP []), .p (.sl 5 (rules.map zt)), .p (.sl 7 (kids.map polP)), .p (zQ obls)])]⟩
          (repeat refine qb ?_); refine qa ?_
          repeat (first | refine zR ?_ | refine zK ?_ | refine zM ?_ | refine zB ?_ | refine zA ?_ | refine zS ?_ | refine zL ?_)
          rw [show IntKind.i64.wrap ((k : Int) + 1) = ((k + 1 : Nat) : Int) from by rw [IntWalk.i64_in _ (by omega)]; rfl]
          repeat (first | refine zR ?_ | refine zK ?_ | refine zM ?_ | refine zB ?_ | refine zA ?_ | refine zS ?_ | refine zL ?_)
          refine qw qe rfl rfl (by simp only [List.length_map]; first | (split <;> omega) | (dsimp only; split <;> omega)) rfl ?_
          rw [slice_min2 zt rules _ (k + 1) rfl]
          repeat (first | refine zR ?_ | refine zK ?_ | refine zM ?_ | refine zB ?_ | refine zA ?_ | refine zS ?_ | refine zL ?_)
          refine qc ?_
          (repeat refine qb ?_); refine qa ?_
          repeat (first | refine zR ?_ | refine zK ?_ | refine zM ?_ | refine zB ?_ | refine zA ?_ | refine zS ?_ | refine zL ?_)
          refine qn rfl (qD rfl rfl rfl rfl (HB) rfl rfl rfl ?_)
          repeat (first | refine zR ?_ | refine zK ?_ | refine zM ?_ | refine zB ?_ | refine zA ?_ | refine zS ?_ | refine zL ?_)
          refine qc ?_
          (repeat refine qb ?_); refine qa ?_
          repeat (first | refine zR ?_ | refine zK ?_ | refine zM ?_ | refine zB ?_ | refine zA ?_ | refine zS ?_ | refine zL ?_)
          refine qn rfl (qg rfl rfl rfl rfl (qav X hXm hXl) rfl rfl ?_)
          repeat (first | refine zR ?_ | refine zK ?_ | refine zM ?_ | refine zB ?_ | refine zA ?_ | refine zS ?_ | refine zL ?_)
          refine qc ?_
          (repeat refine qb ?_); refine qf rfl (fun hq => ?_) (fun hq => ?_)
          · cases hq
          refine qm ?_
          clear ha hne hfirst HB hX HA
          obtain ⟨K, hKe, hK⟩ : ∃ K : Int, 1 + (0 + alg % (1 - 0 + 1)) = K ∧ (K = 1 ∨ K = 2) := ⟨_, rfl, by omega⟩
          obtain ⟨N, hNe, hN⟩ : ∃ N : Nat, 0 + cut % ((rules.length : Int) - 0 + 1) = (N : Int) ∧ N ≤ rules.length := by
            have h1 := Int.emod_nonneg cut (show ((rules.length : Int) - 0 + 1) ≠ 0 by omega)
            have h2 := Int.emod_lt_of_pos cut (show (0 : Int) < (rules.length : Int) - 0 + 1 by omega)
            exact ⟨(cut % ((rules.length : Int) - 0 + 1)).toNat, by omega, by omega⟩
          have HW1 := within_h alg 0 1 halg (by omega) (by omega) (by omega)
          have HW2 := within_h cut 0 (rules.length : Int) hcut (by omega) (by omega) (by omega)
          rw [hNe] at HW2
          obtain ⟨HC, hCm, hCl⟩ := hA (a := K) (by omega) (l := rules) ⟨rules, .refl _, .refl _⟩ (Nat.le_refl _)
          have hperm : (rules.drop N ++ rules.take N).Perm rules := by
            have := List.perm_append_comm (l₁ := rules.drop N) (l₂ := rules.take N)
            rwa [List.take_append_drop] at this
          obtain ⟨HD, hDm, hDl⟩ := hA (a := K) (by omega) (l := rules.drop N ++ rules.take N) ⟨_, hperm, .refl _⟩ (by rw [sumBy_split]; exact Nat.le_refl _)
          obtain ⟨hrot1, hrot2⟩ := joinR_rot (p := pA (.mk id false al [] rules kids obls) K rules) (q := pA (.mk id false al [] rules kids obls) K (rules.drop N ++ rules.take N)) hK rfl rfl ((rules.take N).map (qaw g)) ((rules.drop N).map (qaw g))
          rw [← List.map_append, ← List.map_append, List.take_append_drop] at hrot1 hrot2
          generalize wM (pA (.mk id false al [] rules kids obls) K rules) 2 (rules.map (qaw g)) = C at *
          generalize wM (pA (.mk id false al [] rules kids obls) K (rules.drop N ++ rules.take N)) 2 ((rules.drop N ++ rules.take N).map (qaw g)) = D at *
          refine SW.wk (qq [1, 2, 3, 9] [(9, 9)] rfl rfl) ?_
          change SW _ _ _ ⟨160, [(1, .p (zP g)), (2, .p (pI alg)), (3, .p (pI cut)), (9, .ptr 9 0)], [(9, .cells [.p (pS id), .p (pB false), .p (pI 3), .p (tgtP []), .p (.sl 5 (rules.map zt)), .p (.sl 7 (kids.map polP)), .p (zQ obls)])]⟩
          (repeat refine qb ?_); refine qa ?_
          repeat (first | refine zR ?_ | refine zK ?_ | refine zM ?_ | refine zB ?_ | refine zA ?_ | refine zS ?_ | refine zL ?_)
          refine qn rfl (qg rfl rfl rfl rfl (HW1) rfl rfl ?_)
          repeat (first | refine zR ?_ | refine zK ?_ | refine zM ?_ | refine zB ?_ | refine zA ?_ | refine zS ?_ | refine zL ?_)
          rw [show IntKind.i64.wrap (1 + (0 + alg % (1 - 0 + 1))) = K from by rw [IntWalk.i64_in _ (by omega)]; exact hKe]
          repeat (first | refine zR ?_ | refine zK ?_ | refine zM ?_ | refine zB ?_ | refine zA ?_ | refine zS ?_ | refine zL ?_)
          refine qc ?_
          refine SW.wk (qq [1, 3, 9] [(9, 9)] rfl rfl) ?_
          change SW _ _ _ ⟨160, [(1, .p (zP g)), (3, .p (pI cut)), (9, .ptr 9 0)], [(9, .cells [.p (pS id), .p (pB false), .p (pI K), .p (tgtP []), .p (.sl 5 (rules.map zt)), .p (.sl 7 (kids.map polP)), .p (zQ obls)])]⟩
          (repeat refine qb ?_); refine qa ?_
          repeat (first | refine zR ?_ | refine zK ?_ | refine zM ?_ | refine zB ?_ | refine zA ?_ | refine zS ?_ | refine zL ?_)
          refine qn rfl (qD rfl rfl rfl rfl (HC) rfl rfl rfl ?_)
          repeat (first | refine zR ?_ | refine zK ?_ | refine zM ?_ | refine zB ?_ | refine zA ?_ | refine zS ?_ | refine zL ?_)
          refine qc ?_
          (repeat refine qb ?_); refine qa ?_
          repeat (first | refine zR ?_ | refine zK ?_ | refine zM ?_ | refine zB ?_ | refine zA ?_ | refine zS ?_ | refine zL ?_)
          rw [l1]
          refine qn rfl (qg rfl rfl rfl rfl (HW2) rfl rfl ?_)
          repeat (first | refine zR ?_ | refine zK ?_ | refine zM ?_ | refine zB ?_ | refine zA ?_ | refine zS ?_ | refine zL ?_)
          refine qc ?_
          refine SW.wk (qq [1, 9, 16, 17, 18] [(9, 9), (16, 16)] rfl rfl) ?_
          change SW _ _ _ ⟨160, [(1, .p (zP g)), (9, .ptr 9 0), (16, .ptr 16 0), (17, .p (pI 0)), (18, .p (pI N))], [(9, .cells [.p (pS id), .p (pB false), .p (pI K), .p (tgtP []), .p (.sl 5 (rules.map zt)), .p (.sl 7 (kids.map polP)), .p (zQ obls)]), (16, .cells [.p (mkP C.m), .p (zQ C.obls)])]⟩
          (repeat refine qb ?_); refine zH 13 rfl (by kernel_rfl) ?_
          refine qy (i := 1) (K := [9, 117, 122, 127]) (by kernel_rfl) (by kernel_rfl) rfl rfl (qi qe rfl (by exact True.intro)) rfl ?_
          refine qy (i := 2) (K := [117, 122, 127]) (by kernel_rfl) (by kernel_rfl) rfl rfl (qi qe rfl (by exact True.intro)) rfl ?_
          refine qy (i := 3) (K := [9, 117, 122, 127]) (by kernel_rfl) (by kernel_rfl) rfl rfl (qi qe rfl (by exact True.intro)) rfl ?_
          refine qy (i := 4) (K := [9, 117, 122, 127]) (by kernel_rfl) (by kernel_rfl) rfl rfl (qi qe rfl (by rw [l1]; omega)) rfl ?_
          rw [slice_lo zt rules N]
          refine qy (i := 6) (K := [9, 117, 122, 127]) (by kernel_rfl) (by kernel_rfl) rfl rfl (qi qe rfl (by exact True.intro)) rfl ?_
          refine qy (i := 7) (K := [117, 122, 127]) (by kernel_rfl) (by kernel_rfl) rfl rfl (qi qe rfl (by exact True.intro)) rfl ?_
          refine qy (i := 8) (K := [9, 117, 122, 127]) (by kernel_rfl) (by kernel_rfl) rfl rfl (qi qe rfl (by exact True.intro)) rfl ?_
          refine qy (i := 9) (K := [9, 117, 122, 127]) (by kernel_rfl) (by kernel_rfl) rfl rfl (qi qe rfl (by simp only [List.length_map]; omega)) rfl ?_
          rw [slice_hi zt rules N]
          refine qo 0 (by kernel_rfl) ?_
          first | refine qd rfl rfl rfl (aM (h := ?_)) | refine qd rfl rfl rfl (aB (h := ?_)) | refine qd rfl rfl rfl (aA (h := ?_)) | refine qd rfl rfl rfl (aS (h := ?_)) | refine qd rfl rfl rfl (aL (h := ?_)) | refine qd rfl rfl rfl (qv (K := []) (qi qe rfl (by exact True.intro)) rfl ?_)
          refine qo 5 (by kernel_rfl) ?_
          refine qd rfl rfl rfl (qp qe rfl rfl rfl rfl rfl rfl rfl rfl rfl rfl rfl rfl rfl rfl rfl rfl (by simp only [List.length_append, List.length_map, List.length_take, List.length_drop, List.length_cons, List.length_nil]; unfold reachBytes; omega) (by simp only [List.length_append, List.length_map, List.length_take, List.length_drop, List.length_cons, List.length_nil]; omega) ?_)
          refine qo 10 (by kernel_rfl) ?_
          refine qd rfl rfl rfl (qp qe rfl rfl rfl rfl rfl rfl rfl rfl rfl rfl rfl rfl rfl rfl rfl rfl (by simp only [List.length_append, List.length_map, List.length_take, List.length_drop, List.length_cons, List.length_nil]; unfold reachBytes; omega) (by simp only [List.length_append, List.length_map, List.length_take, List.length_drop, List.length_cons, List.length_nil]; omega) ?_)
          refine qy (i := 11) (K := [9, 117, 122, 127]) (by kernel_rfl) (by kernel_rfl) rfl rfl (qi qe rfl (by exact True.intro)) rfl ?_
          refine qo 12 (by kernel_rfl) ?_
          first | refine qd rfl rfl rfl (aM (h := ?_)) | refine qd rfl rfl rfl (aB (h := ?_)) | refine qd rfl rfl rfl (aA (h := ?_)) | refine qd rfl rfl rfl (aS (h := ?_)) | refine qd rfl rfl rfl (aL (h := ?_)) | refine qd rfl rfl rfl (qv (K := []) (qi qe rfl (by exact True.intro)) rfl ?_)
          refine zd (by kernel_rfl) ?_
          refine SW.wk (qq [1, 9, 16, 17] [(9, 9), (16, 16), (127, 127)] rfl rfl) ?_
          refine ?fk17_312
          rotate_left
          refine SW.wk (zN (k := 127) rfl) ?_
          refine SW.wk (qq [1, 9, 16, 17] [(9, 9), (16, 16)] rfl rfl) ?_
          have eL : ([] ++ (rules.drop N).map zt) ++ (rules.take N).map zt = (rules.drop N ++ rules.take N).map zt := by rw [List.nil_append, List.map_append]
          change SW _ _ _ ⟨160, [(1, .p (zP g)), (9, .ptr 9 0), (16, .ptr 16 0), (17, .p (pI 0))], [(9, .cells [.p (pS id), .p (pB false), .p (pI K), .p (tgtP []), .p (.sl 5 (([] ++ (rules.drop N).map zt) ++ (rules.take N).map zt)), .p (.sl 7 (kids.map polP)), .p (zQ obls)]), (16, .cells [.p (mkP C.m), .p (zQ C.obls)])]⟩
          rw [eL]
          (repeat refine qb ?_); refine qa ?_
          repeat (first | refine zR ?_ | refine zK ?_ | refine zM ?_ | refine zB ?_ | refine zA ?_ | refine zS ?_ | refine zL ?_)
          refine qn rfl (qD rfl rfl rfl rfl (HD) rfl rfl rfl ?_)
          repeat (first | refine zR ?_ | refine zK ?_ | refine zM ?_ | refine zB ?_ | refine zA ?_ | refine zS ?_ | refine zL ?_)
          refine qc ?_
          refine SW.wk (qq [16, 17, 19, 20] [(16, 16), (19, 19)] rfl rfl) ?_
          have hE : mkE C.m D.m = true := by rw [mkE_eq hCm hDm, hrot1]; simp
          (repeat refine qb ?_); refine qa ?_
          repeat (first | refine zR ?_ | refine zK ?_ | refine zM ?_ | refine zB ?_ | refine zA ?_ | refine zS ?_ | refine zL ?_)
          change SWT _ _ _ _ (St.put _ _ (.p (pB (mkE C.m D.m))))
          rw [hE]
          repeat (first | refine zR ?_ | refine zK ?_ | refine zM ?_ | refine zB ?_ | refine zA ?_ | refine zS ?_ | refine zL ?_)
          rw [show (((C.obls.map Obli.pv).length : Int) == ((D.obls.map Obli.pv).length : Int)) = true by simp [hrot2]]
          repeat (first | refine zR ?_ | refine zK ?_ | refine zM ?_ | refine zB ?_ | refine zA ?_ | refine zS ?_ | refine zL ?_)
          refine qn rfl (qg rfl rfl rfl rfl (jB) rfl rfl ?_)
          repeat (first | refine zR ?_ | refine zK ?_ | refine zM ?_ | refine zB ?_ | refine zA ?_ | refine zS ?_ | refine zL ?_)
          refine qc ?_
          (repeat refine qb ?_); refine qk ?_
          exact wS rfl rfl
end Go.Proofs.YtppfcacnofjmdaaGreatDoor
namespace Go.Proofs.YtppfcacnofjmdaaGreatDoor
set_option linter.unusedVariables false
set_option linter.unusedSimpArgs false
open Go.RowKit
inductive RelsP (w : World) : List PV → List Value → Prop
  | nil : RelsP w [] []
  | cons {x : PV} {u : Value} {xs : List PV} {us : List Value} (h : RelP (fun _ => True) w x u) (r : RelsP w xs us) : RelsP w (x :: xs) (u :: us)
theorem RelsP.get {w : World} {xs : List PV} {us : List Value} (h : RelsP w xs us) : us.length = xs.length ∧ ∀ (i : Nat) (s : PV) (u : Value), xs[i]? = some s → us[i]? = some u → RelP (fun _ => True) w s u := by
  induction h with
  | nil => exact ⟨rfl, fun i s u h => by simp at h⟩
  | cons h r ih =>
    refine ⟨by simp [ih.1], fun i s u hs hu => ?_⟩
    cases i with
    | zero => simp at hs hu; subst hs; subst hu; exact h
    | succ i => exact ih.2 i s u (by simpa using hs) (by simpa using hu)
theorem law_callsG {P : Program} {f : FuncId} {args : List PV} {us : List Value} {W : World} (hg : GlOk (entry W) fun _ => False) (H : Holds P f args (.p (.v (.bool true))) []) (hr : RelsP W args us) : Calls P f us.toArray W fun e w' => e = .returned (.bool true) ∧ Below W.heap.size W w' := by
  obtain ⟨h1, h2⟩ := hr.get
  refine (H.2 W (fun _ => False) us ⟨fun _ h => h.elim, hg⟩ h1 fun i s u hs hu => (h2 i s u hs hu).weak fun _ _ _ => fun h => h).mono fun e w' ⟨v, γ, he, hb, _, hv⟩ => ?_
  have := hv.v_inv
  subst this
  exact ⟨he, hb⟩
theorem rel_agg {w : World} {cs : List Value} {x : List PV} (h : rPV (fun _ => True) w cs x) : RelP (fun _ => True) w (.agg x) (.agg cs.toArray) := .agg h.1 h.2
theorem rel_int {w : World} (k : IntKind) (n : Int) : RelP (fun _ => True) w (.v (.int k n)) (.int k n) := .v rfl
end Go.Proofs.YtppfcacnofjmdaaGreatDoor
namespace Go.Proofs.YtppfcacnofjmdaaGreatDoor
set_option linter.unusedSimpArgs false
open Go.ChangeShapes Go.WideShapes Go.ChangeAt Go.RowKit
set_option linter.unusedVariables false
theorem law_liftL {H : Type} {enc : TypeId × Value → H} {C : Checked} {os : Os} {f : FuncId} {fn : Func} {s : ChangeSpec} {bt : TypeId} {laid : List (String × DataW Unit)}
    (own : ownKnob C.prog.godebug = none) (started : os.Started) (noInit : C.prog.inits.idxOf? f = none) (hfn : C.prog.funcs[f]? = some fn)
    (witness : ∃ (w : World) (tape : Tape) (i : Input), w.os = os ∧ (w.forCall tape i).Shaped C.prog ∧ i.vars = [] ∧ Input.okWide C.prog (w.forCall tape i) .any w.heap.size f i ∧
      ((s.pre enc C.prog fn [] false (w.forCall tape i).memory i.args ∧ laidMetH C.prog laid (w.forCall tape i).memory) ∧ sizedMet enc C.prog fn (OpenSpec.ofChange s) false (w.forCall tape i).memory i.args) ∧ ({} : Assume).holds C.prog (lone (Frame.enter C.prog f i.args .normal) [] (w.forCall tape i)))
    (hl : laidOutB C.prog = true) (hts : ∀ t ∈ fn.params.toList, C.prog.readableRec t = true ∧ t < C.prog.types.size) (hvars : s.vars = []) (hvt : s.plain.varTypes C.prog = [])
    (hspec : ∀ (W : World) (args : Array Value) (ds : List (DataW H)) (ps : List MemPlace), DataW.TrodAll enc C.prog W 0 (fun _ => true) true fn.params.toList args.toList ds ps → s.fn H ds = { results := [.lit (.bool true)], args := ds })
    (hres : fn.resultTypes = #[bt]) (hbt : C.prog.underlying bt = some .bool)
    (walk : ∀ (W : World) (base : Nat) (args : Array Value) (ds : List (DataW H)) (ps : List MemPlace), laidMetH C.prog laid W →
      (∀ (j : Nat) t v, fn.params[j]? = some t → args[j]? = some v → Value.okWide C.prog W .any base t v) →
      DataW.TrodAll enc C.prog W 0 (fun _ => true) true fn.params.toList args.toList ds ps →
      (∀ n ∈ DataW.weightsEach C.prog fn.params.toList ds, n ≤ reachBytes) →
      Calls C.prog f args W fun e W' => e = .returned (.bool true) ∧ Below W.heap.size W W') :
    ReturnsInHanded {} C os f .any (fun w args => (s.pre enc C.prog fn [] false w args ∧ laidMetH C.prog laid w) ∧ sizedMet enc C.prog fn (OpenSpec.ofChange s) false w args) (s.post enc C.prog fn false true false false) := by
  refine returnsInHanded_of_change_and (X := fun w _ => laidMetH C.prog laid w) (fun _ _ _ hh h => h.of_heap hh) own started noInit hfn witness ?_
  intro W base args ds gs before hval hW _ hsz hL _
  have hlt : ∀ p ∈ before, p.block < W.heap.size := fun p hp => hW.lt p hp
  have hW0 := hW
  obtain ⟨p, q, hA, hV, rfl, hz, hn⟩ := hW0
  rw [hvars] at hV
  obtain ⟨rfl, rfl⟩ := trodVars_none hV
  have hsp := hspec W args ds p hA
  refine (walk W base args ds p hL hval hA ?_).mono fun e W' ⟨he, hb⟩ => ?_
  · intro n hn
    rw [hvt, List.append_nil, List.append_nil] at hsz
    exact of_decide_eq_true (List.all_eq_true.1 hsz n hn)
  · subst he
    refine ⟨_, rfl, ds, [], p ++ [], [], p, [], hW, ?_, ?_, ?_, World.keptBut_mono (fun x hx => ⟨hx, Or.inr (Or.inl (by simpa using hx))⟩) (hb.frame (· ∈ p ++ [])), fun h => by cases h⟩
    · rw [List.append_nil, hsp, hres]
      exact trodAll_mk1 (shut_bool hbt _)
    · rw [List.append_nil, hsp]
      exact qap hl hb hts (fun x hx => hlt x (by simpa using hx)) (fun x hx => by simpa using hlt x (by simpa using hx)) hA
    · rw [List.append_nil, hsp, hvars]
      rfl
theorem laidMet_tail {P : Program} {x : String × DataW Unit} {l : List (String × DataW Unit)} {W : World} (h : laidMet P (x :: l) W) : laidMet P l W := by
  obtain ⟨ps, ⟨g, t, cs, fuel, p, q, h1, h2, h3, h4, h5, h6⟩, hn, hb⟩ := h
  subst h6
  exact ⟨q, h5, (List.nodup_append.1 hn).2.1, fun b off hm => hb b off (List.mem_append_right _ hm)⟩
theorem block_of_tab {P : Program} {W : World} {name : String} {k : IntKind} {zs : List Int} {g : Nat} (h : Lib.TabIs P W name k zs) (hg : P.globalNamed name = some g) {us : List Value} (hu : us = zs.map fun z => Value.int k z) : g < W.heap.size ∧ ∃ ty m, W.heap[g]? = some (.cells us.toArray ty m) := by
  unfold Lib.TabIs World.var? at h
  rw [hg] at h
  simp only [Option.bind_some] at h
  split at h
  · rename_i cs ty m hb
    cases h
    exact ⟨(Array.getElem?_eq_some_iff.1 hb).1, ty, m, by rw [hb, hu]⟩
  · cases h
end Go.Proofs.YtppfcacnofjmdaaGreatDoor
namespace Go.Proofs.YtppfcacnofjmdaaGreatDoor
open Go.RowKit
theorem own_none : ownKnob Tryz.prog.godebug = none := by kernel_rfl
theorem gl_of_laid {rest : List (String × DataW Unit)} {W : World} (h : laidMet Tryz.prog (("math/bits.deBruijn32tab", Rows.laid_math_bits_deBruijn32tab) :: ("math/bits.deBruijn64tab", Rows.laid_math_bits_deBruijn64tab) :: ("internal/strconv.uint64pow10", Rows.laid_internal_strconv_uint64pow10) :: rest) W) : GlOk (entry W) fun _ => False := by
  have b0 := block_of_tab (g := 4) (us := [.int .u8 0, .int .u8 1, .int .u8 28, .int .u8 2, .int .u8 29, .int .u8 14, .int .u8 24, .int .u8 3, .int .u8 30, .int .u8 22, .int .u8 20, .int .u8 15, .int .u8 25, .int .u8 17, .int .u8 4, .int .u8 8, .int .u8 31, .int .u8 27, .int .u8 13, .int .u8 23, .int .u8 21, .int .u8 19, .int .u8 16, .int .u8 7, .int .u8 26, .int .u8 12, .int .u8 18, .int .u8 6, .int .u8 11, .int .u8 5, .int .u8 10, .int .u8 9]) (Lib.tabIs_of_head (k := .u8) (zs := [0, 1, 28, 2, 29, 14, 24, 3, 30, 22, 20, 15, 25, 17, 4, 8, 31, 27, 13, 23, 21, 19, 16, 7, 26, 12, 18, 6, 11, 5, 10, 9]) (g := 4) (t := 262) (e := 5) (n := 32) (by kernel_rfl) (by kernel_rfl) Tryz.underlying262 Tryz.underlying5 (by kernel_rfl) (by kernel_rfl) h) (by kernel_rfl) rfl
  have b1 := block_of_tab (g := 5) (us := [.int .u8 0, .int .u8 1, .int .u8 56, .int .u8 2, .int .u8 57, .int .u8 49, .int .u8 28, .int .u8 3, .int .u8 61, .int .u8 58, .int .u8 42, .int .u8 50, .int .u8 38, .int .u8 29, .int .u8 17, .int .u8 4, .int .u8 62, .int .u8 47, .int .u8 59, .int .u8 36, .int .u8 45, .int .u8 43, .int .u8 51, .int .u8 22, .int .u8 53, .int .u8 39, .int .u8 33, .int .u8 30, .int .u8 24, .int .u8 18, .int .u8 12, .int .u8 5, .int .u8 63, .int .u8 55, .int .u8 48, .int .u8 27, .int .u8 60, .int .u8 41, .int .u8 37, .int .u8 16, .int .u8 46, .int .u8 35, .int .u8 44, .int .u8 21, .int .u8 52, .int .u8 32, .int .u8 23, .int .u8 11, .int .u8 54, .int .u8 26, .int .u8 40, .int .u8 15, .int .u8 34, .int .u8 20, .int .u8 31, .int .u8 10, .int .u8 25, .int .u8 14, .int .u8 19, .int .u8 9, .int .u8 13, .int .u8 8, .int .u8 7, .int .u8 6]) (Lib.tabIs_of_head (k := .u8) (zs := [0, 1, 56, 2, 57, 49, 28, 3, 61, 58, 42, 50, 38, 29, 17, 4, 62, 47, 59, 36, 45, 43, 51, 22, 53, 39, 33, 30, 24, 18, 12, 5, 63, 55, 48, 27, 60, 41, 37, 16, 46, 35, 44, 21, 52, 32, 23, 11, 54, 26, 40, 15, 34, 20, 31, 10, 25, 14, 19, 9, 13, 8, 7, 6]) (g := 5) (t := 263) (e := 5) (n := 64) (by kernel_rfl) (by kernel_rfl) Tryz.underlying263 Tryz.underlying5 (by kernel_rfl) (by kernel_rfl) (laidMet_tail h)) (by kernel_rfl) rfl
  have b2 := block_of_tab (g := 3) (us := [.int .u64 1, .int .u64 10, .int .u64 100, .int .u64 1000, .int .u64 10000, .int .u64 100000, .int .u64 1000000, .int .u64 10000000, .int .u64 100000000, .int .u64 1000000000, .int .u64 10000000000, .int .u64 100000000000, .int .u64 1000000000000, .int .u64 10000000000000, .int .u64 100000000000000, .int .u64 1000000000000000, .int .u64 10000000000000000, .int .u64 100000000000000000, .int .u64 1000000000000000000, .int .u64 10000000000000000000]) (Lib.tabIs_of_head (k := .u64) (zs := [1, 10, 100, 1000, 10000, 100000, 1000000, 10000000, 100000000, 1000000000, 10000000000, 100000000000, 1000000000000, 10000000000000, 100000000000000, 1000000000000000, 10000000000000000, 100000000000000000, 1000000000000000000, 10000000000000000000]) (g := 3) (t := 257) (e := 236) (n := 20) (by kernel_rfl) (by kernel_rfl) Tryz.underlying257 Tryz.underlying236 (by kernel_rfl) (by kernel_rfl) (laidMet_tail (laidMet_tail h))) (by kernel_rfl) rfl
  intro g us hg
  simp only [GTab, qE] at hg
  repeat' split at hg
  all_goals first | cases hg; done | skip
  all_goals (subst_vars; cases hg)
  all_goals first | exact ⟨b0.1, fun h => h, b0.2⟩ | exact ⟨b1.1, fun h => h, b1.2⟩ | exact ⟨b2.1, fun h => h, b2.2⟩
noncomputable def lowB : Nat := (World.holding Tryz.prog default ⟨#[], #[], []⟩).heap.size
noncomputable def worldB (os : Os) : World :=
  let w0 := World.holding Tryz.prog os ⟨#[.cells #[.string ⟨#[118, 97, 108, 117, 101, 32, 111, 117, 116, 32, 111, 102, 32, 114, 97, 110, 103, 101]⟩] 249, .cells #[.string ⟨#[105, 110, 118, 97, 108, 105, 100, 32, 115, 121, 110, 116, 97, 120]⟩] 249], #[], []⟩
  { w0 with heap := ((((((((((w0.heap).modify 4 fun | .cells _ t frozen => .cells #[.int .u8 0, .int .u8 1, .int .u8 28, .int .u8 2, .int .u8 29, .int .u8 14, .int .u8 24, .int .u8 3, .int .u8 30, .int .u8 22, .int .u8 20, .int .u8 15, .int .u8 25, .int .u8 17, .int .u8 4, .int .u8 8, .int .u8 31, .int .u8 27, .int .u8 13, .int .u8 23, .int .u8 21, .int .u8 19, .int .u8 16, .int .u8 7, .int .u8 26, .int .u8 12, .int .u8 18, .int .u8 6, .int .u8 11, .int .u8 5, .int .u8 10, .int .u8 9] t frozen | o => o)).modify 5 fun | .cells _ t frozen => .cells #[.int .u8 0, .int .u8 1, .int .u8 56, .int .u8 2, .int .u8 57, .int .u8 49, .int .u8 28, .int .u8 3, .int .u8 61, .int .u8 58, .int .u8 42, .int .u8 50, .int .u8 38, .int .u8 29, .int .u8 17, .int .u8 4, .int .u8 62, .int .u8 47, .int .u8 59, .int .u8 36, .int .u8 45, .int .u8 43, .int .u8 51, .int .u8 22, .int .u8 53, .int .u8 39, .int .u8 33, .int .u8 30, .int .u8 24, .int .u8 18, .int .u8 12, .int .u8 5, .int .u8 63, .int .u8 55, .int .u8 48, .int .u8 27, .int .u8 60, .int .u8 41, .int .u8 37, .int .u8 16, .int .u8 46, .int .u8 35, .int .u8 44, .int .u8 21, .int .u8 52, .int .u8 32, .int .u8 23, .int .u8 11, .int .u8 54, .int .u8 26, .int .u8 40, .int .u8 15, .int .u8 34, .int .u8 20, .int .u8 31, .int .u8 10, .int .u8 25, .int .u8 14, .int .u8 19, .int .u8 9, .int .u8 13, .int .u8 8, .int .u8 7, .int .u8 6] t frozen | o => o)).modify 3 fun | .cells _ t frozen => .cells #[.int .u64 1, .int .u64 10, .int .u64 100, .int .u64 1000, .int .u64 10000, .int .u64 100000, .int .u64 1000000, .int .u64 10000000, .int .u64 100000000, .int .u64 1000000000, .int .u64 10000000000, .int .u64 100000000000, .int .u64 1000000000000, .int .u64 10000000000000, .int .u64 100000000000000, .int .u64 1000000000000000, .int .u64 10000000000000000, .int .u64 100000000000000000, .int .u64 1000000000000000000, .int .u64 10000000000000000000] t frozen | o => o)).modify 2 fun | .cells _ t frozen => .cells #[.iface 247 (.pointer (some ⟨lowB + 0, 0, none⟩))] t frozen | o => o)).modify 1 fun | .cells _ t frozen => .cells #[.iface 247 (.pointer (some ⟨lowB + 1, 0, none⟩))] t frozen | o => o) }
theorem worldB_met (os : Os) (args : Array Value) : laidMet Tryz.prog [("math/bits.deBruijn32tab", Rows.laid_math_bits_deBruijn32tab), ("math/bits.deBruijn64tab", Rows.laid_math_bits_deBruijn64tab), ("internal/strconv.uint64pow10", Rows.laid_internal_strconv_uint64pow10), ("strconv.ErrRange", Rows.laid_strconv_ErrRange), ("strconv.ErrSyntax", Rows.laid_strconv_ErrSyntax)] ((worldB os).forCall (fun _ _ => 0) ⟨#[], args, []⟩).memory :=
  laidMet_of_run' 100 (by kernel_rfl) (by kernel_rfl)
end Go.Proofs.YtppfcacnofjmdaaGreatDoor
