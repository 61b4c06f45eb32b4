/-
  Layer 14's closed law EvalRuns: its calls worked out, the rest by hand (two regions may go in more orders than one).
-/
import Derived.Test.YtiiagdnmbpdlaaaGreatDoorFnsEv
import Derived.Test.YtiiagdnmbpdlaaaGreatDoorItoa
import Derived.Test.YtiiagdnmbpdlaaaGreatDoorFork
namespace Go.Proofs.YtiiagdnmbpdlaaaGreatDoor
open Go.RowKit
set_option maxHeartbeats 2000000
set_option maxRecDepth 100000
def pEv : PV := (.agg [(.v (.string ⟨#[112]⟩)), (.v (.bool false)), (.v (.int .i64 1)), (.v (.slice none 0 0)), (.sl 5 [[(.v (.string ⟨#[114]⟩)), (.v (.bool false)), (.v (.slice none 0 0)), (.v (.slice none 0 0)), (.sl 3 [[(.v (.int .i64 1)), (.v (.int .i64 1)), (.v (.string ⟨#[97]⟩))]])], [(.v (.string ⟨#[100]⟩)), (.v (.bool true)), (.sl 1 [[(.sl 1 [[(.sl 7 [[(.v (.int .i64 3)), (.v (.string ⟨#[120]⟩)), (.v (.bool false)), (.v (.int .i64 1)), (.v (.int .i64 2)), (.v (.int .i64 1)), (.v (.string ⟨#[]⟩))]])]])]]), (.v (.slice none 0 0)), (.sl 3 [[(.v (.int .i64 2)), (.v (.int .i64 4)), (.v (.string ⟨#[98]⟩))]])]]), (.v (.slice none 0 0)), (.sl 3 [[(.v (.int .i64 1)), (.v (.int .i64 3)), (.v (.string ⟨#[99]⟩))]])])
theorem evRead : Holds Tryz.prog 9 [.v (.string ⟨#[112, 111, 108, 105, 99, 121, 32, 112, 32, 100, 101, 110, 121, 111, 118, 101, 114, 32, 123, 32, 112, 101, 114, 109, 105, 116, 32, 114, 32, 111, 110, 32, 112, 101, 114, 109, 105, 116, 32, 108, 111, 103, 32, 97, 59, 32, 100, 101, 110, 121, 32, 100, 32, 119, 104, 101, 110, 32, 40, 99, 97, 115, 101, 46, 120, 32, 61, 32, 49, 41, 32, 111, 110, 32, 100, 101, 110, 121, 32, 110, 111, 116, 105, 102, 121, 32, 98, 59, 32, 125, 32, 111, 110, 32, 112, 101, 114, 109, 105, 116, 32, 114, 101, 118, 105, 101, 119, 32, 99]⟩)] (.agg [.p (.v (.string ⟨#[112]⟩)), .p (.v (.bool false)), .p (.v (.int .i64 1)), .p (.v (.slice none 0 0)), .row 1, .p (.v (.slice none 0 0)), .row 0]) [(0, .row 56 3 [[(.v (.int .i64 1)), (.v (.int .i64 3)), (.v (.string ⟨#[99]⟩))]]), (1, .row 98 5 [[(.v (.string ⟨#[114]⟩)), (.v (.bool false)), (.v (.slice none 0 0)), (.v (.slice none 0 0)), (.sl 3 [[(.v (.int .i64 1)), (.v (.int .i64 1)), (.v (.string ⟨#[97]⟩))]])], [(.v (.string ⟨#[100]⟩)), (.v (.bool true)), (.sl 1 [[(.sl 1 [[(.sl 7 [[(.v (.int .i64 3)), (.v (.string ⟨#[120]⟩)), (.v (.bool false)), (.v (.int .i64 1)), (.v (.int .i64 2)), (.v (.int .i64 1)), (.v (.string ⟨#[]⟩))]])]])]]), (.v (.slice none 0 0)), (.sl 3 [[(.v (.int .i64 2)), (.v (.int .i64 4)), (.v (.string ⟨#[98]⟩))]])]])] :=
  .ofW (evF1_ok (n := 5000) ttab_ok (ctab_ok _) (FnsEvF_ok ctab) (by kernel_rfl) (by kernel_rfl))
theorem evPol0 : Holds Tryz.prog 10 [(.agg [(.v (.string ⟨#[112]⟩)), (.v (.bool false)), (.v (.int .i64 1)), (.v (.slice none 0 0)), (.sl 5 [[(.v (.string ⟨#[114]⟩)), (.v (.bool false)), (.v (.slice none 0 0)), (.v (.slice none 0 0)), (.sl 3 [[(.v (.int .i64 1)), (.v (.int .i64 1)), (.v (.string ⟨#[97]⟩))]])], [(.v (.string ⟨#[100]⟩)), (.v (.bool true)), (.sl 1 [[(.sl 1 [[(.sl 7 [[(.v (.int .i64 3)), (.v (.string ⟨#[120]⟩)), (.v (.bool false)), (.v (.int .i64 1)), (.v (.int .i64 2)), (.v (.int .i64 1)), (.v (.string ⟨#[]⟩))]])]])]]), (.v (.slice none 0 0)), (.sl 3 [[(.v (.int .i64 2)), (.v (.int .i64 4)), (.v (.string ⟨#[98]⟩))]])]]), (.v (.slice none 0 0)), (.sl 3 [[(.v (.int .i64 1)), (.v (.int .i64 3)), (.v (.string ⟨#[99]⟩))]])]), (.v (.slice none 0 0))] (.tup [.agg [.p (.v (.complex .f64 4607182418800017408 0)), .row 0], .p (.v (.int .i64 0))]) [(0, .row 56 3 [[(.v (.int .i64 1)), (.v (.int .i64 1)), (.v (.string ⟨#[97]⟩))], [(.v (.int .i64 1)), (.v (.int .i64 3)), (.v (.string ⟨#[99]⟩))]])] :=
  .ofW (evF1_ok (n := 5000) ttab_ok (ctab_ok _) (FnsEvF_ok ctab) (by kernel_rfl) (by kernel_rfl))
theorem evPol1 : Holds Tryz.prog 10 [(.agg [(.v (.string ⟨#[112]⟩)), (.v (.bool false)), (.v (.int .i64 1)), (.v (.slice none 0 0)), (.sl 5 [[(.v (.string ⟨#[114]⟩)), (.v (.bool false)), (.v (.slice none 0 0)), (.v (.slice none 0 0)), (.sl 3 [[(.v (.int .i64 1)), (.v (.int .i64 1)), (.v (.string ⟨#[97]⟩))]])], [(.v (.string ⟨#[100]⟩)), (.v (.bool true)), (.sl 1 [[(.sl 1 [[(.sl 7 [[(.v (.int .i64 3)), (.v (.string ⟨#[120]⟩)), (.v (.bool false)), (.v (.int .i64 1)), (.v (.int .i64 2)), (.v (.int .i64 1)), (.v (.string ⟨#[]⟩))]])]])]]), (.v (.slice none 0 0)), (.sl 3 [[(.v (.int .i64 2)), (.v (.int .i64 4)), (.v (.string ⟨#[98]⟩))]])]]), (.v (.slice none 0 0)), (.sl 3 [[(.v (.int .i64 1)), (.v (.int .i64 3)), (.v (.string ⟨#[99]⟩))]])]), (.sl 3 [[(.v (.int .i64 3)), (.v (.string ⟨#[120]⟩)), (.sl 3 [[(.v (.int .i64 2)), (.v (.int .i64 1)), (.v (.string ⟨#[]⟩))]])]])] (.tup [.agg [.p (.v (.complex .f64 0 4607182418800017408)), .row 0], .p (.v (.int .i64 0))]) [(0, .row 56 3 [[(.v (.int .i64 2)), (.v (.int .i64 4)), (.v (.string ⟨#[98]⟩))]])] :=
  .ofW (evF1_ok (n := 5000) ttab_ok (ctab_ok _) (FnsEvF_ok ctab) (by kernel_rfl) (by kernel_rfl))
theorem evPol2 : Holds Tryz.prog 10 [(.agg [(.v (.string ⟨#[112]⟩)), (.v (.bool false)), (.v (.int .i64 1)), (.v (.slice none 0 0)), (.sl 5 [[(.v (.string ⟨#[114]⟩)), (.v (.bool false)), (.v (.slice none 0 0)), (.v (.slice none 0 0)), (.sl 3 [[(.v (.int .i64 1)), (.v (.int .i64 1)), (.v (.string ⟨#[97]⟩))]])], [(.v (.string ⟨#[100]⟩)), (.v (.bool true)), (.sl 1 [[(.sl 1 [[(.sl 7 [[(.v (.int .i64 3)), (.v (.string ⟨#[120]⟩)), (.v (.bool false)), (.v (.int .i64 1)), (.v (.int .i64 2)), (.v (.int .i64 1)), (.v (.string ⟨#[]⟩))]])]])]]), (.v (.slice none 0 0)), (.sl 3 [[(.v (.int .i64 2)), (.v (.int .i64 4)), (.v (.string ⟨#[98]⟩))]])]]), (.v (.slice none 0 0)), (.sl 3 [[(.v (.int .i64 1)), (.v (.int .i64 3)), (.v (.string ⟨#[99]⟩))]])]), (.sl 3 [[(.v (.int .i64 3)), (.v (.string ⟨#[120]⟩)), (.sl 3 [[(.v (.int .i64 3)), (.v (.int .i64 0)), (.v (.string ⟨#[97]⟩))]])]])] (.tup [.p (.agg [(.v (.complex .f64 4602678819172646912 4602678819172646912)), (.v (.slice none 0 0))]), .p (.v (.int .i64 0))]) [] :=
  .ofW (evF1_ok (n := 5000) ttab_ok (ctab_ok _) (FnsEvF_ok ctab) (by kernel_rfl) (by kernel_rfl))
theorem evX0 : Holds Tryz.prog 11 [(.sl 3 [[(.v (.int .i64 2)), (.v (.int .i64 1)), (.v (.string ⟨#[]⟩))]])] ((.row 0)) [(0, .row 73 3 [[(.v (.int .i64 3)), (.v (.string ⟨#[120]⟩)), .sl 3 [[(.v (.int .i64 2)), (.v (.int .i64 1)), (.v (.string ⟨#[]⟩))]]]])] :=
  .ofW (evF1_ok (n := 5000) ttab_ok (ctab_ok _) (FnsEvF_ok ctab) (by kernel_rfl) (by kernel_rfl))
theorem evX1 : Holds Tryz.prog 11 [(.sl 3 [[(.v (.int .i64 3)), (.v (.int .i64 0)), (.v (.string ⟨#[97]⟩))]])] ((.row 0)) [(0, .row 73 3 [[(.v (.int .i64 3)), (.v (.string ⟨#[120]⟩)), .sl 3 [[(.v (.int .i64 3)), (.v (.int .i64 0)), (.v (.string ⟨#[97]⟩))]]]])] :=
  .ofW (evF1_ok (n := 5000) ttab_ok (ctab_ok _) (FnsEvF_ok ctab) (by kernel_rfl) (by kernel_rfl))
theorem evRes0 : Holds Tryz.prog 12 [.agg [(.v (.complex .f64 4607182418800017408 0)), (.sl 3 [[(.v (.int .i64 1)), (.v (.int .i64 1)), (.v (.string ⟨#[97]⟩))], [(.v (.int .i64 1)), (.v (.int .i64 3)), (.v (.string ⟨#[99]⟩))]])], .agg [(.v (.complex .f64 4607182418800017408 0)), (.sl 3 [[(.v (.int .i64 1)), (.v (.int .i64 1)), (.v (.string ⟨#[97]⟩))], [(.v (.int .i64 1)), (.v (.int .i64 3)), (.v (.string ⟨#[99]⟩))]])]] (.p (.v (.bool true))) [] :=
  .ofW (evF1_ok (n := 5000) ttab_ok (ctab_ok _) (FnsEvF_ok ctab) (by kernel_rfl) (by kernel_rfl))
theorem evRes1 : Holds Tryz.prog 12 [.agg [(.v (.complex .f64 0 4607182418800017408)), (.sl 3 [[(.v (.int .i64 2)), (.v (.int .i64 4)), (.v (.string ⟨#[98]⟩))]])], .agg [(.v (.complex .f64 0 4607182418800017408)), (.sl 3 [[(.v (.int .i64 2)), (.v (.int .i64 4)), (.v (.string ⟨#[98]⟩))]])]] (.p (.v (.bool true))) [] :=
  .ofW (evF1_ok (n := 5000) ttab_ok (ctab_ok _) (FnsEvF_ok ctab) (by kernel_rfl) (by kernel_rfl))
theorem evRes2 : Holds Tryz.prog 12 [.agg [(.v (.complex .f64 4602678819172646912 4602678819172646912)), (.v (.slice none 0 0))], .agg [(.v (.complex .f64 4602678819172646912 4602678819172646912)), (.v (.slice none 0 0))]] (.p (.v (.bool true))) [] :=
  .ofW (evF1_ok (n := 5000) ttab_ok (ctab_ok _) (FnsEvF_ok ctab) (by kernel_rfl) (by kernel_rfl))
theorem evalRuns_h : Holds Tryz.prog 4 [] (.p (.v (.bool true))) [] := by
  refine holds_of (ts := [0]) Tryz.func4 (by kernel_rfl) rfl rfl rfl ?_
  (repeat refine sw_seq ?_); refine sw_region ?_
  repeat (first | (refine swt_read ttab_ok rfl rfl (by exact True.intro) rfl ?_) | (refine swt_skip rfl rfl ?_) | (refine swt_act rfl (act_makeMap rfl rfl rfl rfl ?_)) | (refine swt_act rfl (act_box rfl rfl rfl rfl rfl rfl rfl ?_)) | (refine swt_act rfl (act_alloc ttab_ok rfl rfl rfl rfl rfl rfl ?_)) | (refine swt_act rfl (act_store ttab_ok rfl rfl rfl rfl rfl rfl rfl rfl rfl rfl ?_)) | (refine swt_act rfl (act_buildSlice ttab_ok rfl rfl rfl rfl rfl rfl rfl rfl rfl rfl rfl rfl ?_)))
  refine swt_nil ?_
  (repeat refine sw_seq ?_); refine sw_region ?_
  repeat (first | (refine swt_read ttab_ok rfl rfl (by exact True.intro) rfl ?_) | (refine swt_skip rfl rfl ?_) | (refine swt_act rfl (act_makeMap rfl rfl rfl rfl ?_)) | (refine swt_act rfl (act_box rfl rfl rfl rfl rfl rfl rfl ?_)) | (refine swt_act rfl (act_alloc ttab_ok rfl rfl rfl rfl rfl rfl ?_)) | (refine swt_act rfl (act_store ttab_ok rfl rfl rfl rfl rfl rfl rfl rfl rfl rfl ?_)) | (refine swt_act rfl (act_buildSlice ttab_ok rfl rfl rfl rfl rfl rfl rfl rfl rfl rfl rfl rfl ?_)))
  refine swt_act rfl (act_call rfl rfl rfl rfl (evRead) rfl rfl rfl ?_)
  repeat (first | (refine swt_read ttab_ok rfl rfl (by exact True.intro) rfl ?_) | (refine swt_skip rfl rfl ?_) | (refine swt_act rfl (act_makeMap rfl rfl rfl rfl ?_)) | (refine swt_act rfl (act_box rfl rfl rfl rfl rfl rfl rfl ?_)) | (refine swt_act rfl (act_alloc ttab_ok rfl rfl rfl rfl rfl rfl ?_)) | (refine swt_act rfl (act_store ttab_ok rfl rfl rfl rfl rfl rfl rfl rfl rfl rfl ?_)) | (refine swt_act rfl (act_buildSlice ttab_ok rfl rfl rfl rfl rfl rfl rfl rfl rfl rfl rfl rfl ?_)))
  refine swt_nil ?_
  refine SW.wk ((wk_frz (k := 10000) rfl).trans (wk_frz (k := 10001) rfl)) ?_
  refine SW.wk (wk_only [1] [(1, 1)] rfl rfl) ?_
  (repeat refine sw_seq ?_); refine sw_region ?_
  repeat (first | (refine swt_read ttab_ok rfl rfl (by exact True.intro) rfl ?_) | (refine swt_skip rfl rfl ?_) | (refine swt_act rfl (act_makeMap rfl rfl rfl rfl ?_)) | (refine swt_act rfl (act_box rfl rfl rfl rfl rfl rfl rfl ?_)) | (refine swt_act rfl (act_alloc ttab_ok rfl rfl rfl rfl rfl rfl ?_)) | (refine swt_act rfl (act_store ttab_ok rfl rfl rfl rfl rfl rfl rfl rfl rfl rfl ?_)) | (refine swt_act rfl (act_buildSlice ttab_ok rfl rfl rfl rfl rfl rfl rfl rfl rfl rfl rfl rfl ?_)))
  refine swt_act rfl (act_call rfl rfl rfl rfl (evPol0) rfl rfl rfl ?_)
  repeat (first | (refine swt_read ttab_ok rfl rfl (by exact True.intro) rfl ?_) | (refine swt_skip rfl rfl ?_) | (refine swt_act rfl (act_makeMap rfl rfl rfl rfl ?_)) | (refine swt_act rfl (act_box rfl rfl rfl rfl rfl rfl rfl ?_)) | (refine swt_act rfl (act_alloc ttab_ok rfl rfl rfl rfl rfl rfl ?_)) | (refine swt_act rfl (act_store ttab_ok rfl rfl rfl rfl rfl rfl rfl rfl rfl rfl ?_)) | (refine swt_act rfl (act_buildSlice ttab_ok rfl rfl rfl rfl rfl rfl rfl rfl rfl rfl rfl rfl ?_)))
  refine swt_nil ?_
  refine SW.wk (wk_frz (k := 13000) rfl) ?_
  refine SW.wk (wk_only [1, 2, 3] [(1, 1), (2, 2)] rfl rfl) ?_
  (repeat refine sw_seq ?_); refine sw_region_fork 11 rfl (by kernel_rfl) ?_
  refine swb_rd (i := 0) (K := [18, 19, 4, 20000, 21000]) (by kernel_rfl) (by kernel_rfl) rfl rfl (rdO_opR ttab_ok rfl (by exact True.intro)) rfl ?_
  refine swb_rd (i := 1) (K := [18, 19, 4, 20000, 21000]) (by kernel_rfl) (by kernel_rfl) rfl rfl (rdO_opR ttab_ok rfl (by exact True.intro)) rfl ?_
  refine swb_fork2 2 8 (by kernel_rfl) ?_ ?_
  first | (refine swb_act rfl rfl rfl (act_makeMap rfl rfl rfl rfl ?_)) | (refine swb_act rfl rfl rfl (act_box rfl rfl rfl rfl rfl rfl rfl ?_)) | (refine swb_act rfl rfl rfl (act_alloc ttab_ok rfl rfl rfl rfl rfl rfl ?_)) | (refine swb_act rfl rfl rfl (act_store ttab_ok rfl rfl rfl rfl rfl rfl rfl rfl rfl rfl ?_)) | (refine swb_act rfl rfl rfl (act_buildSlice ttab_ok rfl rfl rfl rfl rfl rfl rfl rfl rfl rfl rfl rfl ?_))
  refine swb_fork2 3 8 (by kernel_rfl) ?_ ?_
  refine swb_act rfl rfl rfl (ActOk.frz (i := 18) rfl (act_call rfl rfl rfl rfl evX0 rfl rfl rfl ?_))
  refine swb_fork2 4 8 (by kernel_rfl) ?_ ?_
  refine swb_act rfl rfl rfl (ActOk.frz (i := 20000) rfl (act_call rfl rfl rfl rfl evPol1 rfl rfl rfl ?_))
  refine swb_rd (i := 5) (K := [18, 19, 4, 20000, 21000]) (by kernel_rfl) (by kernel_rfl) rfl rfl (rdO_opR ttab_ok rfl (by exact True.intro)) rfl ?_
  refine swb_rd (i := 6) (K := [18, 19, 4, 20000, 21000]) (by kernel_rfl) (by kernel_rfl) rfl rfl (rdO_opR ttab_ok rfl (by exact True.intro)) rfl ?_
  refine swb_rd (i := 7) (K := [18, 19, 4, 20000, 21000]) (by kernel_rfl) (by kernel_rfl) rfl rfl (rdO_opR ttab_ok rfl (by exact True.intro)) rfl ?_
  refine swb_fork1 8 (by kernel_rfl) ?_
  first | (refine swb_act rfl rfl rfl (act_makeMap rfl rfl rfl rfl ?_)) | (refine swb_act rfl rfl rfl (act_box rfl rfl rfl rfl rfl rfl rfl ?_)) | (refine swb_act rfl rfl rfl (act_alloc ttab_ok rfl rfl rfl rfl rfl rfl ?_)) | (refine swb_act rfl rfl rfl (act_store ttab_ok rfl rfl rfl rfl rfl rfl rfl rfl rfl rfl ?_)) | (refine swb_act rfl rfl rfl (act_buildSlice ttab_ok rfl rfl rfl rfl rfl rfl rfl rfl rfl rfl rfl rfl ?_))
  refine swb_fork1 9 (by kernel_rfl) ?_
  first | (refine swb_act rfl rfl rfl (act_makeMap rfl rfl rfl rfl ?_)) | (refine swb_act rfl rfl rfl (act_box rfl rfl rfl rfl rfl rfl rfl ?_)) | (refine swb_act rfl rfl rfl (act_alloc ttab_ok rfl rfl rfl rfl rfl rfl ?_)) | (refine swb_act rfl rfl rfl (act_store ttab_ok rfl rfl rfl rfl rfl rfl rfl rfl rfl rfl ?_)) | (refine swb_act rfl rfl rfl (act_buildSlice ttab_ok rfl rfl rfl rfl rfl rfl rfl rfl rfl rfl rfl rfl ?_))
  refine swb_rd (i := 10) (K := [18, 19, 4, 20000, 21000]) (by kernel_rfl) (by kernel_rfl) rfl rfl (rdO_opR ttab_ok rfl (by exact True.intro)) rfl ?_
  refine swb_done (by kernel_rfl) ?_
  refine SW.wk (wk_only [1, 2, 3, 4, 5] [(1, 1), (2, 2), (4, 4), (21000, 700)] rfl rfl) ?_
  refine ?fk3
  rotate_left
  first | (refine swb_act rfl rfl rfl (act_makeMap rfl rfl rfl rfl ?_)) | (refine swb_act rfl rfl rfl (act_box rfl rfl rfl rfl rfl rfl rfl ?_)) | (refine swb_act rfl rfl rfl (act_alloc ttab_ok rfl rfl rfl rfl rfl rfl ?_)) | (refine swb_act rfl rfl rfl (act_store ttab_ok rfl rfl rfl rfl rfl rfl rfl rfl rfl rfl ?_)) | (refine swb_act rfl rfl rfl (act_buildSlice ttab_ok rfl rfl rfl rfl rfl rfl rfl rfl rfl rfl rfl rfl ?_))
  refine swb_fork1 4 (by kernel_rfl) ?_
  refine swb_act rfl rfl rfl (ActOk.frz (i := 20000) rfl (act_call rfl rfl rfl rfl evPol1 rfl rfl rfl ?_))
  refine swb_rd (i := 5) (K := [18, 19, 4, 20000, 21000]) (by kernel_rfl) (by kernel_rfl) rfl rfl (rdO_opR ttab_ok rfl (by exact True.intro)) rfl ?_
  refine swb_rd (i := 6) (K := [18, 19, 4, 20000, 21000]) (by kernel_rfl) (by kernel_rfl) rfl rfl (rdO_opR ttab_ok rfl (by exact True.intro)) rfl ?_
  refine swb_rd (i := 7) (K := [18, 19, 4, 20000, 21000]) (by kernel_rfl) (by kernel_rfl) rfl rfl (rdO_opR ttab_ok rfl (by exact True.intro)) rfl ?_
  refine swb_fork1 9 (by kernel_rfl) ?_
  first | (refine swb_act rfl rfl rfl (act_makeMap rfl rfl rfl rfl ?_)) | (refine swb_act rfl rfl rfl (act_box rfl rfl rfl rfl rfl rfl rfl ?_)) | (refine swb_act rfl rfl rfl (act_alloc ttab_ok rfl rfl rfl rfl rfl rfl ?_)) | (refine swb_act rfl rfl rfl (act_store ttab_ok rfl rfl rfl rfl rfl rfl rfl rfl rfl rfl ?_)) | (refine swb_act rfl rfl rfl (act_buildSlice ttab_ok rfl rfl rfl rfl rfl rfl rfl rfl rfl rfl rfl rfl ?_))
  refine swb_rd (i := 10) (K := [18, 19, 4, 20000, 21000]) (by kernel_rfl) (by kernel_rfl) rfl rfl (rdO_opR ttab_ok rfl (by exact True.intro)) rfl ?_
  refine swb_done (by kernel_rfl) ?_
  refine SW.wk (wk_only [1, 2, 3, 4, 5] [(1, 1), (2, 2), (4, 4), (21000, 700)] rfl rfl) ?_
  exact ?fk3
  first | (refine swb_act rfl rfl rfl (act_makeMap rfl rfl rfl rfl ?_)) | (refine swb_act rfl rfl rfl (act_box rfl rfl rfl rfl rfl rfl rfl ?_)) | (refine swb_act rfl rfl rfl (act_alloc ttab_ok rfl rfl rfl rfl rfl rfl ?_)) | (refine swb_act rfl rfl rfl (act_store ttab_ok rfl rfl rfl rfl rfl rfl rfl rfl rfl rfl ?_)) | (refine swb_act rfl rfl rfl (act_buildSlice ttab_ok rfl rfl rfl rfl rfl rfl rfl rfl rfl rfl rfl rfl ?_))
  refine swb_fork1 3 (by kernel_rfl) ?_
  refine swb_act rfl rfl rfl (ActOk.frz (i := 18) rfl (act_call rfl rfl rfl rfl evX0 rfl rfl rfl ?_))
  refine swb_fork1 4 (by kernel_rfl) ?_
  refine swb_act rfl rfl rfl (ActOk.frz (i := 20000) rfl (act_call rfl rfl rfl rfl evPol1 rfl rfl rfl ?_))
  refine swb_rd (i := 5) (K := [18, 19, 4, 20000, 21000]) (by kernel_rfl) (by kernel_rfl) rfl rfl (rdO_opR ttab_ok rfl (by exact True.intro)) rfl ?_
  refine swb_rd (i := 6) (K := [18, 19, 4, 20000, 21000]) (by kernel_rfl) (by kernel_rfl) rfl rfl (rdO_opR ttab_ok rfl (by exact True.intro)) rfl ?_
  refine swb_rd (i := 7) (K := [18, 19, 4, 20000, 21000]) (by kernel_rfl) (by kernel_rfl) rfl rfl (rdO_opR ttab_ok rfl (by exact True.intro)) rfl ?_
  refine swb_fork1 9 (by kernel_rfl) ?_
  first | (refine swb_act rfl rfl rfl (act_makeMap rfl rfl rfl rfl ?_)) | (refine swb_act rfl rfl rfl (act_box rfl rfl rfl rfl rfl rfl rfl ?_)) | (refine swb_act rfl rfl rfl (act_alloc ttab_ok rfl rfl rfl rfl rfl rfl ?_)) | (refine swb_act rfl rfl rfl (act_store ttab_ok rfl rfl rfl rfl rfl rfl rfl rfl rfl rfl ?_)) | (refine swb_act rfl rfl rfl (act_buildSlice ttab_ok rfl rfl rfl rfl rfl rfl rfl rfl rfl rfl rfl rfl ?_))
  refine swb_rd (i := 10) (K := [18, 19, 4, 20000, 21000]) (by kernel_rfl) (by kernel_rfl) rfl rfl (rdO_opR ttab_ok rfl (by exact True.intro)) rfl ?_
  refine swb_done (by kernel_rfl) ?_
  refine SW.wk (wk_only [1, 2, 3, 4, 5] [(1, 1), (2, 2), (4, 4), (21000, 700)] rfl rfl) ?_
  exact ?fk3
  first | (refine swb_act rfl rfl rfl (act_makeMap rfl rfl rfl rfl ?_)) | (refine swb_act rfl rfl rfl (act_box rfl rfl rfl rfl rfl rfl rfl ?_)) | (refine swb_act rfl rfl rfl (act_alloc ttab_ok rfl rfl rfl rfl rfl rfl ?_)) | (refine swb_act rfl rfl rfl (act_store ttab_ok rfl rfl rfl rfl rfl rfl rfl rfl rfl rfl ?_)) | (refine swb_act rfl rfl rfl (act_buildSlice ttab_ok rfl rfl rfl rfl rfl rfl rfl rfl rfl rfl rfl rfl ?_))
  refine swb_fork1 2 (by kernel_rfl) ?_
  first | (refine swb_act rfl rfl rfl (act_makeMap rfl rfl rfl rfl ?_)) | (refine swb_act rfl rfl rfl (act_box rfl rfl rfl rfl rfl rfl rfl ?_)) | (refine swb_act rfl rfl rfl (act_alloc ttab_ok rfl rfl rfl rfl rfl rfl ?_)) | (refine swb_act rfl rfl rfl (act_store ttab_ok rfl rfl rfl rfl rfl rfl rfl rfl rfl rfl ?_)) | (refine swb_act rfl rfl rfl (act_buildSlice ttab_ok rfl rfl rfl rfl rfl rfl rfl rfl rfl rfl rfl rfl ?_))
  refine swb_fork1 3 (by kernel_rfl) ?_
  refine swb_act rfl rfl rfl (ActOk.frz (i := 18) rfl (act_call rfl rfl rfl rfl evX0 rfl rfl rfl ?_))
  refine swb_fork1 4 (by kernel_rfl) ?_
  refine swb_act rfl rfl rfl (ActOk.frz (i := 20000) rfl (act_call rfl rfl rfl rfl evPol1 rfl rfl rfl ?_))
  refine swb_rd (i := 5) (K := [18, 19, 4, 20000, 21000]) (by kernel_rfl) (by kernel_rfl) rfl rfl (rdO_opR ttab_ok rfl (by exact True.intro)) rfl ?_
  refine swb_rd (i := 6) (K := [18, 19, 4, 20000, 21000]) (by kernel_rfl) (by kernel_rfl) rfl rfl (rdO_opR ttab_ok rfl (by exact True.intro)) rfl ?_
  refine swb_rd (i := 7) (K := [18, 19, 4, 20000, 21000]) (by kernel_rfl) (by kernel_rfl) rfl rfl (rdO_opR ttab_ok rfl (by exact True.intro)) rfl ?_
  refine swb_fork1 9 (by kernel_rfl) ?_
  first | (refine swb_act rfl rfl rfl (act_makeMap rfl rfl rfl rfl ?_)) | (refine swb_act rfl rfl rfl (act_box rfl rfl rfl rfl rfl rfl rfl ?_)) | (refine swb_act rfl rfl rfl (act_alloc ttab_ok rfl rfl rfl rfl rfl rfl ?_)) | (refine swb_act rfl rfl rfl (act_store ttab_ok rfl rfl rfl rfl rfl rfl rfl rfl rfl rfl ?_)) | (refine swb_act rfl rfl rfl (act_buildSlice ttab_ok rfl rfl rfl rfl rfl rfl rfl rfl rfl rfl rfl rfl ?_))
  refine swb_rd (i := 10) (K := [18, 19, 4, 20000, 21000]) (by kernel_rfl) (by kernel_rfl) rfl rfl (rdO_opR ttab_ok rfl (by exact True.intro)) rfl ?_
  refine swb_done (by kernel_rfl) ?_
  refine SW.wk (wk_only [1, 2, 3, 4, 5] [(1, 1), (2, 2), (4, 4), (21000, 700)] rfl rfl) ?_
  exact ?fk3
  refine SW.wk (wk_frz (k := 700) rfl) ?_
  refine SW.wk (wk_only [1, 2, 3, 4, 5] [(1, 1), (2, 2), (4, 4)] rfl rfl) ?_
  (repeat refine sw_seq ?_); refine sw_region_fork 11 rfl (by kernel_rfl) ?_
  refine swb_rd (i := 0) (K := [26, 27, 6, 28000, 29000]) (by kernel_rfl) (by kernel_rfl) rfl rfl (rdO_opR ttab_ok rfl (by exact True.intro)) rfl ?_
  refine swb_rd (i := 1) (K := [26, 27, 6, 28000, 29000]) (by kernel_rfl) (by kernel_rfl) rfl rfl (rdO_opR ttab_ok rfl (by exact True.intro)) rfl ?_
  refine swb_fork2 2 8 (by kernel_rfl) ?_ ?_
  first | (refine swb_act rfl rfl rfl (act_makeMap rfl rfl rfl rfl ?_)) | (refine swb_act rfl rfl rfl (act_box rfl rfl rfl rfl rfl rfl rfl ?_)) | (refine swb_act rfl rfl rfl (act_alloc ttab_ok rfl rfl rfl rfl rfl rfl ?_)) | (refine swb_act rfl rfl rfl (act_store ttab_ok rfl rfl rfl rfl rfl rfl rfl rfl rfl rfl ?_)) | (refine swb_act rfl rfl rfl (act_buildSlice ttab_ok rfl rfl rfl rfl rfl rfl rfl rfl rfl rfl rfl rfl ?_))
  refine swb_fork2 3 8 (by kernel_rfl) ?_ ?_
  refine swb_act rfl rfl rfl (ActOk.frz (i := 26) rfl (act_call rfl rfl rfl rfl evX1 rfl rfl rfl ?_))
  refine swb_fork2 4 8 (by kernel_rfl) ?_ ?_
  refine swb_act rfl rfl rfl (ActOk.frz (i := 28000) rfl (act_call rfl rfl rfl rfl evPol2 rfl rfl rfl ?_))
  refine swb_rd (i := 5) (K := [26, 27, 6, 28000, 29000]) (by kernel_rfl) (by kernel_rfl) rfl rfl (rdO_opR ttab_ok rfl (by exact True.intro)) rfl ?_
  refine swb_rd (i := 6) (K := [26, 27, 6, 28000, 29000]) (by kernel_rfl) (by kernel_rfl) rfl rfl (rdO_opR ttab_ok rfl (by exact True.intro)) rfl ?_
  refine swb_rd (i := 7) (K := [26, 27, 6, 28000, 29000]) (by kernel_rfl) (by kernel_rfl) rfl rfl (rdO_opR ttab_ok rfl (by exact True.intro)) rfl ?_
  refine swb_fork1 8 (by kernel_rfl) ?_
  first | (refine swb_act rfl rfl rfl (act_makeMap rfl rfl rfl rfl ?_)) | (refine swb_act rfl rfl rfl (act_box rfl rfl rfl rfl rfl rfl rfl ?_)) | (refine swb_act rfl rfl rfl (act_alloc ttab_ok rfl rfl rfl rfl rfl rfl ?_)) | (refine swb_act rfl rfl rfl (act_store ttab_ok rfl rfl rfl rfl rfl rfl rfl rfl rfl rfl ?_)) | (refine swb_act rfl rfl rfl (act_buildSlice ttab_ok rfl rfl rfl rfl rfl rfl rfl rfl rfl rfl rfl rfl ?_))
  refine swb_fork1 9 (by kernel_rfl) ?_
  first | (refine swb_act rfl rfl rfl (act_makeMap rfl rfl rfl rfl ?_)) | (refine swb_act rfl rfl rfl (act_box rfl rfl rfl rfl rfl rfl rfl ?_)) | (refine swb_act rfl rfl rfl (act_alloc ttab_ok rfl rfl rfl rfl rfl rfl ?_)) | (refine swb_act rfl rfl rfl (act_store ttab_ok rfl rfl rfl rfl rfl rfl rfl rfl rfl rfl ?_)) | (refine swb_act rfl rfl rfl (act_buildSlice ttab_ok rfl rfl rfl rfl rfl rfl rfl rfl rfl rfl rfl rfl ?_))
  refine swb_rd (i := 10) (K := [26, 27, 6, 28000, 29000]) (by kernel_rfl) (by kernel_rfl) rfl rfl (rdO_opR ttab_ok rfl (by exact True.intro)) rfl ?_
  refine swb_done (by kernel_rfl) ?_
  refine SW.wk (wk_only [1, 2, 3, 4, 5, 6, 7] [(1, 1), (2, 2), (4, 4), (6, 6)] rfl rfl) ?_
  refine ?fk4
  rotate_left
  first | (refine swb_act rfl rfl rfl (act_makeMap rfl rfl rfl rfl ?_)) | (refine swb_act rfl rfl rfl (act_box rfl rfl rfl rfl rfl rfl rfl ?_)) | (refine swb_act rfl rfl rfl (act_alloc ttab_ok rfl rfl rfl rfl rfl rfl ?_)) | (refine swb_act rfl rfl rfl (act_store ttab_ok rfl rfl rfl rfl rfl rfl rfl rfl rfl rfl ?_)) | (refine swb_act rfl rfl rfl (act_buildSlice ttab_ok rfl rfl rfl rfl rfl rfl rfl rfl rfl rfl rfl rfl ?_))
  refine swb_fork1 4 (by kernel_rfl) ?_
  refine swb_act rfl rfl rfl (ActOk.frz (i := 28000) rfl (act_call rfl rfl rfl rfl evPol2 rfl rfl rfl ?_))
  refine swb_rd (i := 5) (K := [26, 27, 6, 28000, 29000]) (by kernel_rfl) (by kernel_rfl) rfl rfl (rdO_opR ttab_ok rfl (by exact True.intro)) rfl ?_
  refine swb_rd (i := 6) (K := [26, 27, 6, 28000, 29000]) (by kernel_rfl) (by kernel_rfl) rfl rfl (rdO_opR ttab_ok rfl (by exact True.intro)) rfl ?_
  refine swb_rd (i := 7) (K := [26, 27, 6, 28000, 29000]) (by kernel_rfl) (by kernel_rfl) rfl rfl (rdO_opR ttab_ok rfl (by exact True.intro)) rfl ?_
  refine swb_fork1 9 (by kernel_rfl) ?_
  first | (refine swb_act rfl rfl rfl (act_makeMap rfl rfl rfl rfl ?_)) | (refine swb_act rfl rfl rfl (act_box rfl rfl rfl rfl rfl rfl rfl ?_)) | (refine swb_act rfl rfl rfl (act_alloc ttab_ok rfl rfl rfl rfl rfl rfl ?_)) | (refine swb_act rfl rfl rfl (act_store ttab_ok rfl rfl rfl rfl rfl rfl rfl rfl rfl rfl ?_)) | (refine swb_act rfl rfl rfl (act_buildSlice ttab_ok rfl rfl rfl rfl rfl rfl rfl rfl rfl rfl rfl rfl ?_))
  refine swb_rd (i := 10) (K := [26, 27, 6, 28000, 29000]) (by kernel_rfl) (by kernel_rfl) rfl rfl (rdO_opR ttab_ok rfl (by exact True.intro)) rfl ?_
  refine swb_done (by kernel_rfl) ?_
  refine SW.wk (wk_only [1, 2, 3, 4, 5, 6, 7] [(1, 1), (2, 2), (4, 4), (6, 6)] rfl rfl) ?_
  exact ?fk4
  first | (refine swb_act rfl rfl rfl (act_makeMap rfl rfl rfl rfl ?_)) | (refine swb_act rfl rfl rfl (act_box rfl rfl rfl rfl rfl rfl rfl ?_)) | (refine swb_act rfl rfl rfl (act_alloc ttab_ok rfl rfl rfl rfl rfl rfl ?_)) | (refine swb_act rfl rfl rfl (act_store ttab_ok rfl rfl rfl rfl rfl rfl rfl rfl rfl rfl ?_)) | (refine swb_act rfl rfl rfl (act_buildSlice ttab_ok rfl rfl rfl rfl rfl rfl rfl rfl rfl rfl rfl rfl ?_))
  refine swb_fork1 3 (by kernel_rfl) ?_
  refine swb_act rfl rfl rfl (ActOk.frz (i := 26) rfl (act_call rfl rfl rfl rfl evX1 rfl rfl rfl ?_))
  refine swb_fork1 4 (by kernel_rfl) ?_
  refine swb_act rfl rfl rfl (ActOk.frz (i := 28000) rfl (act_call rfl rfl rfl rfl evPol2 rfl rfl rfl ?_))
  refine swb_rd (i := 5) (K := [26, 27, 6, 28000, 29000]) (by kernel_rfl) (by kernel_rfl) rfl rfl (rdO_opR ttab_ok rfl (by exact True.intro)) rfl ?_
  refine swb_rd (i := 6) (K := [26, 27, 6, 28000, 29000]) (by kernel_rfl) (by kernel_rfl) rfl rfl (rdO_opR ttab_ok rfl (by exact True.intro)) rfl ?_
  refine swb_rd (i := 7) (K := [26, 27, 6, 28000, 29000]) (by kernel_rfl) (by kernel_rfl) rfl rfl (rdO_opR ttab_ok rfl (by exact True.intro)) rfl ?_
  refine swb_fork1 9 (by kernel_rfl) ?_
  first | (refine swb_act rfl rfl rfl (act_makeMap rfl rfl rfl rfl ?_)) | (refine swb_act rfl rfl rfl (act_box rfl rfl rfl rfl rfl rfl rfl ?_)) | (refine swb_act rfl rfl rfl (act_alloc ttab_ok rfl rfl rfl rfl rfl rfl ?_)) | (refine swb_act rfl rfl rfl (act_store ttab_ok rfl rfl rfl rfl rfl rfl rfl rfl rfl rfl ?_)) | (refine swb_act rfl rfl rfl (act_buildSlice ttab_ok rfl rfl rfl rfl rfl rfl rfl rfl rfl rfl rfl rfl ?_))
  refine swb_rd (i := 10) (K := [26, 27, 6, 28000, 29000]) (by kernel_rfl) (by kernel_rfl) rfl rfl (rdO_opR ttab_ok rfl (by exact True.intro)) rfl ?_
  refine swb_done (by kernel_rfl) ?_
  refine SW.wk (wk_only [1, 2, 3, 4, 5, 6, 7] [(1, 1), (2, 2), (4, 4), (6, 6)] rfl rfl) ?_
  exact ?fk4
  first | (refine swb_act rfl rfl rfl (act_makeMap rfl rfl rfl rfl ?_)) | (refine swb_act rfl rfl rfl (act_box rfl rfl rfl rfl rfl rfl rfl ?_)) | (refine swb_act rfl rfl rfl (act_alloc ttab_ok rfl rfl rfl rfl rfl rfl ?_)) | (refine swb_act rfl rfl rfl (act_store ttab_ok rfl rfl rfl rfl rfl rfl rfl rfl rfl rfl ?_)) | (refine swb_act rfl rfl rfl (act_buildSlice ttab_ok rfl rfl rfl rfl rfl rfl rfl rfl rfl rfl rfl rfl ?_))
  refine swb_fork1 2 (by kernel_rfl) ?_
  first | (refine swb_act rfl rfl rfl (act_makeMap rfl rfl rfl rfl ?_)) | (refine swb_act rfl rfl rfl (act_box rfl rfl rfl rfl rfl rfl rfl ?_)) | (refine swb_act rfl rfl rfl (act_alloc ttab_ok rfl rfl rfl rfl rfl rfl ?_)) | (refine swb_act rfl rfl rfl (act_store ttab_ok rfl rfl rfl rfl rfl rfl rfl rfl rfl rfl ?_)) | (refine swb_act rfl rfl rfl (act_buildSlice ttab_ok rfl rfl rfl rfl rfl rfl rfl rfl rfl rfl rfl rfl ?_))
  refine swb_fork1 3 (by kernel_rfl) ?_
  refine swb_act rfl rfl rfl (ActOk.frz (i := 26) rfl (act_call rfl rfl rfl rfl evX1 rfl rfl rfl ?_))
  refine swb_fork1 4 (by kernel_rfl) ?_
  refine swb_act rfl rfl rfl (ActOk.frz (i := 28000) rfl (act_call rfl rfl rfl rfl evPol2 rfl rfl rfl ?_))
  refine swb_rd (i := 5) (K := [26, 27, 6, 28000, 29000]) (by kernel_rfl) (by kernel_rfl) rfl rfl (rdO_opR ttab_ok rfl (by exact True.intro)) rfl ?_
  refine swb_rd (i := 6) (K := [26, 27, 6, 28000, 29000]) (by kernel_rfl) (by kernel_rfl) rfl rfl (rdO_opR ttab_ok rfl (by exact True.intro)) rfl ?_
  refine swb_rd (i := 7) (K := [26, 27, 6, 28000, 29000]) (by kernel_rfl) (by kernel_rfl) rfl rfl (rdO_opR ttab_ok rfl (by exact True.intro)) rfl ?_
  refine swb_fork1 9 (by kernel_rfl) ?_
  first | (refine swb_act rfl rfl rfl (act_makeMap rfl rfl rfl rfl ?_)) | (refine swb_act rfl rfl rfl (act_box rfl rfl rfl rfl rfl rfl rfl ?_)) | (refine swb_act rfl rfl rfl (act_alloc ttab_ok rfl rfl rfl rfl rfl rfl ?_)) | (refine swb_act rfl rfl rfl (act_store ttab_ok rfl rfl rfl rfl rfl rfl rfl rfl rfl rfl ?_)) | (refine swb_act rfl rfl rfl (act_buildSlice ttab_ok rfl rfl rfl rfl rfl rfl rfl rfl rfl rfl rfl rfl ?_))
  refine swb_rd (i := 10) (K := [26, 27, 6, 28000, 29000]) (by kernel_rfl) (by kernel_rfl) rfl rfl (rdO_opR ttab_ok rfl (by exact True.intro)) rfl ?_
  refine swb_done (by kernel_rfl) ?_
  refine SW.wk (wk_only [1, 2, 3, 4, 5, 6, 7] [(1, 1), (2, 2), (4, 4), (6, 6)] rfl rfl) ?_
  exact ?fk4
  (repeat refine sw_seq ?_); refine sw_region ?_
  repeat (first | (refine swt_read ttab_ok rfl rfl (by exact True.intro) rfl ?_) | (refine swt_skip rfl rfl ?_) | (refine swt_act rfl (act_makeMap rfl rfl rfl rfl ?_)) | (refine swt_act rfl (act_box rfl rfl rfl rfl rfl rfl rfl ?_)) | (refine swt_act rfl (act_alloc ttab_ok rfl rfl rfl rfl rfl rfl ?_)) | (refine swt_act rfl (act_store ttab_ok rfl rfl rfl rfl rfl rfl rfl rfl rfl rfl ?_)) | (refine swt_act rfl (act_buildSlice ttab_ok rfl rfl rfl rfl rfl rfl rfl rfl rfl rfl rfl rfl ?_)))
  refine swt_nil ?_
  (repeat refine sw_seq ?_); refine sw_region ?_
  repeat (first | (refine swt_read ttab_ok rfl rfl (by exact True.intro) rfl ?_) | (refine swt_skip rfl rfl ?_) | (refine swt_act rfl (act_makeMap rfl rfl rfl rfl ?_)) | (refine swt_act rfl (act_box rfl rfl rfl rfl rfl rfl rfl ?_)) | (refine swt_act rfl (act_alloc ttab_ok rfl rfl rfl rfl rfl rfl ?_)) | (refine swt_act rfl (act_store ttab_ok rfl rfl rfl rfl rfl rfl rfl rfl rfl rfl ?_)) | (refine swt_act rfl (act_buildSlice ttab_ok rfl rfl rfl rfl rfl rfl rfl rfl rfl rfl rfl rfl ?_)))
  refine swt_act rfl (ActOk.frz (i := 33) rfl (act_call_flat rfl rfl rfl rfl evRes0 rfl rfl ?_))
  repeat (first | (refine swt_read ttab_ok rfl rfl (by exact True.intro) rfl ?_) | (refine swt_skip rfl rfl ?_) | (refine swt_act rfl (act_makeMap rfl rfl rfl rfl ?_)) | (refine swt_act rfl (act_box rfl rfl rfl rfl rfl rfl rfl ?_)) | (refine swt_act rfl (act_alloc ttab_ok rfl rfl rfl rfl rfl rfl ?_)) | (refine swt_act rfl (act_store ttab_ok rfl rfl rfl rfl rfl rfl rfl rfl rfl rfl ?_)) | (refine swt_act rfl (act_buildSlice ttab_ok rfl rfl rfl rfl rfl rfl rfl rfl rfl rfl rfl rfl ?_)))
  refine swt_act rfl (ActOk.frz (i := 53) rfl (act_call_flat rfl rfl rfl rfl evRes1 rfl rfl ?_))
  repeat (first | (refine swt_read ttab_ok rfl rfl (by exact True.intro) rfl ?_) | (refine swt_skip rfl rfl ?_) | (refine swt_act rfl (act_makeMap rfl rfl rfl rfl ?_)) | (refine swt_act rfl (act_box rfl rfl rfl rfl rfl rfl rfl ?_)) | (refine swt_act rfl (act_alloc ttab_ok rfl rfl rfl rfl rfl rfl ?_)) | (refine swt_act rfl (act_store ttab_ok rfl rfl rfl rfl rfl rfl rfl rfl rfl rfl ?_)) | (refine swt_act rfl (act_buildSlice ttab_ok rfl rfl rfl rfl rfl rfl rfl rfl rfl rfl rfl rfl ?_)))
  refine swt_act rfl (act_call_flat rfl rfl rfl rfl (evRes2) rfl rfl ?_)
  repeat (first | (refine swt_read ttab_ok rfl rfl (by exact True.intro) rfl ?_) | (refine swt_skip rfl rfl ?_) | (refine swt_act rfl (act_makeMap rfl rfl rfl rfl ?_)) | (refine swt_act rfl (act_box rfl rfl rfl rfl rfl rfl rfl ?_)) | (refine swt_act rfl (act_alloc ttab_ok rfl rfl rfl rfl rfl rfl ?_)) | (refine swt_act rfl (act_store ttab_ok rfl rfl rfl rfl rfl rfl rfl rfl rfl rfl ?_)) | (refine swt_act rfl (act_buildSlice ttab_ok rfl rfl rfl rfl rfl rfl rfl rfl rfl rfl rfl rfl ?_)))
  refine swt_nil ?_
  (repeat refine sw_seq ?_); refine sw_ret ?_
  exact ⟨Or.inr rfl, _, _, [], Wk.refl _, rfl, rfl, rfl, rfl⟩
end Go.Proofs.YtiiagdnmbpdlaaaGreatDoor
