/-
  Layer 8's closed sentence (PolicyRuns), by shades.
-/
import Derived.Test.YtjpcchipejmocaaSh
import Derived.Test.YtjpcchipejmocaaPolW
import Derived.Test.YtjpcchipejmocaaCvt
namespace Go.Proofs.Ytjpcchipejmocaa
set_option linter.unusedVariables false
set_option linter.unusedSimpArgs false
open Go.RowKit
set_option maxHeartbeats 2000000

def nOwner : Nod := ⟨2, ⟨0, 0, ⟨#[]⟩⟩, ⟨3, ⟨#[111, 119, 110, 101, 114]⟩, false⟩⟩
def nId : Nod := ⟨2, ⟨0, 0, ⟨#[]⟩⟩, ⟨1, ⟨#[105, 100]⟩, false⟩⟩
def nOp (n : Int) : Nod := ⟨n, ⟨0, 0, ⟨#[]⟩⟩, ⟨0, ⟨#[]⟩, false⟩⟩
def nNum : Nod := ⟨1, ⟨2, 1, ⟨#[]⟩⟩, ⟨0, ⟨#[]⟩, false⟩⟩
def pP : Pol := .mk ⟨#[112]⟩ false 1 [] [] [] []
def pS0 : Pol := .mk ⟨#[115]⟩ true 4 [] [] [pP, pP] []
theorem nod_fit (op k n : Int) (s : ByteArray) (c : Int) (a : ByteArray) (b : Bool) (h1 : R64 op) (h2 : R64 k) (h3 : R64 n) (h4 : s.size ≤ reachBytes) (h5 : R64 c) (h6 : a.size ≤ reachBytes) : (⟨op, ⟨k, n, s⟩, ⟨c, a, b⟩⟩ : Nod).Fit := ⟨h1, ⟨h2, h3, h4⟩, ⟨h5, h6⟩⟩
theorem runs_fit : ∀ x ∈ [nOwner, nId, nOp 3, nOp 6, nNum], x.Fit := by
  intro x hx
  simp only [List.mem_cons, List.not_mem_nil, or_false] at hx
  rcases hx with rfl | rfl | rfl | rfl | rfl <;> refine nod_fit _ _ _ _ _ _ _ ⟨by decide, by decide⟩ ⟨by decide, by decide⟩ ⟨by decide, by decide⟩ (by decide) ⟨by decide, by decide⟩ (by decide)
theorem pol0_fit (id : ByteArray) (s : Bool) (a : Int) (kids : List Pol) (h : id.size ≤ 100) (hk : kids.length ≤ 100) : HeadFit (.mk id s a [] [] kids []) :=
  ⟨by show id.size ≤ _; unfold reachBytes; omega, (fun x hx => by cases hx), (fun x hx => by cases hx), (fun x hx => by cases hx), by show 0 ≤ _; omega, by show kids.length ≤ _; unfold reachBytes; omega⟩
theorem pP_fit : ∀ n, PolFit n pP
  | 0 => True.intro
  | n + 1 => ⟨pol0_fit _ _ _ _ (by decide) (by decide), fun k hk => by cases hk⟩
theorem pS0_fit : ∀ n, PolFit n pS0
  | 0 => True.intro
  | n + 1 => ⟨pol0_fit _ _ _ _ (by decide) (by decide), fun k hk => by
    have : k = pP := by
      have hk' : k ∈ [pP, pP] := hk
      simpa using hk'
    rw [this]; exact pP_fit n⟩
def pPv : List PV := [pS ⟨#[112]⟩, pB false, pI 1, nilV, nilV, nilV, nilV]
theorem cv_nils (a b c : PV) : CvL [a, b, c, nilV, nilV, nilV, nilV] [a, b, c, tgtP [], .sl 5 [], .sl 7 [], oblsP []] :=
  .cons (.refl _) (.cons (.refl _) (.cons (.refl _) (.cons (.nil _) (.cons (.nil _) (.cons (.nil _) (.cons (.nil _) .nil))))))
theorem polRuns_h : Holds Try.prog 32 [] (.p (pB true)) [] := by
  have F := runs_fit
  have H1 := (expr_h [nOwner, nOp 3, nId, nOp 3, nOp 6] (fun x hx => F x (by simp at hx ⊢; rcases hx with rfl | rfl | rfl | rfl | rfl <;> simp))).res (r' := .p (pI 0)) (by rw [show exprS [nOwner, nOp 3, nId, nOp 3, nOp 6] = 0 by kernel_rfl])
  have H2 := (expr_h [nOwner, nNum, nOp 6] (fun x hx => F x (by simp at hx ⊢; rcases hx with rfl | rfl | rfl <;> simp))).res (r' := .p (pI 1)) (by rw [show exprS [nOwner, nNum, nOp 6] = 1 by kernel_rfl])
  have H3 := ((expr_h [] (fun x hx => by cases hx)).res (r' := .p (pI 0)) (by rw [show exprS [] = 0 by kernel_rfl])).cv (args' := [nilV]) (.cons (.nil 7) .nil)
  have H4 := ((right_h pP (pP_fit 4)).res (r' := .p (pI 0)) (by rw [show rightS pP = 0 by kernel_rfl])).cv (args' := [.agg pPv]) (.cons (cv_nils _ _ _).agg .nil)
  have H5 := ((right_h pS0 (pS0_fit 4)).res (r' := .p (pI 1)) (by rw [show rightS pS0 = 1 by kernel_rfl])).cv (args' := [.agg [pS ⟨#[115]⟩, pB true, pI 4, nilV, nilV, .sl 7 [pPv, pPv], nilV]])
    (.cons (CvL.agg (.cons (.refl _) (.cons (.refl _) (.cons (.refl _) (.cons (.nil _) (.cons (.nil _) (.cons (CvM.sl (.cons (cv_nils _ _ _) (.cons (cv_nils _ _ _) .nil))) (.cons (.nil _) .nil)))))))) .nil)
  refine holds_of (ts := [0]) Try.func32 (by kernel_rfl) rfl rfl rfl ?_
  (repeat refine sw_seq ?_); refine sw_region ?_
  repeat (first | refine sR (h := ?_) | refine sK (h := ?_) | refine sT (h := aM (h := ?_)) | refine sT (h := aB (h := ?_)) | refine sT (h := aA (h := ?_)) | refine sT (h := aS (h := ?_)) | refine sT (h := aL (h := ?_)))
  refine swt_nil ?_
  (repeat refine sw_seq ?_); refine sw_region ?_
  repeat (first | refine sR (h := ?_) | refine sK (h := ?_) | refine sT (h := aM (h := ?_)) | refine sT (h := aB (h := ?_)) | refine sT (h := aA (h := ?_)) | refine sT (h := aS (h := ?_)) | refine sT (h := aL (h := ?_)))
  refine swt_nil ?_
  (repeat refine sw_seq ?_); refine sw_region ?_
  repeat (first | refine sR (h := ?_) | refine sK (h := ?_) | refine sT (h := aM (h := ?_)) | refine sT (h := aB (h := ?_)) | refine sT (h := aA (h := ?_)) | refine sT (h := aS (h := ?_)) | refine sT (h := aL (h := ?_)))
  refine swt_nil ?_
  (repeat refine sw_seq ?_); refine sw_region ?_
  repeat (first | refine sR (h := ?_) | refine sK (h := ?_) | refine sT (h := aM (h := ?_)) | refine sT (h := aB (h := ?_)) | refine sT (h := aA (h := ?_)) | refine sT (h := aS (h := ?_)) | refine sT (h := aL (h := ?_)))
  refine swt_nil ?_
  (repeat refine sw_seq ?_); refine sw_region ?_
  repeat (first | refine sR (h := ?_) | refine sK (h := ?_) | refine sT (h := aM (h := ?_)) | refine sT (h := aB (h := ?_)) | refine sT (h := aA (h := ?_)) | refine sT (h := aS (h := ?_)) | refine sT (h := aL (h := ?_)))
  refine swt_nil ?_
  (repeat refine sw_seq ?_); refine sw_region ?_
  repeat (first | refine sR (h := ?_) | refine sK (h := ?_) | refine sT (h := aM (h := ?_)) | refine sT (h := aB (h := ?_)) | refine sT (h := aA (h := ?_)) | refine sT (h := aS (h := ?_)) | refine sT (h := aL (h := ?_)))
  refine swt_nil ?_
  (repeat refine sw_seq ?_); refine sw_region ?_
  repeat (first | refine sR (h := ?_) | refine sK (h := ?_) | refine sT (h := aM (h := ?_)) | refine sT (h := aB (h := ?_)) | refine sT (h := aA (h := ?_)) | refine sT (h := aS (h := ?_)) | refine sT (h := aL (h := ?_)))
  refine swt_nil ?_
  refine SW.wk (wk_frz (k := 19) rfl) ?_
  (repeat refine sw_seq ?_); refine sw_region ?_
  repeat (first | refine sR (h := ?_) | refine sK (h := ?_) | refine sT (h := aM (h := ?_)) | refine sT (h := aB (h := ?_)) | refine sT (h := aA (h := ?_)) | refine sT (h := aS (h := ?_)) | refine sT (h := aL (h := ?_)))
  refine swt_act rfl (act_call_flat rfl rfl rfl rfl (H1) rfl rfl ?_)
  repeat (first | refine sR (h := ?_) | refine sK (h := ?_) | refine sT (h := aM (h := ?_)) | refine sT (h := aB (h := ?_)) | refine sT (h := aA (h := ?_)) | refine sT (h := aS (h := ?_)) | refine sT (h := aL (h := ?_)))
  refine swt_act rfl (act_call_flat rfl rfl rfl rfl (H2) rfl rfl ?_)
  repeat (first | refine sR (h := ?_) | refine sK (h := ?_) | refine sT (h := aM (h := ?_)) | refine sT (h := aB (h := ?_)) | refine sT (h := aA (h := ?_)) | refine sT (h := aS (h := ?_)) | refine sT (h := aL (h := ?_)))
  refine swt_act rfl (act_call_flat rfl rfl rfl rfl (H3) rfl rfl ?_)
  repeat (first | refine sR (h := ?_) | refine sK (h := ?_) | refine sT (h := aM (h := ?_)) | refine sT (h := aB (h := ?_)) | refine sT (h := aA (h := ?_)) | refine sT (h := aS (h := ?_)) | refine sT (h := aL (h := ?_)))
  refine swt_act rfl (act_call_flat rfl rfl rfl rfl (H4) rfl rfl ?_)
  repeat (first | refine sR (h := ?_) | refine sK (h := ?_) | refine sT (h := aM (h := ?_)) | refine sT (h := aB (h := ?_)) | refine sT (h := aA (h := ?_)) | refine sT (h := aS (h := ?_)) | refine sT (h := aL (h := ?_)))
  refine swt_act rfl (act_call_flat rfl rfl rfl rfl (H5) rfl rfl ?_)
  repeat (first | refine sR (h := ?_) | refine sK (h := ?_) | refine sT (h := aM (h := ?_)) | refine sT (h := aB (h := ?_)) | refine sT (h := aA (h := ?_)) | refine sT (h := aS (h := ?_)) | refine sT (h := aL (h := ?_)))
  refine swt_nil ?_
  (repeat refine sw_seq ?_); refine sw_ret ?_
  exact fin_b rfl rfl
end Go.Proofs.Ytjpcchipejmocaa
