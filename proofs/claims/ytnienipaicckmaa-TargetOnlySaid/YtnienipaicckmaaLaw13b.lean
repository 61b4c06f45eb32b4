/-
  Contracts of what the laws of chapter 13 share: small.
-/
import Derived.Test.YtnienipaicckmaaTargetRuns
import Derived.Test.YtnienipaicckmaaSmall
namespace Go.Proofs.Ytnienipaicckmaa
open Go.RowKit
set_option linter.unusedSimpArgs false
set_option linter.unusedVariables false
attribute [local go_sem] ext_cell ext_frozen
attribute [local go_sem low] alloc_cell alloc_frozen

theorem small13_any (t : Tar) (T : Option Addr) (d : Nat) (w : World) (hT : SlAt rTar' 1 w T t) (h1 : t.length ≤ d) (h2 : t.length ≤ reachBytes ∧ d ≤ maxLen) :
    Calls Try.prog 19 #[.slice T t.length d] w (upTo (tsz t) 2999 w) := by
  have hp : rPolN 1 w [.string ⟨#[]⟩, .bool false, .int .i64 0, .slice T t.length d, .slice none 0 0, .slice none 0 0, .slice none 0 0] (.mk ⟨#[]⟩ false 0 t [] [] []) :=
    ⟨_, _, _, _, rfl, Nat.zero_le _, r64_small 0 (by omega), ⟨T, d, rfl, h1, h2, hT⟩, SlV.nil _ _ _, SlV.nil _ _ _, SlV.nil _ _ _⟩
  have e : (Pol.mk ⟨#[]⟩ false 0 t [] [] []).sz = 1 + 0 + txt ⟨#[]⟩ + tsz t + osz [] + sumBy rusz [] + 0 := rfl
  have e2 : txt ⟨#[]⟩ = 1 := rfl
  replace e := hide e
  have key : Calls Try.prog 40 #[.agg #[.string ⟨#[]⟩, .bool false, .int .i64 0, .slice T t.length d, .slice none 0 0, .slice none 0 0, .slice none 0 0]] w (upTo (Pol.mk ⟨#[]⟩ false 0 t [] [] []).sz 3000 w) := small_any 1 (.mk ⟨#[]⟩ false 0 t [] [] []) w _ _ _ _ hp
  clear hp
  replace key := hide key
  go_enter Try.func19, Try.ntmps19
  go_wp2_with (go_at_call 40; refine key.out.mono ?_; rintro e w2 (⟨rfl, h3⟩ | ⟨rfl, h4, h3⟩))
  · go_ret
    exact Or.inl ⟨rfl, h3⟩
  · go_ret
    exact Or.inr ⟨rfl, hide (by have := h4.out; have := e.out; omega), h3⟩
theorem tSmall_of {t : Tar} (h : tsz t ≤ 2999) : tSmall t := by
  have h1 : t.length ≤ tsz t := by unfold tsz; omega
  refine ⟨by omega, fun x hx => ?_⟩
  have h2 : xsz x ≤ tsz t := by have := sumBy_le (f := xsz) hx; unfold tsz; omega
  have h3 : x.length ≤ xsz x := by unfold xsz; omega
  refine ⟨by omega, fun y hy => ?_⟩
  have h4 : asz y ≤ xsz x := by have := sumBy_le (f := asz) hy; unfold xsz; omega
  have h5 : y.length ≤ asz y := by unfold asz; omega
  omega
theorem tSmall3_of {t : Tar} (h : tsz t ≤ 2999) : t.length ≤ 3000 ∧ ∀ x ∈ t, x.length ≤ 3000 ∧ ∀ y ∈ x, y.length ≤ 3000 := by
  have h1 : t.length ≤ tsz t := by unfold tsz; omega
  refine ⟨by omega, fun x hx => ?_⟩
  have h2 : xsz x ≤ tsz t := by have := sumBy_le (f := xsz) hx; unfold tsz; omega
  have h3 : x.length ≤ xsz x := by unfold xsz; omega
  refine ⟨by omega, fun y hy => ?_⟩
  have h4 : asz y ≤ xsz x := by have := sumBy_le (f := asz) hy; unfold xsz; omega
  have h5 : y.length ≤ asz y := by unfold asz; omega
  omega
theorem few_len {l : List Giv} (h : fsz l ≤ 1200) : l.length ≤ 600 ∧ ∀ g ∈ l, g.bag.length ≤ 1200 := by
  refine ⟨by unfold fsz at h; omega, fun g hg => ?_⟩
  have h2 : gsz g ≤ fsz l := by have := sumBy_le (f := gsz) hg; unfold fsz; omega
  have h3 : g.bag.length ≤ gsz g := by unfold gsz; omega
  omega
end Go.Proofs.Ytnienipaicckmaa
