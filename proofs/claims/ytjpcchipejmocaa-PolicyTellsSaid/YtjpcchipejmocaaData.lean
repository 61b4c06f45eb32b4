/-
  How the program's types read as typed things.
-/
import Derived.Test.YtjpcchipejmocaaRows
import Derived.Test.YtjpcchipejmocaaSpec
namespace Go.Proofs.Ytjpcchipejmocaa
set_option linter.unusedVariables false
set_option linter.unusedSimpArgs false
open Go.RowKit
theorem opens_tint : Opens Try.prog 3 1 rInt := opens_int Try.underlying3 (by kernel_rfl)
theorem opens_tstr : Opens Try.prog 9 1 rStr := opens_str Try.underlying9 (by kernel_rfl)
theorem opens_tbool : Opens Try.prog 4 1 rBool := opens_bool Try.underlying4 (by kernel_rfl)
set_option maxRecDepth 100000 in
theorem opens_val : Opens Try.prog 24 3 rVal := by
  refine ⟨by kernel_rfl, fun H enc w fuel cs x h hw => ?_⟩
  obtain ⟨hlen, m, _, hf⟩ := struct_open Try.underlying24 h hw
  have hc : Try.prog.cellsOf 24 = 3 := by kernel_rfl
  rw [hc] at hlen
  match cs, hlen with
  | [c0, c1, c2], _ =>
    obtain ⟨k, hk⟩ := opens_tint.field (off := 0) (hf 0 _ rfl)
    obtain ⟨n, hn⟩ := opens_tint.field (off := 1) (hf 1 _ rfl)
    obtain ⟨s, hs⟩ := opens_tstr.field (off := 2) (hf 2 _ rfl)
    simp only [rInt, rStr, List.drop_succ_cons, List.drop_zero, List.take_succ_cons, List.take_zero, List.cons.injEq, and_true] at hk hn hs
    obtain ⟨rfl, hk⟩ := hk
    obtain ⟨rfl, hn⟩ := hn
    obtain ⟨rfl, hs⟩ := hs
    exact ⟨⟨k, n, s⟩, rfl, hk, hn, hs⟩
theorem opens_vals : Opens Try.prog 45 1 (rSl rVal 3) := opens_sl Try.underlying45 (by kernel_rfl) (by decide +kernel) (by omega) opens_val
end Go.Proofs.Ytjpcchipejmocaa
