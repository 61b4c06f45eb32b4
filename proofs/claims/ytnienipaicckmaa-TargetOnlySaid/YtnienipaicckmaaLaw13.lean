/-
  Contracts of what the laws of chapter 13 share: num and x.
-/
import Derived.Test.YtnienipaicckmaaRefTarget
import Derived.WalkLawsBesides
import Derived.WalkSpells
import Derived.Deep.Cut
import Derived.Deep.Light
import Derived.Deep.RegionHeld3
namespace Go.Proofs.Ytnienipaicckmaa
open Go.RowKit
set_option linter.unusedSimpArgs false
set_option linter.unusedVariables false
attribute [local go_sem] ext_cell ext_frozen
attribute [local go_sem low] alloc_cell alloc_frozen
attribute [local go_sem ↓] eql_val

theorem SlAt.imp {α : Type} {R R' : Rp α} {size : Nat} {w : World} {A : Option Addr} {l : List α} (h : SlAt R size w A l) (hi : ∀ cs x, x ∈ l → R w cs x → R' w cs x) : SlAt R' size w A l := fun hl => by
  obtain ⟨b, o, hA, hlt, hc⟩ := h hl
  refine ⟨b, o, hA, hlt, fun i hi' => ?_⟩
  obtain ⟨cs, h1, h2, h3⟩ := hc i hi'
  exact ⟨cs, h1, h2, hi _ _ (List.getElem_mem hi') h3⟩
theorem num13_any (n : Int) (w : World) :
    Calls Try.prog 15 #[.int .i64 n] w fun e w' => e = .returned (.agg #[.int .i64 2, .int .i64 n, .string ⟨#[]⟩]) ∧ Below w.heap.size w w' := by
  go_enter Try.func15, Try.ntmps15
  go_wp2
  refine bodyPost_ret (v := .agg #[.int .i64 2, .int .i64 n, .string ⟨#[]⟩]) (by simp [results, Try.results15, go_sem, ↓IntWalk.iteOmega]) rfl ?_
  exact ⟨rfl, (by repeat (first | exact Below.refl _ _ | assumption | refine Below.alloc1 ?_ _ | refine Below.drew ?_ | refine below_drewl ?_ | refine Below.setCell ?_ (by first | exact Nat.le_refl _ | (simp; done) | omega | (simp; omega)) _ | refine Below.lift ?_ (by assumption)))⟩
def nameX : ByteArray := ⟨#[120]⟩
theorem x13_any (l : List Val) (A : Option Addr) (c : Nat) (w : World) (hn : l.length ≤ c) (hc : l.length ≤ reachBytes ∧ c ≤ maxLen) (h : SlAt rVal 3 w A l) :
    Calls Try.prog 17 #[.slice A l.length c] w fun e w' => ∃ B, e = .returned (.slice B 1 1) ∧ SlAt rGiv 3 w' B [⟨3, nameX, l⟩] ∧ Below w.heap.size w w' := by
  go_enter Try.func17, Try.ntmps17
  go_wp2
  go_ret
  refine ⟨_, rfl, ?_, (by repeat (first | exact Below.refl _ _ | assumption | refine Below.alloc1 ?_ _ | refine Below.drew ?_ | refine below_drewl ?_ | refine Below.setCell ?_ (by first | exact Nat.le_refl _ | (simp; done) | omega | (simp; omega)) _ | refine Below.lift ?_ (by assumption)))⟩
  have h1 : SlAt (fun _ cs (y : Giv) => cs = [.int .i64 y.cat, .string y.name, .slice A y.bag.length c]) 3 _ _ [⟨3, nameX, l⟩] := slat_of w 64 [(⟨3, nameX, l⟩ : Giv)] (fun (g : Giv) => [.int .i64 g.cat, .string g.name, .slice A g.bag.length c]) (fun _ => rfl) (fun _ _ _ => rfl)
  exact h1.imp fun cs y hy hcs => by
    obtain rfl : y = ⟨3, nameX, l⟩ := by simpa using hy
    exact ⟨A, c, hcs, r64_small 3 (by omega), by show nameX.size ≤ _; decide, hn, hc, h.keep keeps_val ((Below.refl _ _).alloc (Nat.le_refl _) _)⟩
end Go.Proofs.Ytnienipaicckmaa
