/-
  FunErrors: the walk.
-/
import Derived.Test.YtnienipaicckmaaFunTruths
import Derived.WalkLawsBesides
import Derived.WalkSpells
import Derived.Deep.Cut
import Derived.Deep.Light
namespace Go.Proofs.Ytnienipaicckmaa
open Go.RowKit
set_option linter.unusedSimpArgs false
set_option linter.unusedVariables false
attribute [local go_sem] ext_cell ext_frozen
attribute [local go_sem low] alloc_cell alloc_frozen
attribute [local go_sem ↓] eql_val







theorem SlAt.drew {α : Type} {R : Rp α} {size : Nat} {w : World} {A : Option Addr} {l : List α} (h : SlAt R size w A l) (hR : Keeps R := by exact keeps_val) : SlAt R size w.drew A l := h.keep hR (Below.refl _ _).drew
theorem slat_at1 (w : World) (t : TypeId) (b : Nat) (x : Val) (hb : b = w.heap.size) (hx : x.Fit) : SlAt rVal 3 (w.alloc (.cells #[.int .i64 x.kind, .int .i64 x.n, .string x.s] t)) (some ⟨b, 0, none⟩) [x] := by
  subst hb; exact slat_new1 w t x hx
theorem slat_at2 (w : World) (t : TypeId) (b : Nat) (x y : Val) (hb : b = w.heap.size) (hx : x.Fit) (hy : y.Fit) : SlAt rVal 3 (w.alloc (.cells #[.int .i64 x.kind, .int .i64 x.n, .string x.s, .int .i64 y.kind, .int .i64 y.n, .string y.s] t)) (some ⟨b, 0, none⟩) [x, y] := by
  subst hb; exact slat_new2 w t x y hx hy
theorem slat_at3 (w : World) (t : TypeId) (b : Nat) (x y z : Val) (hb : b = w.heap.size) (hx : x.Fit) (hy : y.Fit) (hz : z.Fit) : SlAt rVal 3 (w.alloc (.cells #[.int .i64 x.kind, .int .i64 x.n, .string x.s, .int .i64 y.kind, .int .i64 y.n, .string y.s, .int .i64 z.kind, .int .i64 z.n, .string z.s] t)) (some ⟨b, 0, none⟩) [x, y, z] := by
  subst hb; exact slat_new3 w t x y z hx hy hz
theorem may_bad1 (op : Int) (x y : Val) (h : x.right = false) : callS op [x, y] = (⟨0, 0, ⟨#[]⟩⟩, 1) := by simp [callS, mayS, h, noVal]
theorem may_bad2 (op : Int) (x y : Val) (h : y.right = false) : callS op [x, y] = (⟨0, 0, ⟨#[]⟩⟩, 1) := by simp [callS, mayS, h, noVal]
set_option maxRecDepth 100000 in
set_option maxHeartbeats 1000000 in
theorem funErrors_any (op : Int) (k n : Int) (s : ByteArray) (k' n' : Int) (s' : ByteArray) (w : World) (ho : R64 op) (hx : (Val.mk k n s).Fit) (hy : (Val.mk k' n' s').Fit) :
    Calls Try.prog 13 #[.int .i64 op, .agg #[.int .i64 k, .int .i64 n, .string s], .agg #[.int .i64 k', .int .i64 n', .string s']] w fun e w' => e = .returned (.bool true) ∧ Below w.heap.size w w' := by
  have hs := hx.s
  have hs' := hy.s
  simp only [reachBytes] at hs hs'
  have fb : (Val.mk 9 0 ⟨#[]⟩).Fit := fit_small _ _ _ (by omega) (r64_small _ (by omega)) (by decide)
  have f1 := fit_num (r64_small 1 (by omega))
  have f2 := fit_num (r64_small 2 (by omega))
  have f3 := fit_num (r64_small 3 (by omega))
  have cut : ∀ s : ByteArray, (s.extract 0 (if (70 : Int) < (s.size : Int) then (70 : Int) else (s.size : Int)).toNat).size ≤ reachBytes := fun s => by
    unfold reachBytes
    rw [ByteArray.size_extract]
    split <;> omega
  have c1 := cut s
  have c2 := cut s'
  clear cut
  go_enter Try.func13, Try.ntmps13
  go_upto_region 1 with (fail)
  go_region
  generalize s.extract 0 (if (70 : Int) < (s.size : Int) then (70 : Int) else (s.size : Int)).toNat = s1 at *
  generalize s'.extract 0 (if (70 : Int) < (s'.size : Int) then (70 : Int) else (s'.size : Int)).toNat = s2 at *
  generalize (if (70 : Int) < (s.size : Int) then (70 : Int) else (s.size : Int)) = m1 at *
  generalize (if (70 : Int) < (s'.size : Int) then (70 : Int) else (s'.size : Int)) = m2 at *
  have fx : (Val.mk k n s1).Fit := ⟨hx.kind, hx.n, c1⟩
  have fy : (Val.mk k' n' s2).Fit := ⟨hy.kind, hy.n, c2⟩
  go_upto_region 4 with (go_at_call 35; (with_reducible refine (within_some op 0 7 _ ho (by omega) (by omega) (by omega)).mono ?_); rintro e w2 ⟨p, rfl, p1, p2, rfl⟩)
  have e1 : ∀ f, callS f [⟨9, 0, ⟨#[]⟩⟩, ⟨k', n', s2⟩] = (⟨0, 0, ⟨#[]⟩⟩, 1) := fun f => may_bad1 f _ _ (by simp [Val.right])
  have e2 : ∀ f, callS f [⟨k, n, s1⟩, ⟨9, 0, ⟨#[]⟩⟩] = (⟨0, 0, ⟨#[]⟩⟩, 1) := fun f => may_bad2 f _ _ (by simp [Val.right])
  have e3 : ∀ f, callS f [] = (⟨0, 0, ⟨#[]⟩⟩, 1) := fun f => by by_cases h : f = 11 <;> simp [callS, mayS, noVal, h]
  have e4 : ∀ f, callS f [⟨2, 1, ⟨#[]⟩⟩, ⟨2, 2, ⟨#[]⟩⟩, ⟨2, 3, ⟨#[]⟩⟩] = (⟨0, 0, ⟨#[]⟩⟩, 1) := fun f => by by_cases h : f = 11 <;> simp [callS, mayS, noVal, h]
  have e5 : callS 5 [⟨2, 1, ⟨#[]⟩⟩, ⟨2, 2, ⟨#[]⟩⟩] = (⟨0, 0, ⟨#[]⟩⟩, 1) := by simp [callS, mayS, noVal]
  have e6 : ∀ f, 14 ≤ f → callS f [⟨2, 1, ⟨#[]⟩⟩, ⟨2, 2, ⟨#[]⟩⟩] = (⟨0, 0, ⟨#[]⟩⟩, 1) := fun f h => by
    have : ¬ f ≤ 13 := by omega
    simp [callS, mayS, noVal, this]
  have sr := sameV_refl
  go_upto_region 5 with (go_at_call 27; refine (call_any (6 + p) [⟨9, 0, ⟨#[]⟩⟩, ⟨k', n', s2⟩] _ _ _ (by simp [reachBytes]) (SlAt.drew (slat_at2 _ _ _ ⟨9, 0, ⟨#[]⟩⟩ ⟨k', n', s2⟩ (by simp) fb fy))).mono ?_; rintro e w4 ⟨rfl, hB4⟩; obtain ⟨hc4, hf4⟩ := bcell hB4; have hz4 := hB4.size; try simp only [World.size_alloc, World.size_drew] at hc4 hf4 hz4)
  go_upto_region 6 with (go_at_call 27; refine (call_any (6 + p) [⟨k, n, s1⟩, ⟨9, 0, ⟨#[]⟩⟩] _ _ _ (by simp [reachBytes]) (slat_at2 _ _ _ ⟨k, n, s1⟩ ⟨9, 0, ⟨#[]⟩⟩ (by simp) fx fb)).mono ?_; rintro e w4 ⟨rfl, hB4⟩; obtain ⟨hc4, hf4⟩ := bcell hB4; have hz4 := hB4.size; try simp only [World.size_alloc, World.size_drew] at hc4 hf4 hz4)
  go_upto_region 7 with (go_at_call 27; refine (call_any (6 + p) [] _ _ _ (by simp [reachBytes]) (SlAt.nil)).mono ?_; rintro e w4 ⟨rfl, hB4⟩; obtain ⟨hc4, hf4⟩ := bcell hB4; have hz4 := hB4.size; try simp only [World.size_alloc, World.size_drew] at hc4 hf4 hz4)
  go_upto_region 8 with (first | (go_at_call 28; refine (num_any _ _).mono ?_; rintro e w3 ⟨rfl, hB3⟩; obtain ⟨hc3, hf3⟩ := bcell hB3; have hz3 := hB3.size; try simp only [World.size_alloc, World.size_drew] at hc3 hf3 hz3) | (go_at_call 27; refine (call_any (6 + p) [⟨2, 1, ⟨#[]⟩⟩, ⟨2, 2, ⟨#[]⟩⟩, ⟨2, 3, ⟨#[]⟩⟩] _ _ _ (by simp [reachBytes]) (slat_at3 _ _ _ ⟨2, 1, ⟨#[]⟩⟩ ⟨2, 2, ⟨#[]⟩⟩ ⟨2, 3, ⟨#[]⟩⟩ (by simp) f1 f2 f3)).mono ?_; rintro e w4 ⟨rfl, hB4⟩; obtain ⟨hc4, hf4⟩ := bcell hB4; have hz4 := hB4.size; try simp only [World.size_alloc, World.size_drew] at hc4 hf4 hz4))
  go_upto_region 9 with (first | (go_at_call 28; refine (num_any _ _).mono ?_; rintro e w3 ⟨rfl, hB3⟩; obtain ⟨hc3, hf3⟩ := bcell hB3; have hz3 := hB3.size; try simp only [World.size_alloc, World.size_drew] at hc3 hf3 hz3) | (go_at_call 27; refine (call_any 5 [⟨2, 1, ⟨#[]⟩⟩, ⟨2, 2, ⟨#[]⟩⟩] _ _ _ (by simp [reachBytes]) (slat_at2 _ _ _ ⟨2, 1, ⟨#[]⟩⟩ ⟨2, 2, ⟨#[]⟩⟩ (by simp) f1 f2)).mono ?_; rintro e w4 ⟨rfl, hB4⟩; obtain ⟨hc4, hf4⟩ := bcell hB4; have hz4 := hB4.size; try simp only [World.size_alloc, World.size_drew] at hc4 hf4 hz4))
  go_upto_region 10 with (first | (go_at_call 28; refine (num_any _ _).mono ?_; rintro e w3 ⟨rfl, hB3⟩; obtain ⟨hc3, hf3⟩ := bcell hB3; have hz3 := hB3.size; try simp only [World.size_alloc, World.size_drew] at hc3 hf3 hz3) | (go_at_call 35; (with_reducible refine (within_some op 0 9 _ ho (by omega) (by omega) (by omega)).mono ?_); rintro e w2 ⟨q, rfl, q1, q2, rfl⟩; have e7 := e6 (14 + q) (by omega)) | (go_at_call 27; refine (call_any (14 + q) [⟨2, 1, ⟨#[]⟩⟩, ⟨2, 2, ⟨#[]⟩⟩] _ _ _ (by simp [reachBytes]) (slat_at2 _ _ _ ⟨2, 1, ⟨#[]⟩⟩ ⟨2, 2, ⟨#[]⟩⟩ (by simp) f1 f2)).mono ?_; rintro e w4 ⟨rfl, hB4⟩; obtain ⟨hc4, hf4⟩ := bcell hB4; have hz4 := hB4.size; try simp only [World.size_alloc, World.size_drew] at hc4 hf4 hz4))
  go_wp2_with (go_at_call 8; (with_reducible refine (funRuns_any _).mono ?_); rintro e w5 ⟨rfl, hB5⟩)
  go_ret
  exact ⟨rfl, (by repeat (first | exact Below.refl _ _ | assumption | refine Below.alloc1 ?_ _ | refine Below.drew ?_ | refine Below.setCell ?_ (by first | exact Nat.le_refl _ | (simp; done) | omega | (simp; omega)) _ | refine Below.lift ?_ (by assumption)))⟩
end Go.Proofs.Ytnienipaicckmaa
