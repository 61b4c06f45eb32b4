/-
  Contracts of target.against and target.Match (layer 13).
-/
import Derived.Test.YtnienipaicckmaaGet
import Derived.Test.YtnienipaicckmaaRef1
import Derived.WalkLawsBesides
import Derived.WalkSpells
import Derived.Deep.Cut
import Derived.Deep.Light
namespace Go.Proofs.Ytnienipaicckmaa
open Go.RowKit
set_option linter.unusedSimpArgs false
set_option linter.unusedVariables false
attribute [local go_sem] ext_cell ext_frozen
attribute [local go_sem low] alloc_cell alloc_frozen
attribute [local go_sem ↓] eql_val

theorem res_all {w wr : World} {o : Obj} (h : Below (w.heap.size + 1) (w.alloc o) wr) :
    (∀ j, wr.cell? ⟨w.heap.size, j, none⟩ = (w.alloc o).cell? ⟨w.heap.size, j, none⟩) ∧ (∀ j, wr.frozen? ⟨w.heap.size, j, none⟩ = (w.alloc o).frozen? ⟨w.heap.size, j, none⟩) ∧ w.heap.size < wr.heap.size := by
  have hz := h.size
  simp only [World.size_alloc] at hz
  exact ⟨fun j => h.cell (p := ⟨w.heap.size, j, none⟩) (by simp), fun j => h.frozen (p := ⟨w.heap.size, j, none⟩) (by simp), by omega⟩
def againstS (m : Mat) (v : Val) : Bool × Int :=
  if m.op = 1 then (if v.kind ≠ m.val.kind then (false, 2) else (sameV v m.val, 0)) else if m.op = 2 then lessS v m.val else lessS m.val v
theorem against_any (m : Mat) (v : Val) (w : World) (hm : m.Fit) (hv : v.Fit) :
    Calls Try.prog 39 #[.agg #[.int .i64 m.attr.cat, .string m.attr.name, .bool m.attr.must, .int .i64 m.op, .int .i64 m.val.kind, .int .i64 m.val.n, .string m.val.s], .agg #[.int .i64 v.kind, .int .i64 v.n, .string v.s]] w
      fun e w' => e = .returned (.tuple #[.bool (againstS m v).1, .int .i64 (againstS m v).2]) ∧ Below w.heap.size w w' := by
  have f1 := hm.val.s
  have f2 := hv.s
  go_enter Try.func39, Try.ntmps39
  go_upto_region 1 with (fail)
  refine wp_spec (by kernel_rfl) ?_
  repeat (refine spec_step ?_; intro K hK; go_big_quiet_op; go_big_quiet_on)
  refine spec_nil ?_
  intro us
  simp only [junk, Act.put, List.setIfInBounds_toArray, List.set_cons_zero, List.set_cons_succ]
  go_wp2_with (go_at_call 47; (first | (with_reducible refine (less_any _ _ _ _ _ _ _ f1 f2).mono ?_) | (with_reducible refine (less_any _ _ _ _ _ _ _ f2 f1).mono ?_)); rintro e w2 ⟨rfl, hB2⟩)
  all_goals
    go_ret2
    refine ⟨ret_bi ?_, (by repeat (first | exact Below.refl _ _ | assumption | refine Below.alloc1 ?_ _ | refine Below.drew ?_ | refine below_drewl ?_ | refine Below.setCell ?_ (by first | exact Nat.le_refl _ | (simp; done) | omega | (simp; omega)) _ | refine Below.lift ?_ (by assumption)))⟩
    go_light
    simp_all [againstS]
    try (unfold sameV; simp_all)

def okV (m : Mat) (v : Val) : Bool := (againstS m v).1
def badV (m : Mat) (v : Val) : Bool := decide ((againstS m v).2 ≠ 0)
def matchS (m : Mat) (l : List Giv) : Int :=
  if (getS m.attr l).2 ≠ 0 then 1 else if (getS m.attr l).1.any (okV m) then 2 else if (getS m.attr l).1.any (badV m) then 1 else 0
/-- the three truths so far -/
def someI (b : Bool) : Int := if b then 1 else 0
theorem any_snoc {α : Type} {l : List α} {p : α → Bool} {k : Nat} (hk : k < l.length) : (l.take (k + 1)).any p = ((l.take k).any p || p l[k]) := by
  rw [List.take_succ_eq_append_getElem hk, List.any_append]; simp
theorem bagS_len (cat : Int) (name : ByteArray) (l : List Giv) (hb : ∀ g ∈ l, g.bag.length ≤ 1000000) : (bagS cat name l).length ≤ 1000000 := by
  rcases place_cases cat name l with ⟨_, h, _⟩ | ⟨k, hk, _, h, _⟩
  · rw [h]; simp
  · rw [h]; exact hb _ (List.getElem_mem hk)
theorem getS_len (a : Atr) (l : List Giv) (hb : ∀ g ∈ l, g.bag.length ≤ 1000000) : (getS a l).1.length ≤ 1000000 := by
  unfold getS
  split
  · simp
  · exact bagS_len _ _ l hb
set_option maxRecDepth 100000 in
set_option maxHeartbeats 1000000 in
theorem match_any (m : Mat) (l : List Giv) (A : Option Addr) (c : Nat) (w : World) (hm : m.Fit) (hn : l.length ≤ 1000000) (hb : ∀ g ∈ l, g.bag.length ≤ 1000000) (h : SlAt rGiv 3 w A l) :
    Calls Try.prog 16 #[.agg #[.int .i64 m.attr.cat, .string m.attr.name, .bool m.attr.must, .int .i64 m.op, .int .i64 m.val.kind, .int .i64 m.val.n, .string m.val.s], .slice A l.length c] w fun e w' => e = .returned (.int .i64 (matchS m l)) ∧ Below w.heap.size w w' := by
  have H := hide h
  clear h
  go_enter Try.func16, Try.ntmps16
  go_upto_region 2 with (go_at_call 38; refine (get_any m.attr l A c _ hn hb (H.out.keep keeps_giv (by repeat (first | exact Below.refl _ _ | assumption | refine Below.alloc1 ?_ _ | refine Below.drew ?_ | refine below_drewl ?_ | refine Below.setCell ?_ (by first | exact Nat.le_refl _ | (simp; done) | omega | (simp; omega)) _ | refine Below.lift ?_ (by assumption))))).mono ?_; rintro e w2 ⟨v, rfl, A2, c2, rfl, h2, hB2⟩; obtain ⟨hc2, hf2⟩ := bcell hB2; have hz2 := hB2.size; try simp only [World.size_alloc, World.size_drew] at hc2 hf2 hz2)
  clear hc2 hf2 hz2
  simp only [World.size_alloc] at hB2
  obtain ⟨g0, gf, gz⟩ := res_all hB2
  have hlen := getS_len m.attr l hb
  have hr : matchS m l = if (getS m.attr l).2 ≠ 0 then 1 else if (getS m.attr l).1.any (okV m) then 2 else someI ((getS m.attr l).1.any (badV m)) := by
    unfold matchS someI
    rfl
  replace hr := hide hr
  generalize getS m.attr l = gs at *
  obtain ⟨bag, er⟩ := gs
  simp only at hlen
  have H2 := hide h2
  clear h2
  by_cases he : er = 0
  · subst he
    have hr2 : matchS m l = if bag.any (okV m) then 2 else someI (bag.any (badV m)) := by
      rw [hr.out]; rfl
    clear hr
    replace hr2 := hide hr2
    go_wp2
    go_loopw [7, 9, 23] (fun o _ i wr => ∃ k : Nat, k ≤ bag.length ∧ i = .int .i64 k ∧ o = .int .i64 (someI ((bag.take k).any (badV m))) ∧ Below (w.heap.size + 1) (w.alloc (.cells #[.int .i64 m.attr.cat, .string m.attr.name, .bool m.attr.must, .int .i64 m.op, .int .i64 m.val.kind, .int .i64 m.val.n, .string m.val.s] 28)) wr ∧ Below w2.heap.size w2 wr ∧ Hid ((bag.take k).any (okV m) = false)) (fun _ _ i _ => bag.length - (intOf i).toNat)
    case atStart => exact ⟨0, Nat.zero_le _, rfl, rfl, hB2, Below.refl _ _, rfl⟩
    case round =>
      obtain ⟨k, hk, rfl, rfl, hB1, hB5, hall⟩ := hrel
      clear g0 gf gz
      obtain ⟨g0, gf, gz⟩ := res_all hB1
      have hB : Below w.heap.size w wr := ((Below.refl _ _).alloc (Nat.le_refl _) _).trans (hB1.mono (by omega))
      by_cases hlt : k < bag.length
      · obtain ⟨b, o, rfl, hbb, c0, c1, c2, hf⟩ := (H2.out.keep keeps_val hB5).val hlt
        go_wp2_with (go_at_call 39; refine (against_any m bag[k] _ hm hf).mono ?_; rintro e w3 ⟨rfl, hB3⟩; obtain ⟨hc3, hf3⟩ := bcell hB3; have hz3 := hB3.size; try simp only [World.size_alloc, World.size_drew] at hc3 hf3 hz3)
        · go_ret
          have e : bag.any (okV m) = true := any_yes hlt (by unfold okV; assumption)
          refine ⟨ret_int (by rw [hr2.out, e]; rfl), (by repeat (first | exact Below.refl _ _ | assumption | refine Below.alloc1 ?_ _ | refine Below.drew ?_ | refine below_drewl ?_ | refine Below.setCell ?_ (by first | exact Nat.le_refl _ | (simp; done) | omega | (simp; omega)) _ | refine Below.lift ?_ (by assumption)))⟩
        · have e1 : okV m bag[k] = false := by unfold okV; simp_all
          have e2 : badV m bag[k] = true := by unfold badV; simp_all
          go_roundw
          case rel => exact ⟨k + 1, by omega, by go_num, by rw [any_snoc hlt, e2]; simp [someI], (hB1.alloc (by omega) _).trans (hB3.mono (by simp; omega)), (by repeat (first | exact Below.refl _ _ | assumption | refine Below.alloc1 ?_ _ | refine Below.drew ?_ | refine below_drewl ?_ | refine Below.setCell ?_ (by first | exact Nat.le_refl _ | (simp; done) | omega | (simp; omega)) _ | refine Below.lift ?_ (by assumption))), any_step hlt hall.out e1⟩
          case measure => simp [intOf]; omega
        · have e1 : okV m bag[k] = false := by unfold okV; simp_all
          have e2 : badV m bag[k] = false := by unfold badV; simp_all
          go_roundw
          case rel => exact ⟨k + 1, by omega, by go_num, by rw [any_snoc hlt, e2]; simp, (hB1.alloc (by omega) _).trans (hB3.mono (by simp; omega)), (by repeat (first | exact Below.refl _ _ | assumption | refine Below.alloc1 ?_ _ | refine Below.drew ?_ | refine below_drewl ?_ | refine Below.setCell ?_ (by first | exact Nat.le_refl _ | (simp; done) | omega | (simp; omega)) _ | refine Below.lift ?_ (by assumption))), any_step hlt hall.out e1⟩
          case measure => simp [intOf]; omega
      · obtain rfl : k = bag.length := by omega
        have e := hall.out
        rw [take_all] at e ⊢
        go_wp2
        go_ret
        refine ⟨ret_int ?_, (by repeat (first | exact Below.refl _ _ | assumption | refine Below.alloc1 ?_ _ | refine Below.drew ?_ | refine below_drewl ?_ | refine Below.setCell ?_ (by first | exact Nat.le_refl _ | (simp; done) | omega | (simp; omega)) _ | refine Below.lift ?_ (by assumption)))⟩
        rw [hr2.out, e]
        rfl
  · go_wp2
    go_ret
    refine ⟨ret_int ?_, ((Below.refl _ _).alloc (Nat.le_refl _) _).trans (hB2.mono (by omega))⟩
    rw [hr.out, if_pos he]
def allT (l : List Mat) (g : List Giv) : Int := l.foldl (fun o m => min o (matchS m g)) 2
def anyT (l : List (List Mat)) (g : List Giv) : Int := l.foldl (fun o x => max o (allT x g)) 0
def metS (t : List (List (List Mat))) (g : List Giv) : Int := t.foldl (fun o x => min o (anyT x g)) 2
theorem allT_step {x : List Mat} {l : List Giv} {k : Nat} (hk : k < x.length) : allT (x.take (k + 1)) l = min (allT (x.take k) l) (matchS x[k] l) := fold_step hk
theorem anyT_step {x : List (List Mat)} {l : List Giv} {k : Nat} (hk : k < x.length) : anyT (x.take (k + 1)) l = max (anyT (x.take k) l) (allT x[k] l) := fold_step hk
theorem metS_step {x : List (List (List Mat))} {l : List Giv} {k : Nat} (hk : k < x.length) : metS (x.take (k + 1)) l = min (metS (x.take k) l) (anyT x[k] l) := fold_step hk
theorem matchS_range (m : Mat) (l : List Giv) : 0 ≤ matchS m l ∧ matchS m l ≤ 2 := by
  unfold matchS
  split
  · omega
  · split
    · omega
    · split <;> omega
set_option maxRecDepth 100000 in
set_option maxHeartbeats 1000000 in
theorem all_t_any (x : List Mat) (l : List Giv) (X A : Option Addr) (d c : Nat) (w : World) (hx : x.length ≤ 1000000) (hX : SlAt rMat 7 w X x) (hn : l.length ≤ 1000000) (hb : ∀ g ∈ l, g.bag.length ≤ 1000000) (h : SlAt rGiv 3 w A l) :
    Calls Try.prog 24 #[.slice X x.length d, .slice A l.length c] w fun e w' => e = .returned (.int .i64 (allT x l)) ∧ Below w.heap.size w w' := by
  have H := hide h
  have HX := hide hX
  clear h hX
  go_enter Try.func24, Try.ntmps24
  go_wp2
  go_loopw [5, 7, 10] (fun o _ i wr => ∃ k : Nat, k ≤ x.length ∧ i = .int .i64 k ∧ o = .int .i64 (allT (x.take k) l) ∧ Below w.heap.size w wr) (fun _ _ i _ => x.length - (intOf i).toNat)
  case atStart => exact ⟨0, Nat.zero_le _, rfl, rfl, Below.refl _ _⟩
  case round =>
    obtain ⟨k, hk, rfl, rfl, hB⟩ := hrel
    by_cases hlt : k < x.length
    · obtain ⟨b, o, rfl, hbb, ⟨c0, c1, c2⟩, c3, ⟨c4, c5, c6⟩, hf⟩ := (HX.out.keep keeps_mat hB).mat hlt
      go_wp2_with (go_at_call 16; refine (match_any x[k] l _ _ _ hf hn hb (H.out.keep keeps_giv (by repeat (first | exact Below.refl _ _ | assumption | refine Below.alloc1 ?_ _ | refine Below.drew ?_ | refine below_drewl ?_ | refine Below.setCell ?_ (by first | exact Nat.le_refl _ | (simp; done) | omega | (simp; omega)) _ | refine Below.lift ?_ (by assumption))))).mono ?_; rintro e w3 ⟨rfl, hB3⟩; obtain ⟨hc3, hf3⟩ := bcell hB3; have hz3 := hB3.size; try simp only [World.size_alloc, World.size_drew] at hc3 hf3 hz3)
      go_roundw
      case rel => exact ⟨k + 1, by omega, by go_num, by rw [allT_step hlt]; congr 1; split <;> omega, (by repeat (first | exact Below.refl _ _ | assumption | refine Below.alloc1 ?_ _ | refine Below.drew ?_ | refine below_drewl ?_ | refine Below.setCell ?_ (by first | exact Nat.le_refl _ | (simp; done) | omega | (simp; omega)) _ | refine Below.lift ?_ (by assumption)))⟩
      case measure => simp [intOf]; omega
    · obtain rfl : k = x.length := by omega
      rw [take_all]
      go_wp2
      go_ret
      exact ⟨rfl, (by repeat (first | exact Below.refl _ _ | assumption | refine Below.alloc1 ?_ _ | refine Below.drew ?_ | refine below_drewl ?_ | refine Below.setCell ?_ (by first | exact Nat.le_refl _ | (simp; done) | omega | (simp; omega)) _ | refine Below.lift ?_ (by assumption)))⟩
/-- what a target's parts are long -/
def tSmall (t : List (List (List Mat))) : Prop := t.length ≤ 1000000 ∧ ∀ x ∈ t, x.length ≤ 1000000 ∧ ∀ y ∈ x, y.length ≤ 1000000
abbrev rTar : Rp (List (List Mat)) := rSl (rSl rMat 7) 1
theorem keeps_any : Keeps (rSl rMat 7) := keeps_sl keeps_mat 7
theorem keeps_tar : Keeps rTar := keeps_sl keeps_any 1
set_option maxRecDepth 100000 in
set_option maxHeartbeats 1000000 in
theorem met_any (t : List (List (List Mat))) (l : List Giv) (T A : Option Addr) (d c : Nat) (w : World) (ht : tSmall t) (hT : SlAt rTar 1 w T t) (hn : l.length ≤ 1000000) (hb : ∀ g ∈ l, g.bag.length ≤ 1000000) (h : SlAt rGiv 3 w A l) :
    Calls Try.prog 22 #[.slice T t.length d, .slice A l.length c] w fun e w' => e = .returned (.int .i64 (metS t l)) ∧ Below w.heap.size w w' := by
  have H := hide h
  have HT := hide hT
  obtain ⟨ht1, ht2⟩ := ht
  replace ht2 := hide ht2
  clear h hT
  go_enter Try.func22, Try.ntmps22
  go_wp2
  go_loopw [5, 13] (fun o i wr => ∃ k : Nat, k ≤ t.length ∧ i = .int .i64 k ∧ o = .int .i64 (metS (t.take k) l) ∧ Below w.heap.size w wr) (fun _ i _ => t.length - (intOf i).toNat)
  case atStart => exact ⟨0, Nat.zero_le _, rfl, rfl, Below.refl _ _⟩
  case round =>
    obtain ⟨k, hk, rfl, rfl, hB⟩ := hrel
    by_cases hlt : k < t.length
    · obtain ⟨b, o, B2, cb2, rfl, hbb, c0, cl, cl', h2⟩ := (HT.out.keep keeps_tar hB).sl hlt
      obtain ⟨hx1, hx2⟩ := ht2.out _ (List.getElem_mem hlt)
      have H2 := hide h2
      replace hx2 := hide hx2
      clear h2
      go_wp2
      go_loopw [8, 19] (fun o i wr2 => ∃ j : Nat, j ≤ t[k].length ∧ i = .int .i64 j ∧ o = .int .i64 (anyT (t[k].take j) l) ∧ Below wr.heap.size wr wr2) (fun _ i _ => t[k].length - (intOf i).toNat)
      case atStart => exact ⟨0, Nat.zero_le _, rfl, rfl, Below.refl _ _⟩
      case round =>
        clear hbb c0
        obtain ⟨j, hj, rfl, rfl, hB2⟩ := hrel
        by_cases hlt2 : j < t[k].length
        · obtain ⟨b2, o2, B3, cb3, rfl, hbb, c0, cm, cm', h3⟩ := (H2.out.keep keeps_any hB2).sl hlt2
          have hy := hx2.out _ (List.getElem_mem hlt2)
          have H3 := hide h3
          clear h3
          go_wp2_with (go_at_call 24; refine (all_t_any t[k][j] l _ _ _ _ _ hy (H3.out.keep keeps_mat (by repeat (first | exact Below.refl _ _ | assumption | refine Below.alloc1 ?_ _ | refine Below.drew ?_ | refine below_drewl ?_ | refine Below.setCell ?_ (by first | exact Nat.le_refl _ | (simp; done) | omega | (simp; omega)) _ | refine Below.lift ?_ (by assumption)))) hn hb (H.out.keep keeps_giv (Below.lift hB (Below.lift hB2 (Below.refl _ _))))).mono ?_; rintro e w3 ⟨rfl, hB3⟩; obtain ⟨hc3, hf3⟩ := bcell hB3; have hz3 := hB3.size; try simp only [World.size_alloc, World.size_drew] at hc3 hf3 hz3)
          go_roundw
          case rel => exact ⟨j + 1, by omega, by go_num, by rw [anyT_step hlt2]; congr 1; split <;> omega, (by repeat (first | exact Below.refl _ _ | assumption | refine Below.alloc1 ?_ _ | refine Below.drew ?_ | refine below_drewl ?_ | refine Below.setCell ?_ (by first | exact Nat.le_refl _ | (simp; done) | omega | (simp; omega)) _ | refine Below.lift ?_ (by assumption)))⟩
          case measure => simp [intOf]; omega
        · obtain rfl : j = t[k].length := by omega
          rw [take_all]
          go_wp2
          go_roundw
          case rel => exact ⟨k + 1, by omega, by go_num, by rw [metS_step hlt]; congr 1; split <;> omega, (by repeat (first | exact Below.refl _ _ | assumption | refine Below.alloc1 ?_ _ | refine Below.drew ?_ | refine below_drewl ?_ | refine Below.setCell ?_ (by first | exact Nat.le_refl _ | (simp; done) | omega | (simp; omega)) _ | refine Below.lift ?_ (by assumption)))⟩
          case measure => simp [intOf]; omega
    · obtain rfl : k = t.length := by omega
      rw [take_all]
      go_wp2
      go_ret
      exact ⟨rfl, (by repeat (first | exact Below.refl _ _ | assumption | refine Below.alloc1 ?_ _ | refine Below.drew ?_ | refine below_drewl ?_ | refine Below.setCell ?_ (by first | exact Nat.le_refl _ | (simp; done) | omega | (simp; omega)) _ | refine Below.lift ?_ (by assumption)))⟩
end Go.Proofs.Ytnienipaicckmaa
