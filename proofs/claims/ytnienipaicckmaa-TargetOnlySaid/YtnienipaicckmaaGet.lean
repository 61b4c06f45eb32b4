/-
  Contracts of ask.Get and the reference's Get (layer 11).
-/
import Derived.Test.YtnienipaicckmaaVals
import Derived.Test.YtnienipaicckmaaAsk
import Derived.WalkLawsBesides
import Derived.WalkSpells
import Derived.Deep.Cut
import Derived.Deep.Light
namespace Go.Proofs.Ytnienipaicckmaa
open Go.RowKit
set_option linter.unusedSimpArgs false
set_option linter.unusedVariables false
attribute [local go_sem] ext_cell ext_frozen
attribute [local go_sem low] alloc_cell alloc_frozen
attribute [local go_sem ↓] eql_val

/-- the bag of a request's attribute -/
def bagS (cat : Int) (name : ByteArray) (l : List Giv) : List Val := match l.find? (isG cat name) with | some g => g.bag | none => []
def getS (a : Atr) (l : List Giv) : List Val × Int := if (bagS a.cat a.name l).isEmpty && a.must then ([], 4) else (bagS a.cat a.name l, 0)
theorem bagS_no {cat : Int} {name : ByteArray} {l : List Giv} (h : ∀ g ∈ l, isG cat name g = false) : bagS cat name l = [] := by
  have : l.find? (isG cat name) = none := List.find?_eq_none.2 fun g hg => by simp [h g hg]
  simp [bagS, this]
theorem bagS_at {cat : Int} {name : ByteArray} {l : List Giv} {k : Nat} (hk : k < l.length) (h : ∀ g ∈ l.take k, isG cat name g = false) (hg : isG cat name l[k] = true) : bagS cat name l = l[k].bag := by
  have e : l = l.take k ++ l[k] :: l.drop (k + 1) := by rw [← List.drop_eq_getElem_cons hk, List.take_append_drop]
  have : l.find? (isG cat name) = some l[k] := by
    conv => lhs; rw [e]
    rw [List.find?_append, List.find?_eq_none.2 fun g hm => by simp [h g hm], List.find?_cons, hg]
    rfl
  simp [bagS, this]
/-- where an attribute stands -/
theorem place_cases (cat : Int) (name : ByteArray) (l : List Giv) : (placeS cat name l = -1 ∧ bagS cat name l = [] ∧ ∀ g ∈ l, isG cat name g = false) ∨ ∃ (k : Nat) (hk : k < l.length), placeS cat name l = k ∧ bagS cat name l = l[k].bag ∧ isG cat name l[k] = true ∧ ∀ g ∈ l.take k, isG cat name g = false := by
  by_cases h : l.findIdx (isG cat name) < l.length
  · right
    have h1 : isG cat name l[l.findIdx (isG cat name)] = true := List.findIdx_getElem (w := h)
    have h2 : ∀ g ∈ l.take (l.findIdx (isG cat name)), isG cat name g = false := by
      intro g hg
      obtain ⟨j, hj, rfl⟩ := List.mem_take_iff_getElem.1 hg
      exact List.not_of_lt_findIdx (by omega)
    exact ⟨_, h, placeS_at h h2 h1, bagS_at h h2 h1, h1, h2⟩
  · left
    have h1 : l.findIdx (isG cat name) = l.length := Nat.le_antisymm List.findIdx_le_length (by omega)
    have h2 := List.findIdx_eq_length.1 h1
    exact ⟨placeS_no h2, bagS_no h2, h2⟩
abbrev getPost (a : Atr) (l : List Giv) (w : World) : Ending → World → Prop := fun e w' => ∃ v, e = .returned (.tuple #[v, .int .i64 (getS a l).2]) ∧ makes (getS a l).1 w w' v
theorem get_any (a : Atr) (l : List Giv) (A : Option Addr) (c : Nat) (w : World) (hn : l.length ≤ 1000000) (hb : ∀ g ∈ l, g.bag.length ≤ 1000000) (h : SlAt rGiv 3 w A l) :
    Calls Try.prog 38 #[.slice A l.length c, .agg #[.int .i64 a.cat, .string a.name, .bool a.must]] w (getPost a l w) := by
  have H := hide h
  clear h
  have hn' : l.length ≤ reachBytes := by unfold reachBytes; omega
  rcases place_cases a.cat a.name l with ⟨hp, hbag, _⟩ | ⟨k, hk, hp, hbag, _, _⟩
  · have hr : getS a l = ([], if a.must then 4 else 0) := by simp only [getS, hbag]; cases a.must <;> rfl
    replace hr := hide hr
    replace hp := hide hp
    clear hbag
    go_enter Try.func38, Try.ntmps38
    go_wp2_with (go_at_call 54; refine (place_any a.cat a.name l _ _ _ hn' (H.out.keep keeps_giv (by repeat (first | exact Below.refl _ _ | assumption | refine Below.alloc1 ?_ _ | refine Below.drew ?_ | refine below_drewl ?_ | refine Below.setCell ?_ (by first | exact Nat.le_refl _ | (simp; done) | omega | (simp; omega)) _ | refine Below.lift ?_ (by assumption))))).mono ?_; rw [hp.out]; rintro e w2 ⟨rfl, hB2⟩; obtain ⟨hc2, hf2⟩ := bcell hB2; have hz2 := hB2.size; try simp only [World.size_alloc, World.size_drew] at hc2 hf2 hz2)
    all_goals
      go_ret2
      have e := hr.out
      clear hr
      refine ⟨.slice none 0 0, ?_, none, 0, ?_, ?_, (by repeat (first | exact Below.refl _ _ | assumption | refine Below.alloc1 ?_ _ | refine Below.drew ?_ | refine below_drewl ?_ | refine Below.setCell ?_ (by first | exact Nat.le_refl _ | (simp; done) | omega | (simp; omega)) _ | refine Below.lift ?_ (by assumption)))⟩
      · simp_all
      · rw [e]; rfl
      · rw [e]; exact SlAt.nil
  · have hlen : l[k].bag.length ≤ 1000000 := hb _ (List.getElem_mem hk)
    have hr : getS a l = if l[k].bag.length = 0 ∧ a.must = true then ([], 4) else (l[k].bag, 0) := by
      simp only [getS, hbag]
      cases l[k].bag <;> cases a.must <;> rfl
    replace hr := hide hr
    replace hp := hide hp
    clear hbag hb
    obtain ⟨b, o, B, cb, rfl, hb, c0, c1, c2, _, _, hbc, hc, hbag⟩ := H.out.giv hk
    replace hbag := hide hbag
    go_enter Try.func38, Try.ntmps38
    go_upto_region 3 with (go_at_call 54; refine (place_any a.cat a.name l _ _ _ hn' (H.out.keep keeps_giv (by repeat (first | exact Below.refl _ _ | assumption | refine Below.alloc1 ?_ _ | refine Below.drew ?_ | refine below_drewl ?_ | refine Below.setCell ?_ (by first | exact Nat.le_refl _ | (simp; done) | omega | (simp; omega)) _ | refine Below.lift ?_ (by assumption))))).mono ?_; rw [hp.out]; rintro e w2 ⟨rfl, hB2⟩; obtain ⟨hc2, hf2⟩ := bcell hB2; have hz2 := hB2.size; try simp only [World.size_alloc, World.size_drew] at hc2 hf2 hz2)
    go_upto_region 5 with (go_at_call 56; refine (clone_any l[k].bag B cb _ hlen (hbag.out.keep keeps_val (by repeat (first | exact Below.refl _ _ | assumption | refine Below.alloc1 ?_ _ | refine Below.drew ?_ | refine below_drewl ?_ | refine Below.setCell ?_ (by first | exact Nat.le_refl _ | (simp; done) | omega | (simp; omega)) _ | refine Below.lift ?_ (by assumption))))).mono ?_; rintro e w3 ⟨v, rfl, A3, c3, rfl, h3, hB3⟩; obtain ⟨hc3, hf3⟩ := bcell hB3; have hz3 := hB3.size; try simp only [World.size_alloc, World.size_drew] at hc3 hf3 hz3)
    replace h3 := hide h3
    refine wp_spec (by kernel_rfl) ?_
    repeat (refine spec_step ?_; intro K hK; go_big_quiet_op; go_big_quiet_on)
    refine spec_nil ?_
    intro us
    simp only [junk, Act.put, List.setIfInBounds_toArray, List.set_cons_zero, List.set_cons_succ]
    go_wp2
    · go_ret2
      have e : getS a l = ([], 4) := by
        have := hr.out
        go_light
        simp_all
        try (intro hh; simp_all)
      clear hr
      refine ⟨.slice none 0 0, ?_, none, 0, ?_, ?_, (by repeat (first | exact Below.refl _ _ | assumption | refine Below.alloc1 ?_ _ | refine Below.drew ?_ | refine below_drewl ?_ | refine Below.setCell ?_ (by first | exact Nat.le_refl _ | (simp; done) | omega | (simp; omega)) _ | refine Below.lift ?_ (by assumption)))⟩
      · rw [e] <;> rfl
      · rw [e]; rfl
      · rw [e]; exact SlAt.nil
    · go_ret2
      have e : getS a l = (l[k].bag, 0) := by
        have := hr.out
        go_light
        simp_all
        try (intro hh; simp_all)
      clear hr
      refine ⟨.slice A3 l[k].bag.length c3, ?_, A3, c3, ?_, ?_, (by repeat (first | exact Below.refl _ _ | assumption | refine Below.alloc1 ?_ _ | refine Below.drew ?_ | refine below_drewl ?_ | refine Below.setCell ?_ (by first | exact Nat.le_refl _ | (simp; done) | omega | (simp; omega)) _ | refine Below.lift ?_ (by assumption)))⟩
      · rw [e] <;> rfl
      · rw [e] <;> rfl
      · rw [e]; exact h3.out

theorem own_made {α : Type} (f : α → List Value) {size : Nat} (w : World) (b base : Nat) (e : TypeId) (hb : b = w.heap.size) (hbase : base ≤ b) : OwnF f size (w.alloc (.cells #[] e)) base e (.slice (some ⟨b, 0, none⟩) 0 0) [] := by
  subst hb
  exact World.ownsRow_made w #[] 0 hbase (by simp [maxLen]) (by simp)
theorem isG_list (cat : Int) (name : ByteArray) (g : Giv) : isG cat name g = (g.cat == cat && g.name.toList == name.toList) := by
  have hi : (g.name.toList == name.toList) = decide (g.name = name) := by
    by_cases e : g.name = name
    · simp [e]
    · simp only [decide_eq_false e]; exact beq_eq_false_iff_ne.2 fun h => e (toList_inj h)
  rw [hi]
  rfl
theorem res_cells3 {w wr : World} {a b c : Value} {t : TypeId} (h : Below (w.heap.size + 1) (w.alloc (.cells #[a, b, c] t)) wr) :
    wr.cell? ⟨w.heap.size, 0, none⟩ = some a ∧ wr.cell? ⟨w.heap.size, 1, none⟩ = some b ∧ wr.cell? ⟨w.heap.size, 2, none⟩ = some c ∧
    wr.frozen? ⟨w.heap.size, 0, none⟩ = false ∧ wr.frozen? ⟨w.heap.size, 1, none⟩ = false ∧ wr.frozen? ⟨w.heap.size, 2, none⟩ = false ∧ w.heap.size < wr.heap.size := by
  have hz := h.size
  simp only [World.size_alloc] at hz
  refine ⟨?_, ?_, ?_, ?_, ?_, ?_, by omega⟩
  · rw [h.cell (p := ⟨w.heap.size, 0, none⟩) (by simp)]; simp [go_sem]
  · rw [h.cell (p := ⟨w.heap.size, 1, none⟩) (by simp)]; simp [go_sem]
  · rw [h.cell (p := ⟨w.heap.size, 2, none⟩) (by simp)]; simp [go_sem]
  · rw [h.frozen (p := ⟨w.heap.size, 0, none⟩) (by simp)]; simp [go_sem]
  · rw [h.frozen (p := ⟨w.heap.size, 1, none⟩) (by simp)]; simp [go_sem]
  · rw [h.frozen (p := ⟨w.heap.size, 2, none⟩) (by simp)]; simp [go_sem]
set_option maxRecDepth 100000 in
set_option maxHeartbeats 1000000 in
theorem ref_get_any (a : Atr) (l : List Giv) (A : Option Addr) (c : Nat) (w : World) (hn : l.length ≤ 1000000) (hb : ∀ g ∈ l, g.bag.length ≤ 1000000) (h : SlAt rGiv 3 w A l) :
    Calls Try.prog 43 #[.slice A l.length c, .agg #[.int .i64 a.cat, .string a.name, .bool a.must]] w (getPost a l w) := by
  have H := hide h
  clear h
  obtain ⟨i0, hi, hz0, hz1, hz2⟩ := info_parts info_val
  go_enter Try.func43, Try.ntmps43
  go_wp2
  go_loopw [6, 8, 11] (fun v _ i wr => v = .slice none 0 0 ∧ ∃ k : Nat, k ≤ l.length ∧ i = .int .i64 k ∧ Below (w.heap.size + 1) (w.alloc (.cells #[.int .i64 a.cat, .string a.name, .bool a.must] 23)) wr ∧ Hid (∀ g ∈ l.take k, isG a.cat a.name g = false)) (fun _ _ i _ => l.length - (intOf i).toNat)
  case atStart => exact ⟨rfl, 0, Nat.zero_le _, rfl, Below.refl _ _, by simp [Hid]⟩
  case round =>
    obtain ⟨rfl, k, hk, rfl, hB1, hall⟩ := hrel
    have hB : Below w.heap.size w wr := ((Below.refl _ _).alloc (Nat.le_refl _) _).trans (hB1.mono (by omega))
    obtain ⟨g0, g1, g2, g3, g4, g5, gz⟩ := res_cells3 hB1
    by_cases hlt : k < l.length
    · obtain ⟨b, o, B, cb, rfl, hbb, c0, c1, c2, hcat, hname, hbc, hc, hbag⟩ := (H.out.keep keeps_giv hB).giv hlt
      have hlen : l[k].bag.length ≤ 1000000 := hb _ (List.getElem_mem hlt)
      replace hbag := hide hbag
      go_upto_region 5 with (fail)
      refine wp_spec (by kernel_rfl) ?_
      repeat (refine spec_step ?_; intro K hK; go_big_quiet_op; go_big_quiet_on)
      refine spec_nil ?_
      intro us
      simp only [junk, Act.put, List.setIfInBounds_toArray, List.set_cons_zero, List.set_cons_succ]
      go_upto_region 6 with (fail)
      · skip
        have hk2 : isG a.cat a.name l[k] = true := by
          rw [isG_list]
          go_light
          simp_all
        have hr : getS a l = if l[k].bag.length = 0 ∧ a.must = true then ([], 4) else (l[k].bag, 0) := by
          simp only [getS, bagS_at hlt hall.out hk2]
          cases l[k].bag <;> cases a.must <;> rfl
        replace hr := hide hr
        rename _ ∧ _ => ht
        clear ht hk2
        go_upto_region 8 with (at_builtin; refine wpList_append_f (f := fVal) (fun _ => rfl) fVal_cell rfl _ _ 35 rfl (w.heap.size + 1) 25 i0 _ 32 Try.underlying35 hi hz0 hz1 hz2 rfl (by decide) _ [] rfl ?_ _ _ l[k].bag rfl ?_ ?_ ?_ ?_ ?_; exact own_made _ _ _ _ _ (by simp) (by omega); exact (hbag.out.keep keeps_val (by repeat (first | exact Below.refl _ _ | assumption | refine Below.alloc1 ?_ _ | refine Below.drew ?_ | refine below_drewl ?_ | refine Below.setCell ?_ (by first | exact Nat.le_refl _ | (simp; done) | omega | (simp; omega)) _ | refine Below.lift ?_ (by assumption)))).raw; exact (by simp [maxLen]; omega); exact (by simp; omega); exact (by simp; omega); intro v' w3 hown3 hB3)
        try rw [List.nil_append] at hown3
        obtain ⟨A3, c3, rfl, hc'⟩ := hown3.shape
        have h3 : SlAt rVal 3 w3 A3 l[k].bag := OwnF.slat (R := rVal) (f := fVal) (fun _ => rfl) hown3 (fun x hx => ⟨rfl, hbag.out.fits x hx⟩)
        have hB4 : Below (w.heap.size + 1) (w.alloc (.cells #[.int .i64 a.cat, .string a.name, .bool a.must] 23)) w3 := by
          exact ((hB1.alloc (by omega) _).alloc (by simp; omega) _).trans hB3
        obtain ⟨e0, e1, e2, e3, e4, e5, ez⟩ := res_cells3 hB4
        have hB5 : Below w.heap.size w w3 := ((Below.refl _ _).alloc (Nat.le_refl _) _).trans (hB4.mono (by omega))
        replace h3 := hide h3
        clear hown3 hB4 hc'
        refine wp_spec (by kernel_rfl) ?_
        repeat (refine spec_step ?_; intro K hK; go_big_quiet_op; go_big_quiet_on)
        refine spec_nil ?_
        intro us
        simp only [junk, Act.put, List.setIfInBounds_toArray, List.set_cons_zero, List.set_cons_succ]
        go_wp2
        · go_ret2
          have e : getS a l = ([], 4) := by
            have := hr.out
            go_light
            simp_all
            try (intro hh; simp_all)
          refine ⟨.slice none 0 0, ?_, none, 0, ?_, ?_, hB5⟩
          · rw [e] <;> rfl
          · rw [e]; rfl
          · rw [e]; exact SlAt.nil
        · go_ret2
          have e : getS a l = (l[k].bag, 0) := by
            have := hr.out
            go_light
            simp_all
            try (intro hh; simp_all)
          refine ⟨.slice A3 l[k].bag.length c3, ?_, A3, c3, ?_, ?_, hB5⟩
          · rw [e] <;> rfl
          · rw [e] <;> rfl
          · rw [e]; exact h3.out
      · skip
        have hk2 : isG a.cat a.name l[k] = false := by
          rw [isG_list]
          rename _ ∨ _ => ht
          rcases ht with ht | ht <;> simp [ht]
        go_roundw
        case rel => exact ⟨k + 1, by omega, by go_num, hB1.alloc (by omega) _, take_no hlt hall.out hk2⟩
        case measure => simp [intOf]; omega
    · obtain rfl : k = l.length := by omega
      have e := hall.out
      rw [List.take_length] at e
      have hr : getS a l = ([], if a.must then 4 else 0) := by simp only [getS, bagS_no e]; cases a.must <;> rfl
      replace hr := hide hr
      clear e
      go_wp2
      all_goals
        go_ret2
        have e := hr.out
        clear hr
        refine ⟨.slice none 0 0, ?_, none, 0, ?_, ?_, (by repeat (first | exact Below.refl _ _ | assumption | refine Below.alloc1 ?_ _ | refine Below.drew ?_ | refine below_drewl ?_ | refine Below.setCell ?_ (by first | exact Nat.le_refl _ | (simp; done) | omega | (simp; omega)) _ | refine Below.lift ?_ (by assumption)))⟩
        · rw [e]
          simp_all
        · rw [e]; rfl
        · rw [e]; exact SlAt.nil
end Go.Proofs.Ytnienipaicckmaa
