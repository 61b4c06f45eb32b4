/-
  Rows of the call's own whose elements lead to other memory: what an append leaves as it was.
-/
import Derived.Test.YtjpcchipejmocaaAppend
namespace Go.Proofs.Ytjpcchipejmocaa
set_option linter.unusedVariables false
set_option linter.unusedSimpArgs false
open Go.RowKit

/-- a reading that leads to no block outside 'ok' -/
abbrev RF (α : Type) := (Nat → Prop) → Rp α
def SlAtA {α : Type} (ok : Nat → Prop) (R : Rp α) (size : Nat) (w : World) (A : Option Addr) (l : List α) : Prop :=
  0 < l.length → ∃ b o, A = some ⟨b, o, none⟩ ∧ ok b ∧ b < w.heap.size ∧ ∀ i (h : i < l.length), ∃ cs, cs.length = size ∧ CellsAt w b (o + i * size) cs ∧ R w cs l[i]
def fSl {α : Type} (R : RF α) (size : Nat) : RF (List α) := fun ok w cs l => ∃ A c, cs = [.slice A l.length c] ∧ l.length ≤ c ∧ (l.length ≤ reachBytes ∧ c ≤ maxLen) ∧ SlAtA ok (R ok) size w A l
/-- the blocks in 'ok' are as they were -/
structure SameOn (ok : Nat → Prop) (w w' : World) : Prop where
  size : w.heap.size ≤ w'.heap.size
  block : ∀ b, b < w.heap.size → ok b → w'.heap[b]? = w.heap[b]?
structure Good {α : Type} (R : RF α) : Prop where
  keep : ∀ ok w w' cs x, SameOn ok w w' → R ok w cs x → R ok w' cs x
  weak : ∀ ok ok' w cs x, (∀ b, b < w.heap.size → ok b → ok' b) → R ok w cs x → R ok' w cs x
theorem SameOn.of {ok : Nat → Prop} {w w' : World} (h : Below w.heap.size w w') : SameOn ok w w' := ⟨h.size, fun b hb _ => h.block b hb⟩
theorem good_plain {α : Type} (R : Rp α) (h : ∀ w w' cs x, R w cs x → R w' cs x) : Good (fun _ => R) := ⟨fun _ _ _ _ _ _ h' => h _ _ _ _ h', fun _ _ _ _ _ _ h' => h'⟩
theorem SlAtA.keep {α : Type} {R : RF α} (hR : Good R) {ok : Nat → Prop} {size : Nat} {w w' : World} {A : Option Addr} {l : List α} (hs : SameOn ok w w') (h : SlAtA ok (R ok) size w A l) : SlAtA ok (R ok) size w' A l := fun hl => by
  obtain ⟨b, o, hA, hok, hlt, hc⟩ := h hl
  refine ⟨b, o, hA, hok, Nat.lt_of_lt_of_le hlt hs.size, fun i hi => ?_⟩
  obtain ⟨cs, h1, h2, h3⟩ := hc i hi
  exact ⟨cs, h1, fun j u hj => (World.cell?_of_block (w := w) (a := ⟨b, o + i * size + j, none⟩) (hs.block b hlt hok)).trans (h2 j u hj), hR.keep _ _ _ _ _ hs h3⟩
theorem SlAtA.weak {α : Type} {R : RF α} (hR : Good R) {ok ok' : Nat → Prop} {size : Nat} {w : World} {A : Option Addr} {l : List α} (hs : ∀ b, b < w.heap.size → ok b → ok' b) (h : SlAtA ok (R ok) size w A l) : SlAtA ok' (R ok') size w A l := fun hl => by
  obtain ⟨b, o, hA, hok, hlt, hc⟩ := h hl
  refine ⟨b, o, hA, hs b hlt hok, hlt, fun i hi => ?_⟩
  obtain ⟨cs, h1, h2, h3⟩ := hc i hi
  exact ⟨cs, h1, h2, hR.weak _ _ _ _ _ hs h3⟩
theorem good_sl {α : Type} {R : RF α} (hR : Good R) (size : Nat) : Good (fSl R size) :=
  ⟨fun _ _ _ _ _ hs ⟨A, c, h1, h2, h3, h4⟩ => ⟨A, c, h1, h2, h3, h4.keep hR hs⟩, fun _ _ _ _ _ hs ⟨A, c, h1, h2, h3, h4⟩ => ⟨A, c, h1, h2, h3, h4.weak hR hs⟩⟩
/-- the avoiding reading is a reading; a reading avoids what is not there -/
def Forget {α : Type} (R : RF α) (R' : Rp α) : Prop := ∀ ok w cs x, R ok w cs x → R' w cs x
def Lifts {α : Type} (R : RF α) (R' : Rp α) : Prop := ∀ w cs x, R' w cs x → R (fun _ => True) w cs x
theorem SlAtA.forget {α : Type} {R : RF α} {R' : Rp α} (hf : Forget R R') {ok : Nat → Prop} {size : Nat} {w : World} {A : Option Addr} {l : List α} (h : SlAtA ok (R ok) size w A l) : SlAt R' size w A l := fun hl => by
  obtain ⟨b, o, hA, _, hlt, hc⟩ := h hl
  refine ⟨b, o, hA, hlt, fun i hi => ?_⟩
  obtain ⟨cs, h1, h2, h3⟩ := hc i hi
  exact ⟨cs, h1, h2, hf _ _ _ _ h3⟩
theorem SlAtA.lift {α : Type} {R : RF α} {R' : Rp α} (hf : Lifts R R') {size : Nat} {w : World} {A : Option Addr} {l : List α} (h : SlAt R' size w A l) : SlAtA (fun _ => True) (R fun _ => True) size w A l := fun hl => by
  obtain ⟨b, o, hA, hlt, hc⟩ := h hl
  refine ⟨b, o, hA, trivial, hlt, fun i hi => ?_⟩
  obtain ⟨cs, h1, h2, h3⟩ := hc i hi
  exact ⟨cs, h1, h2, hf _ _ _ h3⟩
/-- what was there ahead of a number of blocks leads to blocks ahead of it -/
theorem SlAtA.old {α : Type} {R : RF α} {R' : Rp α} (hR : Good R) (hf : Lifts R R') {ok : Nat → Prop} {size : Nat} {w w' : World} {A : Option Addr} {l : List α} (hb : Below w.heap.size w w') (hok : ∀ b, b < w.heap.size → ok b) (h : SlAt R' size w A l) : SlAtA ok (R ok) size w' A l :=
  (SlAtA.weak hR (fun b hb' _ => hok b hb') (SlAtA.lift hf h)).keep hR (SameOn.of hb)
theorem forget_sl {α : Type} {R : RF α} {R' : Rp α} (hf : Forget R R') (size : Nat) : Forget (fSl R size) (rSl R' size) := fun _ _ _ _ ⟨A, c, h1, h2, h3, h4⟩ => ⟨A, c, h1, h2, h3, h4.forget hf⟩
theorem lifts_sl {α : Type} {R : RF α} {R' : Rp α} (hf : Lifts R R') (size : Nat) : Lifts (fSl R size) (rSl R' size) := fun _ _ _ ⟨A, c, h1, h2, h3, h4⟩ => ⟨A, c, h1, h2, h3, SlAtA.lift hf h4⟩
theorem forget_plain {α : Type} (R : Rp α) : Forget (fun _ => R) R := fun _ _ _ _ h => h
theorem lifts_plain {α : Type} (R : Rp α) : Lifts (fun _ => R) R := fun _ _ _ h => h

theorem SlAtA.drop {α : Type} {ok : Nat → Prop} {R : Rp α} {size : Nat} {w : World} {A : Option Addr} {l : List α} (h : SlAtA ok R size w A l) : SlAt R size w A l := fun hl => by
  obtain ⟨b, o, hA, _, hlt, hc⟩ := h hl
  exact ⟨b, o, hA, hlt, hc⟩
/-- the cells of an element, as they lie -/
abbrev Cel (size : Nat) := { cs : List Value // cs.length = size ∧ ∀ u ∈ cs, u.oneCell' = true }
def okR (ok : Nat → Prop) (v : Value) (b : Nat) : Prop := ok b ∧ some b ≠ v.ownBlock
/-- a slice value that owns a row of elements which lead to memory in 'ok' beside the row -/
def RowO {α : Type} (R : RF α) (size : Nat) (ok : Nat → Prop) (w : World) (base : Nat) (e : TypeId) (v : Value) (l : List α) : Prop :=
  ∃ css : List (Cel size), OwnF Subtype.val size w base e v css ∧ css.length = l.length ∧ ∀ i (h1 : i < css.length) (h2 : i < l.length), R (okR ok v) w css[i].val l[i]
section
variable {α : Type} {R : RF α} {size : Nat} {ok : Nat → Prop} {w w' : World} {base : Nat} {e : TypeId} {v : Value} {l : List α}
theorem rowO_nil : RowO R size ok w base e (.slice none 0 0) [] := ⟨[], ownF_nil _ _ _ _, rfl, fun i h1 => absurd h1 (by simp)⟩
theorem rowO_made (w : World) (b : Nat) (hb : b = w.heap.size) (hbase : base ≤ b) : RowO R size ok (w.alloc (.cells #[] e)) base e (.slice (some ⟨b, 0, none⟩) 0 0) [] := by
  subst hb
  exact ⟨[], World.ownsRow_made w #[] 0 hbase (by simp [maxLen]) (by simp), rfl, fun i h1 => absurd h1 (by simp)⟩
theorem RowO.shape (h : RowO R size ok w base e v l) : ∃ A c, v = .slice A l.length c ∧ l.length ≤ c ∧ c ≤ maxLen := by
  obtain ⟨css, h1, h2, _⟩ := h
  rcases h1.2 with ⟨rfl, h0⟩ | ⟨g, cap, cur, rfl, _, _, hc, hm, _⟩
  · exact ⟨none, 0, by rw [← h2, h0], by omega, Nat.zero_le _⟩
  · exact ⟨_, cap, by rw [h2], by omega, hm⟩
theorem RowO.below (hR : Good R) (h : RowO R size ok w base e v l) (hb : Below w.heap.size w w') : RowO R size ok w' base e v l := by
  obtain ⟨css, h1, h2, h3⟩ := h
  exact ⟨css, h1.below hb, h2, fun i a b => hR.keep _ _ _ _ _ (SameOn.of hb) (h3 i a b)⟩
/-- the row as something to be read, and to be put into another one -/
theorem RowO.slatA (hR : Good R) {A : Option Addr} {c : Nat} {ok' : Nat → Prop} (h : RowO R size ok w base e (.slice A l.length c) l) (hok : ∀ b, b < w.heap.size → ok b → ok' b) (hown : ∀ b, base ≤ b → b < w.heap.size → ok' b) : SlAtA ok' (R ok') size w A l := fun hl => by
  obtain ⟨css, h1, h2, h3⟩ := h
  have h1' : OwnF Subtype.val size w base e (.slice A css.length c) css := by rw [h2]; exact h1
  have hs := OwnF.slat (R := fun _ cs (y : Cel size) => cs = y.val) (fun x => x.2.1) h1' (fun x _ => rfl)
  rcases h1.2 with ⟨hv, h0⟩ | ⟨g, cap, cur, hv, hg, hh, _⟩
  · omega
  · obtain ⟨b, o, hA, hlt, hc⟩ := hs (by omega)
    simp only [Value.slice.injEq] at hv
    have hbg : b = g := by
      have := hA.symm.trans hv.1
      simp only [Option.some.injEq, Addr.mk.injEq] at this
      exact this.1
    refine ⟨b, o, hA, hown b (by omega) hlt, hlt, fun i hi => ?_⟩
    obtain ⟨cs, a1, a2, rfl⟩ := hc i (by omega)
    exact ⟨_, a1, a2, hR.weak _ _ _ _ _ (fun b hb h => hok b hb h.1) (h3 i (by omega) hi)⟩
theorem RowO.slat {R' : Rp α} (hR : Good R) (hf : Forget R R') {A : Option Addr} {c : Nat} (h : RowO R size ok w base e (.slice A l.length c) l) : SlAt R' size w A l :=
  (h.slatA (ok' := fun _ => True) hR (fun _ _ _ => trivial) (fun _ _ _ => trivial)).forget hf
end

section
variable {P : Program} {α : Type} {R : RF α} {size : Nat}
/-- append onto such a row -/
theorem wpList_append_row (hR : Good R) {ok : Nat → Prop}
    {ops : Array Oper} {rest : List Oper} {o : Oper} {a : Act} {Q : Exit → Act → World → Prop} {w : World} (hw : Region.wanted o (yielded ops a.tmps) = true) (s x : Operand) (t : TypeId)
    (ho : o.op = .call { callee := .builtin .append, args := #[s, x], argTypes := #[t, t] })
    (base : Nat) (e : TypeId) (i : TypeInfo) (z : Value) (bytes : Nat) (ht : P.underlying t = some (.slice e)) (hi : P.info? e = some i) (hz : i.zero = some z)
    (hsize : i.size = size) (hby : i.bytes = bytes) (hzs : z.cells.size = size) (hsz : 0 < size)
    (v : Value) (l : List α) (hs : a.eval s = v) (hown : RowO R size ok w base e v l)
    (A : Option Addr) (c : Nat) (l₂ : List α) (hx : a.eval x = .slice A l₂.length c) (hr : SlAt (fun w cs y => (∀ u ∈ cs, u.oneCell' = true) ∧ R (okR ok v) w cs y) size w A l₂)
    (h63 : l.length + l₂.length ≤ maxLen) (hbytes : (l.length + l₂.length) * bytes ≤ 140737488355328) (hbase : base ≤ w.heap.size) (hokn : ok w.heap.size)
    (h : ∀ v' w', RowO R size ok w' base e v' (l ++ l₂) → Below base w w' → wpList P ops Q rest (a.put o.dst v') w') : wpList P ops Q (o :: rest) a w := by
  obtain ⟨css, h1, h2, h3⟩ := hown
  -- the new elements' cells
  have hex : ∀ j : Nat, ∃ cs : Cel size, ∀ hj : j < l₂.length, R (okR ok v) w cs.val l₂[j] ∧ ∀ b o', A = some ⟨b, o', none⟩ → CellsAt w b (o' + j * size) cs.val := by
    intro j
    by_cases hj : j < l₂.length
    · obtain ⟨b, o', hA, _, hc⟩ := hr (by omega)
      obtain ⟨cs, a1, a2, a3, a4⟩ := hc j hj
      refine ⟨⟨cs, a1, a3⟩, fun _ => ⟨a4, fun b2 o2 hA2 => ?_⟩⟩
      have := hA.symm.trans hA2
      simp only [Option.some.injEq, Addr.mk.injEq] at this
      obtain ⟨rfl, rfl, _⟩ := this
      exact a2
    · exact ⟨⟨List.replicate size .nilIface, by simp, fun u hu => by rw [List.eq_of_mem_replicate hu]; rfl⟩, fun h => absurd h hj⟩
  obtain ⟨f, hf⟩ := Classical.axiomOfChoice hex
  let css₂ : List (Cel size) := (List.range l₂.length).map f
  have hlen2 : css₂.length = l₂.length := by simp [css₂]
  have hget : ∀ j (h : j < css₂.length), css₂[j] = f j := fun j h => by simp [css₂]
  have hraw : SlAt (fun _ cs (y : Cel size) => cs = y.val) size w A css₂ := fun hl => by
    obtain ⟨b, o', hA, hlt, _⟩ := hr (by omega)
    refine ⟨b, o', hA, hlt, fun j hj => ⟨_, (f j).2.1, ((hf j) (by omega)).2 b o' hA, by rw [hget]⟩⟩
  have key : ∃ v' w', (Builtin.append_ #[t, t] o.type #[v, .slice A css₂.length c]).run P w = .ok v' w' ∧ OwnF Subtype.val size w' base e v' (css ++ css₂) ∧ w.grownBy w' v.ownBlock ∧ (v'.ownBlock = v.ownBlock ∨ v'.ownBlock = some w.heap.size) := by
    rcases Nat.eq_zero_or_pos css₂.length with h0 | hpos
    · have hn : css₂ = [] := List.eq_nil_of_length_eq_zero h0
      rw [hn]
      rcases A with _ | ad
      · exact ⟨v, w, run_append_none w t o.type e i ht hi base size v _ _ h1 c, by simpa [OwnF] using h1, World.grownBy.refl w _, Or.inl rfl⟩
      · obtain ⟨v', w', hrun, g2, g3, _, g5⟩ := run_append_own_at (P := P) w base t o.type e i z size bytes ht hi hz hsize hby hzs hsz v _ _ h1 ad 0 c [] (by simp) (by simp) (by simp) (by omega) (by rw [h2]; exact Nat.le_trans (Nat.mul_le_mul_right _ (by omega)) hbytes) hbase
        exact ⟨v', w', hrun, by simpa [OwnF] using g2, g3, g5⟩
    · obtain ⟨b, o', rfl, hlt, hc⟩ := hraw hpos
      have hcells : ∀ j u, (css₂.flatMap Subtype.val)[j]? = some u → w.cell? ((⟨b, o', none⟩ : Addr).add j) = some u := by
        intro j u hj
        have hjl : j < css₂.length * size := by rw [← flat_len (fun x : Cel size => x.2.1) css₂]; exact (List.getElem?_eq_some_iff.1 hj).1
        have hi' : j / size < css₂.length := (Nat.div_lt_iff_lt_mul hsz).2 hjl
        have hm : j % size < size := Nat.mod_lt _ hsz
        have hjj : j / size * size + j % size = j := by rw [Nat.mul_comm]; exact Nat.div_add_mod j size
        obtain ⟨cs, _, hcs, rfl⟩ := hc (j / size) hi'
        have g1 := flat_get (fun x : Cel size => x.2.1) css₂ (j / size) hi' (j % size) hm
        rw [hjj, hj] at g1
        have g2 := hcs (j % size) u g1.symm
        have e1 : (⟨b, o', none⟩ : Addr).add j = ⟨b, o' + j / size * size + j % size, none⟩ := by
          rw [Nat.add_assoc, hjj]
          unfold Addr.add; split
          · simp [*]
          · rfl
        rw [e1]; exact g2
      obtain ⟨v', w', hrun, g2, g3, _, g5⟩ := run_append_own_at (P := P) w base t o.type e i z size bytes ht hi hz hsize hby hzs hsz v _ _ h1 ⟨b, o', none⟩ css₂.length c (css₂.flatMap Subtype.val) (flat_len (fun x : Cel size => x.2.1) css₂) hcells
        (fun u hu => by obtain ⟨x, _, hx⟩ := List.mem_flatMap.1 hu; exact x.2.2 u hx) (by omega) (by rw [h2, hlen2]; exact hbytes) hbase
      refine ⟨v', w', hrun, ?_, g3, g5⟩
      unfold OwnF
      rw [List.length_append, List.flatMap_append]
      exact g2
  obtain ⟨v', w', hrun, g2, g3, g5⟩ := key
  rw [hlen2] at hrun
  unfold wpList
  rw [if_pos hw]
  refine Or.inl ?_
  unfold Oper.wp execOp
  simp only [ho, resolve, invoke, builtin, Sem.run_bind, Sem.run_pure, Result.andThen_ok, List.map_toArray, List.map_cons, List.map_nil, hs, hx, hrun]
  have hlt : ∀ b, b < w.heap.size → okR ok v b → okR ok v b ∧ okR ok v' b := fun b hb hk => ⟨hk, hk.1, by
    rcases g5 with g | g
    · rw [g]; exact hk.2
    · rw [g]; intro he; simp only [Option.some.injEq] at he; omega⟩
  have hsame : SameOn (fun b => okR ok v b ∧ okR ok v' b) w w' := ⟨g3.size, fun b hb hk => g3.block b hb hk.1.2⟩
  have fin : ∀ cs x, R (okR ok v) w cs x → R (okR ok v') w' cs x := fun cs x hx => hR.weak _ _ _ _ _ (fun _ _ h => h.2) (hR.keep _ _ _ _ _ hsame (hR.weak _ _ _ _ _ hlt hx))
  show wpList P ops Q rest (a.put o.dst v') w'
  refine (h v' w' ⟨css ++ css₂, g2, by rw [List.length_append, List.length_append, h2, hlen2], fun j a1 a2 => ?_⟩ ?_)
  · by_cases hj : j < css.length
    · rw [List.getElem_append_left hj, List.getElem_append_left (by omega)]
      exact fin _ _ (h3 j hj (by omega))
    · have hj2 : j - css.length < l₂.length := by rw [List.length_append] at a2; omega
      rw [List.getElem_append_right (by omega), List.getElem_append_right (by omega), hget]
      have := ((hf (j - css.length)) hj2).1
      simp only [h2] at this ⊢
      exact fin _ _ this
  · exact (Below.refl base w).grown g3 hbase fun k hk => (h1.lt k hk).1
end
end Go.Proofs.Ytjpcchipejmocaa
