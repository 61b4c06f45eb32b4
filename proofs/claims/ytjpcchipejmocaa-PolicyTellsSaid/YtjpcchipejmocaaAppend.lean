/-
  append onto a row of the call's own, for elements that are cells of their own (no memory behind them); and a slice's copy.
-/
import Derived.Test.YtjpcchipejmocaaSpec
import Derived.Maps.AppendAt
import Derived.OwnWalk
namespace Go.Proofs.Ytjpcchipejmocaa
set_option linter.unusedVariables false
set_option linter.unusedSimpArgs false
open Go.RowKit

section
variable {P : Program} {α : Type} {R : Rp α} {size : Nat}
/-- a slice value that owns the cells of a typed list -/
def OwnF (f : α → List Value) (size : Nat) (w : World) (base : Nat) (e : TypeId) (v : Value) (l : List α) : Prop := w.ownsRow base e size v l.length (l.flatMap f)

theorem flat_get {f : α → List Value} (hf : ∀ x, (f x).length = size) : ∀ (l : List α) (i : Nat) (hi : i < l.length) (j : Nat), j < size → (l.flatMap f)[i * size + j]? = (f l[i])[j]? := by
  intro l
  induction l with
  | nil => intro i hi; simp at hi
  | cons x l ih =>
    intro i hi j hj
    cases i with
    | zero => simp only [Nat.zero_mul, Nat.zero_add, List.flatMap_cons, List.getElem_cons_zero]; rw [List.getElem?_append_left (by rw [hf]; exact hj)]
    | succ i =>
      rw [List.flatMap_cons, List.getElem?_append_right (by rw [hf]; have := Nat.le_mul_of_pos_left size (show 0 < i + 1 by omega); omega), hf]
      have e : (i + 1) * size + j - size = i * size + j := by rw [Nat.succ_mul]; omega
      rw [e, ih i (by simpa using hi) j hj]
      rfl
theorem flat_len {f : α → List Value} (hf : ∀ x, (f x).length = size) (l : List α) : (l.flatMap f).length = l.length * size := by
  induction l with
  | nil => simp
  | cons x l ih => rw [List.flatMap_cons, List.length_append, ih, hf, List.length_cons, Nat.succ_mul]; omega

theorem OwnF.shape {f : α → List Value} {w : World} {base : Nat} {e : TypeId} {v : Value} {l : List α} (h : OwnF f size w base e v l) : ∃ A c, v = .slice A l.length c ∧ l.length ≤ c := by
  rcases h.2 with ⟨rfl, h0⟩ | ⟨g, cap, cur, rfl, _, _, hc, _⟩
  · exact ⟨none, 0, by rw [h0], by omega⟩
  · exact ⟨_, cap, rfl, hc⟩
theorem OwnF.slat {f : α → List Value} (hf : ∀ x, (f x).length = size) {w : World} {base : Nat} {e : TypeId} {A : Option Addr} {c : Nat} {l : List α} (h : OwnF f size w base e (.slice A l.length c) l) (hR : ∀ x ∈ l, R w (f x) x) :
    SlAt R size w A l := fun hl => by
  rcases h.2 with ⟨he, h0⟩ | ⟨g, cap, cur, he, hb, hh, hc, _, hcs, htake⟩
  · omega
  · simp only [Value.slice.injEq] at he
    obtain ⟨rfl, _, rfl⟩ := he
    refine ⟨g, 0, rfl, lt_of_block hh, fun i hi => ⟨f l[i], hf _, fun j u hj => ?_, hR _ (List.getElem_mem hi)⟩⟩
    have hj' : j < size := by rw [← hf l[i]]; exact (List.getElem?_eq_some_iff.1 hj).1
    have h1 := flat_get hf l i hi j hj'
    rw [hj] at h1
    rw [← htake] at h1
    have hlt : i * size + j < l.length * size := by
      have := Nat.mul_le_mul_right size (show i + 1 ≤ l.length by omega)
      rw [Nat.succ_mul] at this; omega
    rw [List.getElem?_take_of_lt hlt] at h1
    have hcell : w.cell? ⟨g, 0 + i * size + j, none⟩ = cur[i * size + j]? := by
      unfold World.cell?
      rw [hh]
      simp
    rw [hcell]
    simpa using h1
theorem ownF_nil (f : α → List Value) (w : World) (base : Nat) (e : TypeId) : OwnF f size w base e (.slice none 0 0) [] := World.ownsRow_nil _ _ _ _
theorem OwnF.alloc {f : α → List Value} {w : World} {base : Nat} {e : TypeId} {v : Value} {l : List α} (h : OwnF f size w base e v l) (o : Obj) : OwnF f size (w.alloc o) base e v l := World.ownsRow.alloc h o
/-- what a world that has only grown keeps -/
theorem OwnF.below {f : α → List Value} {w w' : World} {base : Nat} {e : TypeId} {v : Value} {l : List α} (h : OwnF f size w base e v l) (hb : Below w.heap.size w w') : OwnF f size w' base e v l := by
  refine ⟨h.1, ?_⟩
  rcases h.2 with h0 | ⟨g, cap, cur, hv, hg, hh, r⟩
  · exact Or.inl h0
  · exact Or.inr ⟨g, cap, cur, hv, hg, (hb.block g (lt_of_block hh)).trans hh, r⟩

/-- nothing is appended -/
theorem run_append_none (w : World) (t ty e : TypeId) (i : TypeInfo) (ht : P.underlying t = some (.slice e)) (hi : P.info? e = some i) (base size : Nat)
    (v : Value) (n : Nat) (xs : List Value) (hown : w.ownsRow base e size v n xs) (c : Nat) : (Builtin.append_ #[t, t] ty #[v, .slice none 0 c]).run P w = .ok v w := by
  rcases hown.2 with ⟨rfl, rfl⟩ | ⟨g, cap, cur, rfl, _, _, hnc, _⟩
  · simp [Builtin.append_, run_underlying ht, sizeOf, typeInfo, hi, Builtin.lenOf, Builtin.firstCells]
  · simp [Builtin.append_, run_underlying ht, sizeOf, typeInfo, hi, Builtin.lenOf, Builtin.firstCells, hnc, storeCells]

/-- append of a typed slice onto a typed row of the call's own -/
theorem wpList_append_f {f : α → List Value} (hf : ∀ x, (f x).length = size) (hcell : ∀ x, ∀ u ∈ f x, u.oneCell' = true)
    {ops : Array Oper} {rest : List Oper} {o : Oper} {a : Act} {Q : Exit → Act → World → Prop} {w : World} (hgd : o.guard = none) (s x : Operand) (t : TypeId)
    (ho : o.op = .call { callee := .builtin .append, args := #[s, x], argTypes := #[t, t] })
    (base : Nat) (e : TypeId) (i : TypeInfo) (z : Value) (bytes : Nat) (ht : P.underlying t = some (.slice e)) (hi : P.info? e = some i) (hz : i.zero = some z)
    (hsize : i.size = size) (hby : i.bytes = bytes) (hzs : z.cells.size = size) (hsz : 0 < size)
    (v : Value) (l : List α) (hs : a.eval s = v) (hown : OwnF f size w base e v l)
    (A : Option Addr) (c : Nat) (l₂ : List α) (hx : a.eval x = .slice A l₂.length c) (hr : SlAt (fun _ cs y => cs = f y) size w A l₂)
    (h63 : l.length + l₂.length ≤ maxLen) (hbytes : (l.length + l₂.length) * bytes ≤ 140737488355328) (hbase : base ≤ w.heap.size)
    (h : ∀ v' w', OwnF f size w' base e v' (l ++ l₂) → Below base w w' → wpList P ops Q rest (a.put o.dst v') w') : wpList P ops Q (o :: rest) a w := by
  have hbel : ∀ w', w.grownBy w' v.ownBlock → Below base w w' := fun w' hg =>
    (Below.refl base w).grown hg hbase fun k hk => by
      exact (hown.lt k hk).1
  have key : ∃ v' w', (Builtin.append_ #[t, t] o.type #[v, .slice A l₂.length c]).run P w = .ok v' w' ∧ w'.ownsRow base e size v' (l.length + l₂.length) (l.flatMap f ++ l₂.flatMap f) ∧ w.grownBy w' v.ownBlock := by
    rcases Nat.eq_zero_or_pos l₂.length with h0 | hpos
    · have hn : l₂ = [] := List.eq_nil_of_length_eq_zero h0
      subst hn
      rcases A with _ | ad
      · exact ⟨v, w, run_append_none w t o.type e i ht hi base size v _ _ hown c, by simpa [OwnF] using hown, World.grownBy.refl w _⟩
      · obtain ⟨v', w', hrun, h2, h3, _, _⟩ := run_append_own_at (P := P) w base t o.type e i z size bytes ht hi hz hsize hby hzs hsz v _ _ hown ad 0 c [] (by simp) (by simp) (by simp) h63 hbytes hbase
        exact ⟨v', w', hrun, by simpa using h2, h3⟩
    · obtain ⟨b, o', rfl, hlt, hc⟩ := hr hpos
      have hcells : ∀ j u, (l₂.flatMap f)[j]? = some u → w.cell? ((⟨b, o', none⟩ : Addr).add j) = some u := by
        intro j u hj
        have hjl : j < l₂.length * size := by rw [← flat_len hf l₂]; exact (List.getElem?_eq_some_iff.1 hj).1
        have hi' : j / size < l₂.length := (Nat.div_lt_iff_lt_mul hsz).2 hjl
        have hm : j % size < size := Nat.mod_lt _ hsz
        have hjj : j / size * size + j % size = j := by rw [Nat.mul_comm]; exact Nat.div_add_mod j size
        obtain ⟨cs, _, hcs, rfl⟩ := hc (j / size) hi'
        have h1 := flat_get hf l₂ (j / size) hi' (j % size) hm
        rw [hjj, hj] at h1
        have h2 := hcs (j % size) u h1.symm
        have e1 : (⟨b, o', none⟩ : Addr).add j = ⟨b, o' + j / size * size + j % size, none⟩ := by
          rw [Nat.add_assoc, hjj]
          unfold Addr.add; split
          · simp [*]
          · rfl
        rw [e1]; exact h2
      obtain ⟨v', w', hrun, h2, h3, _, _⟩ := run_append_own_at (P := P) w base t o.type e i z size bytes ht hi hz hsize hby hzs hsz v _ _ hown ⟨b, o', none⟩ l₂.length c (l₂.flatMap f) (flat_len hf l₂) hcells
        (fun u hu => by obtain ⟨x, _, hx⟩ := List.mem_flatMap.1 hu; exact hcell x u hx) h63 hbytes hbase
      exact ⟨v', w', hrun, h2, h3⟩
  obtain ⟨v', w', hrun, h2, h3⟩ := key
  refine wpList_plain hgd fun K hK => ?_
  unfold Oper.wp execOp
  simp only [ho, resolve, invoke, builtin, Sem.run_bind, Sem.run_pure, Result.andThen_ok, List.map_toArray, List.map_cons, List.map_nil, hs, hx, hrun]
  refine hK _ _ (h v' w' ?_ (hbel w' h3))
  unfold OwnF
  rw [List.length_append, List.flatMap_append]
  exact h2
end
end Go.Proofs.Ytjpcchipejmocaa
