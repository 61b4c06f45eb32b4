/-
  Shades: the operations that make memory or write to what the call made.
-/
import Derived.Test.YtjpcchipejmocaaShade1
import Derived.Great.BuildSlice
namespace Go.Proofs.Ytjpcchipejmocaa
set_option linter.unusedVariables false
set_option linter.unusedSimpArgs false
open Go.RowKit

def upd (γ : Nat → Value) (d : Nat) (g : Value) (i : Nat) : Value := if i = d then g else γ i
theorem RelS.live {ok : Nat → Prop} {H : Nat → Option Value} {w : World} {s : SV} {u : Value} {d : Nat} (hd : H d = none) (h : RelS ok H w s u) : s.noRef d = true := by
  have all : ∀ {cs : List SV} {us : List Value}, us.length = cs.length → (∀ (i : Nat) (s : SV) (u : Value), cs[i]? = some s → us[i]? = some u → s.noRef d = true) → noRefs d cs = true := by
    intro cs
    induction cs with
    | nil => intro us _ _; rfl
    | cons c cs ih =>
      intro us hl h
      cases us with
      | nil => simp at hl
      | cons u us =>
        simp only [noRefs, Bool.and_eq_true]
        exact ⟨h 0 c u rfl rfl, ih (by simpa using hl) fun i s u a b => h (i + 1) s u (by simpa using a) (by simpa using b)⟩
  induction h with
  | p h => rfl
  | agg hl h ih => exact all hl ih
  | tup hl h ih => exact all hl ih
  | fn hl h ih => exact all hl ih
  | junk => rfl
  | @row i u h =>
    have : i ≠ d := fun e => by subst e; rw [hd] at h; cases h
    simp [SV.noRef, beq_no this]
  | @ptr i off b g h hb =>
    have : i ≠ d := fun e => by subst e; rw [hd] at h; cases h
    simp [SV.noRef, beq_no this]
  | @eptr i z idx off b g h hb =>
    have : i ≠ d := fun e => by subst e; rw [hd] at h; cases h
    simp [SV.noRef, beq_no this]
  | @view i z lo hi n c A A' h =>
    have : i ≠ d := fun e => by subst e; rw [hd] at h; cases h
    simp [SV.noRef, beq_no this]
/-- a world that has grown; what is kept of a reading -/
theorem RelS.keep2 {ok ok' : Nat → Prop} {H H' : Nat → Option Value} {w w' : World} (hsz : w.heap.size ≤ w'.heap.size) (hk : ∀ b, b < w.heap.size → ok b → w'.heap[b]? = w.heap[b]? ∧ ok' b) {s : SV} {u : Value}
    (h : RelS ok H w s u) (hH : ∀ i, s.noRef i = false → H' i = H i) : RelS ok' H' w' s u := by
  have h1 : RelS (fun b => ok b ∧ b < w.heap.size) H w s u := by
    have all : ∀ {x : PV} {u : Value}, RelP ok w x u → RelP (fun b => ok b ∧ b < w.heap.size) w x u := fun h => h.weak fun b hb hok => ⟨hok, hb⟩
    clear hH hk
    induction h with
    | p h => exact .p (all h)
    | agg hl h ih => exact .agg hl ih
    | tup hl h ih => exact .tup hl ih
    | fn hl h ih => exact .fn hl ih
    | junk => exact .junk
    | row h => exact .row h
    | ptr h hb => exact .ptr h hb
    | eptr h hb => exact .eptr h hb
    | view h h1 h2 h3 h4 => exact .view h h1 h2 h3 h4
  exact h1.keep ⟨hsz, fun b hb hok => (hk b hb hok.1).1⟩ (fun b _ hok => (hk b hok.2 hok.1).2) hH
theorem RelP.keep2 {ok ok' : Nat → Prop} {w w' : World} (hsz : w.heap.size ≤ w'.heap.size) (hk : ∀ b, b < w.heap.size → ok b → w'.heap[b]? = w.heap[b]? ∧ ok' b) {s : PV} {u : Value} (h : RelP ok w s u) : RelP ok' w' s u :=
  ((h.weak (ok' := fun b => ok b ∧ b < w.heap.size) fun b hb hok => ⟨hok, hb⟩).keep ⟨hsz, fun b hb hok => (hk b hb hok.1).1⟩).weak fun b _ hok => (hk b hok.2 hok.1).2

section
variable {B : Base} {Sx : Nat → Prop} {γ : Nat → Value} {own : List (Nat × Box)} {w w' : World}
theorem RowO.keep2 {R : RF (List PV)} (hR : Good R) {size : Nat} {ok ok' : Nat → Prop} {base : Nat} {e : TypeId} {v : Value} {l : List (List PV)} (h : RowO R size ok w base e v l) (hsz : w.heap.size ≤ w'.heap.size)
    (hv : ∀ b, v.ownBlock = some b → w'.heap[b]? = w.heap[b]?) (hk : ∀ b, b < w.heap.size → ok b → some b ≠ v.ownBlock → w'.heap[b]? = w.heap[b]? ∧ ok' b) : RowO R size ok' w' base e v l := by
  obtain ⟨css, h1, h2, h3⟩ := h
  refine ⟨css, ⟨h1.1, ?_⟩, h2, fun i a b => ?_⟩
  · rcases h1.2 with h | ⟨g, cap, cur, hv', hb, hg, r⟩
    · exact Or.inl h
    · refine Or.inr ⟨g, cap, cur, hv', hb, ?_, r⟩
      rw [hv g (by rw [hv']; rfl)]; exact hg
  · have h4 := hR.weak _ (fun b => okR ok v b ∧ b < w.heap.size) _ _ _ (fun b hb hok => ⟨hok, hb⟩) (h3 i a b)
    have h5 := hR.keep _ w w' _ _ ⟨hsz, fun b hb hok => (hk b hb hok.1.1 hok.1.2).1⟩ h4
    exact hR.weak _ _ _ _ _ (fun b _ hok => ⟨(hk b hok.2 hok.1.1 hok.1.2).2, hok.1.2⟩) h5
/-- the number d and what it stands for are new -/
theorem HeapOk.add (h : HeapOk B Sx γ own w) (hw : Below w.heap.size w w') {d : Nat} {g : Value} {bx : Box} (hd : lk d own = none) (hdl : d < 1000000) (hg : ∀ b, blkOf g = some b → w.heap.size ≤ b)
    (hbx : BoxOk B Sx (upd γ d g) ((d, bx) :: own) w' d bx) : HeapOk B Sx (upd γ d g) ((d, bx) :: own) w' ∧ (∀ b, b < w.heap.size → okO Sx γ own b → okO Sx (upd γ d g) ((d, bx) :: own) b) ∧
      (∀ i, i ≠ d → hp (upd γ d g) ((d, bx) :: own) i = hp γ own i) ∧ (∀ K b, b < w.heap.size → vis K γ own b → vis K (upd γ d g) ((d, bx) :: own) b) := by
  have lkc : ∀ i, lk i ((d, bx) :: own) = if i = d then some bx else lk i own := fun i => lk_cons i d bx own
  have hu : ∀ i, i ≠ d → upd γ d g i = γ i := fun i hi => if_neg hi
  have hud : upd γ d g d = g := if_pos rfl
  have okn : ∀ b, b < w.heap.size → okO Sx γ own b → okO Sx (upd γ d g) ((d, bx) :: own) b := fun b hb hok => ⟨hok.1, fun i by_ hi hbi => by
    rw [lkc] at hi
    by_cases e : i = d
    · subst e; rw [hud] at hbi; have := hg b hbi; omega
    · rw [if_neg e] at hi; rw [hu i e] at hbi; exact hok.2 i by_ hi hbi⟩
  have hpn : ∀ i, i ≠ d → hp (upd γ d g) ((d, bx) :: own) i = hp γ own i := fun i hi => by unfold hp; rw [lkc, if_neg hi, hu i hi]
  have hst : Stays B Sx (upd γ d g) ((d, bx) :: own) w' := h.sx.keep hw.size fun i by_ hi => by
    rw [lkc] at hi
    by_cases e : i = d
    · exact Or.inl (by omega)
    · rw [if_neg e] at hi; exact Or.inr ⟨hu i e, by rw [hi]; rfl⟩
  refine ⟨⟨fun i by_ hi => ?_, fun i j bi bj b hi hj hbi hbj => ?_, hst⟩, okn, hpn, fun K b hb hv i by_ hi hK hbi => ?_⟩
  · rw [lkc] at hi
    by_cases e : i = d
    · subst e; rw [if_pos rfl] at hi; cases hi; exact hbx
    · rw [if_neg e] at hi
      cases h.box i by_ hi with
      | @row e' esz l hr he hm hk =>
        refine .row ?_ he hm (by rw [hu i e]; exact hk)
        rw [hu i e]
        have hblk : ∀ b, (γ i).ownBlock = some b → b < w.heap.size := fun b hb => by
          obtain ⟨css, h1, _⟩ := hr
          exact (h1.lt b hb).2
        refine hr.keep2 good_PV hw.size (fun b hb => hw.block b (hblk b hb)) fun b hb hok hne => ⟨hw.block b hb, hok.1, fun j by2 hj hji hbj => ?_⟩
        rw [lkc] at hj
        by_cases ej : j = d
        · subst ej; rw [hud] at hbj; have := hg b hbj; omega
        · rw [if_neg ej] at hj; rw [hu j ej] at hbj; exact hok.2 j by2 hj hji hbj
      | @cells cs us ty b hgi hB hh hl hr h1 =>
        refine .cells (by rw [hu i e]; exact hgi) hB (by rw [hw.block b (lt_of_block hh)]; exact hh) hl (fun j s u hs hu' => ?_) h1
        have := hr j s u hs hu'
        refine this.keep2 hw.size (fun b hb hok => ⟨hw.block b hb, okn b hb hok⟩) fun k hk => hpn k fun ek => ?_
        subst ek
        rw [this.live (hp_none hd)] at hk; cases hk
      | @mp es ens clock b hgi hB hh hl hr =>
        refine .mp (by rw [hu i e]; exact hgi) hB (by rw [hw.block b (lt_of_block hh)]; exact hh) hl fun j x en hs hu' => ?_
        obtain ⟨q1, q2⟩ := hr j x en hs hu'
        exact ⟨q1, q2.keep2 hw.size fun b hb hok => ⟨hw.block b hb, okn b hb hok⟩⟩
  · rw [lkc] at hi hj
    by_cases e : i = d
    · by_cases e2 : j = d
      · rw [e, e2]
      · subst e; rw [if_neg e2] at hj; rw [hud] at hbi; rw [hu j e2] at hbj
        have := hg b hbi; have := (h.blk hj hbj).2; omega
    · rw [if_neg e] at hi
      rw [hu i e] at hbi
      by_cases e2 : j = d
      · subst e2; rw [hud] at hbj
        have := hg b hbj; have := (h.blk hi hbi).2; omega
      · rw [if_neg e2] at hj; rw [hu j e2] at hbj; exact h.inj i j _ _ b hi hj hbi hbj
  · rw [lkc] at hi
    by_cases e : i = d
    · subst e; rw [hud] at hbi; have := hg b hbi; omega
    · rw [if_neg e] at hi; rw [hu i e] at hbi; exact hv i by_ hi hK hbi
end

def St.put (st : St) (dst : Option Tmp) (s : SV) : St := match dst with
  | some d => { st with fr := (d, s) :: st.fr }
  | none => st
def dstOk (st : St) (dst : Option Tmp) : Bool := match dst with
  | some d => Nat.blt d st.n
  | none => true
theorem Sim.put {w0 : Base} {Sx : Nat → Prop} {γ : Nat → Value} {st : St} {a : Act} {w : World} (hI : Sim w0 Sx γ st a w) {dst : Option Tmp} {s : SV} {v : Value} (hd : dstOk st dst = true) (h : RelS (okO Sx γ st.own) (hp γ st.own) w s v) :
    Sim w0 Sx γ (st.put dst s) (a.put dst v) w := by
  cases dst with
  | none => exact hI
  | some d =>
    have hlt : d < st.n := by simpa [dstOk, Nat.blt, Nat.lt_iff_add_one_le] using hd
    refine ⟨hI.below, ⟨by rw [put_size]; exact hI.size.1, hI.size.2⟩, by rw [put_defers]; exact hI.defers, fun t s' ht => ?_, hI.heap⟩
    have ht' : (if t = d then some s else lk t st.fr) = some s' := by rw [← lk_cons]; exact ht
    rw [put_getD]
    by_cases e : t = d
    · subst e
      rw [if_pos rfl] at ht'
      cases ht'
      rw [if_pos ⟨rfl, by rw [hI.size.1]; exact hlt⟩]
      exact h
    · rw [if_neg e] at ht'
      rw [if_neg (fun h => e h.1.symm)]
      exact hI.fr t s' ht'

/-- append onto a row of the call's own, as a run -/
theorem run_append_row {P : Program} {α : Type} {R : RF α} {size : Nat} (hR : Good R) {ok : Nat → Prop} {w : World} (t : TypeId) (ty : TypeId)
    (base : Nat) (e : TypeId) (i : TypeInfo) (z : Value) (bytes : Nat) (ht : P.underlying t = some (.slice e)) (hi : P.info? e = some i) (hz : i.zero = some z)
    (hsize : i.size = size) (hby : i.bytes = bytes) (hzs : z.cells.size = size) (hsz : 0 < size)
    (v : Value) (l : List α) (hown : RowO R size ok w base e v l)
    (A : Option Addr) (c : Nat) (l₂ : List α) (hr : SlAt (fun w cs y => (∀ u ∈ cs, u.oneCell' = true) ∧ R (okR ok v) w cs y) size w A l₂)
    (h63 : l.length + l₂.length ≤ maxLen) (hbytes : (l.length + l₂.length) * bytes ≤ 140737488355328) (hbase : base ≤ w.heap.size) (hokn : ok w.heap.size) :
    ∃ v' w', (Builtin.append_ #[t, t] ty #[v, .slice A l₂.length c]).run P w = .ok v' w' ∧ RowO R size ok w' base e v' (l ++ l₂) ∧ w.grownBy w' v.ownBlock ∧ (v'.ownBlock = v.ownBlock ∨ v'.ownBlock = some w.heap.size) := by
  obtain ⟨css, h1, h2, h3⟩ := hown
  -- the new elements' cells
  have hex : ∀ j : Nat, ∃ cs : Cel size, ∀ hj : j < l₂.length, R (okR ok v) w cs.val l₂[j] ∧ ∀ b o', A = some ⟨b, o', none⟩ → CellsAt w b (o' + j * size) cs.val := by
    intro j
    by_cases hj : j < l₂.length
    · obtain ⟨b, o', hA, _, hc⟩ := hr (by omega)
      obtain ⟨cs, a1, a2, a3, a4⟩ := hc j hj
      refine ⟨⟨cs, a1, a3⟩, fun _ => ⟨a4, fun b2 o2 hA2 => ?_⟩⟩
      have := hA.symm.trans hA2
      simp only [Option.some.injEq, Addr.mk.injEq] at this
      obtain ⟨rfl, rfl, _⟩ := this
      exact a2
    · exact ⟨⟨List.replicate size .nilIface, by simp, fun u hu => by rw [List.eq_of_mem_replicate hu]; rfl⟩, fun h => absurd h hj⟩
  obtain ⟨f, hf⟩ := Classical.axiomOfChoice hex
  let css₂ : List (Cel size) := (List.range l₂.length).map f
  have hlen2 : css₂.length = l₂.length := by simp [css₂]
  have hget : ∀ j (h : j < css₂.length), css₂[j] = f j := fun j h => by simp [css₂]
  have hraw : SlAt (fun _ cs (y : Cel size) => cs = y.val) size w A css₂ := fun hl => by
    obtain ⟨b, o', hA, hlt, _⟩ := hr (by omega)
    refine ⟨b, o', hA, hlt, fun j hj => ⟨_, (f j).2.1, ((hf j) (by omega)).2 b o' hA, by rw [hget]⟩⟩
  have key : ∃ v' w', (Builtin.append_ #[t, t] ty #[v, .slice A css₂.length c]).run P w = .ok v' w' ∧ OwnF Subtype.val size w' base e v' (css ++ css₂) ∧ w.grownBy w' v.ownBlock ∧ (v'.ownBlock = v.ownBlock ∨ v'.ownBlock = some w.heap.size) := by
    rcases Nat.eq_zero_or_pos css₂.length with h0 | hpos
    · have hn : css₂ = [] := List.eq_nil_of_length_eq_zero h0
      rw [hn]
      rcases A with _ | ad
      · exact ⟨v, w, run_append_none w t ty e i ht hi base size v _ _ h1 c, by simpa [OwnF] using h1, World.grownBy.refl w _, Or.inl rfl⟩
      · obtain ⟨v', w', hrun, g2, g3, _, g5⟩ := run_append_own_at (P := P) w base t ty e i z size bytes ht hi hz hsize hby hzs hsz v _ _ h1 ad 0 c [] (by simp) (by simp) (by simp) (by omega) (by rw [h2]; exact Nat.le_trans (Nat.mul_le_mul_right _ (by omega)) hbytes) hbase
        exact ⟨v', w', hrun, by simpa [OwnF] using g2, g3, g5⟩
    · obtain ⟨b, o', rfl, hlt, hc⟩ := hraw hpos
      have hcells : ∀ j u, (css₂.flatMap Subtype.val)[j]? = some u → w.cell? ((⟨b, o', none⟩ : Addr).add j) = some u := by
        intro j u hj
        have hjl : j < css₂.length * size := by rw [← flat_len (fun x : Cel size => x.2.1) css₂]; exact (List.getElem?_eq_some_iff.1 hj).1
        have hi' : j / size < css₂.length := (Nat.div_lt_iff_lt_mul hsz).2 hjl
        have hm : j % size < size := Nat.mod_lt _ hsz
        have hjj : j / size * size + j % size = j := by rw [Nat.mul_comm]; exact Nat.div_add_mod j size
        obtain ⟨cs, _, hcs, rfl⟩ := hc (j / size) hi'
        have g1 := flat_get (fun x : Cel size => x.2.1) css₂ (j / size) hi' (j % size) hm
        rw [hjj, hj] at g1
        have g2 := hcs (j % size) u g1.symm
        have e1 : (⟨b, o', none⟩ : Addr).add j = ⟨b, o' + j / size * size + j % size, none⟩ := by
          rw [Nat.add_assoc, hjj]
          unfold Addr.add; split
          · simp [*]
          · rfl
        rw [e1]; exact g2
      obtain ⟨v', w', hrun, g2, g3, _, g5⟩ := run_append_own_at (P := P) w base t ty e i z size bytes ht hi hz hsize hby hzs hsz v _ _ h1 ⟨b, o', none⟩ css₂.length c (css₂.flatMap Subtype.val) (flat_len (fun x : Cel size => x.2.1) css₂) hcells
        (fun u hu => by obtain ⟨x, _, hx⟩ := List.mem_flatMap.1 hu; exact x.2.2 u hx) (by omega) (by rw [h2, hlen2]; exact hbytes) hbase
      refine ⟨v', w', hrun, ?_, g3, g5⟩
      unfold OwnF
      rw [List.length_append, List.flatMap_append]
      exact g2
  obtain ⟨v', w', hrun, g2, g3, g5⟩ := key
  rw [hlen2] at hrun
  have hlt : ∀ b, b < w.heap.size → okR ok v b → okR ok v b ∧ okR ok v' b := fun b hb hk => ⟨hk, hk.1, by
    rcases g5 with g | g
    · rw [g]; exact hk.2
    · rw [g]; intro he; simp only [Option.some.injEq] at he; omega⟩
  have hsame : SameOn (fun b => okR ok v b ∧ okR ok v' b) w w' := ⟨g3.size, fun b hb hk => g3.block b hb hk.1.2⟩
  have fin : ∀ cs x, R (okR ok v) w cs x → R (okR ok v') w' cs x := fun cs x hx => hR.weak _ _ _ _ _ (fun _ _ h => h.2) (hR.keep _ _ _ _ _ hsame (hR.weak _ _ _ _ _ hlt hx))
  refine ⟨v', w', hrun, ⟨css ++ css₂, g2, by rw [List.length_append, List.length_append, h2, hlen2], fun j a1 a2 => ?_⟩, g3, g5⟩
  by_cases hj : j < css.length
  · rw [List.getElem_append_left hj, List.getElem_append_left (by omega)]
    exact fin _ _ (h3 j hj (by omega))
  · have hj2 : j - css.length < l₂.length := by rw [List.length_append] at a2; omega
    rw [List.getElem_append_right (by omega), List.getElem_append_right (by omega), hget]
    have := ((hf (j - css.length)) hj2).1
    simp only [h2] at this ⊢
    exact fin _ _ this

def ActOk (P : Program) (Ws : List Nat) (o : Oper) (st : St) (Q : St → Prop) : Prop := ∀ (w0 : Base) (Sx : Nat → Prop) (γ : Nat → Value) (a : Act) (w : World) (QQ : Exit → Act → World → Prop), Sim w0 Sx γ st a w →
  o.wp P a w (fun a' w' => ∃ γ' st', Q st' ∧ Sim w0 Sx γ' st' a' w' ∧ SameOn (vis Ws γ st.own) w w' ∧ ∀ K : List Nat, (∀ i ∈ Ws, i ∈ K) → ∀ b, b < w.heap.size → vis K γ st.own b → vis K γ' st'.own b) QQ

/-- a new box in the frame -/
theorem Sim.addBox {w0 : Base} {Sx : Nat → Prop} {γ : Nat → Value} {st : St} {a : Act} {w w' : World} (hI : Sim w0 Sx γ st a w) (hw : Below w.heap.size w w') {d : Nat} {g : Value} {bx : Box} (hd : lk d st.own = none) (hn : Nat.blt d st.n = true)
    (hg : ∀ b, blkOf g = some b → w.heap.size ≤ b) (hbx : BoxOk w0 Sx (upd γ d g) ((d, bx) :: st.own) w' d bx) {s : SV} {v : Value}
    (hs : RelS (okO Sx (upd γ d g) ((d, bx) :: st.own)) (hp (upd γ d g) ((d, bx) :: st.own)) w' s v) :
    Sim w0 Sx (upd γ d g) ⟨st.n, (d, s) :: st.fr, (d, bx) :: st.own⟩ (a.put (some d) v) w' ∧ SameOn (vis [] γ st.own) w w' ∧ ∀ K : List Nat, (∀ i ∈ ([] : List Nat), i ∈ K) → ∀ b, b < w.heap.size → vis K γ st.own b → vis K (upd γ d g) ((d, bx) :: st.own) b := by
  have hdl : d < 1000000 := by have h5 := hI.size.2; have h6 : d < st.n := (by simpa [Nat.blt, Nat.lt_iff_add_one_le] using hn); omega
  obtain ⟨h1, h2, h3, h4⟩ := hI.heap.add hw hd hdl hg hbx
  have hI' : Sim w0 Sx (upd γ d g) ⟨st.n, st.fr, (d, bx) :: st.own⟩ a w' := by
    refine ⟨hI.below.grow hI.heap.sx hw, hI.size, hI.defers, fun t s' ht => ?_, h1⟩
    have hr := hI.fr t s' ht
    refine hr.keep2 hw.size (fun b hb hok => ⟨hw.block b hb, h2 b hb hok⟩) fun i hi => h3 i fun e => ?_
    subst e
    rw [hr.live (hp_none hd)] at hi; cases hi
  exact ⟨hI'.put (dst := some d) hn hs, ⟨hw.size, fun b hb _ => hw.block b hb⟩, fun K _ b hb hv => h4 K b hb hv⟩

section
variable {P : Program} {T : TT} (hT : TypesOk P T) {st : St}
/-- a box -/
theorem act_new {w0 : Base} {Sx : Nat → Prop} {γ : Nat → Value} {a : Act} {w : World} (hI : Sim w0 Sx γ st a w) {d : Nat} (hd : lk d st.own = none) (hn : Nat.blt d st.n = true) {cs : List SV} {us : List Value} {ty : TypeId} (hl : us.length = cs.length)
    (hr : ∀ (i : Nat) (s : SV) (v : Value), cs[i]? = some s → us[i]? = some v → RelS (okO Sx γ st.own) (hp γ st.own) w s v) (h1 : cs.all oneS = true) :
    ∃ γ', Sim w0 Sx γ' ⟨st.n, (d, .ptr d 0) :: st.fr, (d, .cells cs) :: st.own⟩ (a.put (some d) (.pointer (some ⟨w.heap.size, 0, none⟩))) (w.alloc (.cells us.toArray ty)) ∧ SameOn (vis [] γ st.own) w (w.alloc (.cells us.toArray ty)) ∧
      ∀ K : List Nat, (∀ i ∈ ([] : List Nat), i ∈ K) → ∀ b, b < w.heap.size → vis K γ st.own b → vis K γ' ((d, .cells cs) :: st.own) b := by
  have hw : Below w.heap.size w (w.alloc (.cells us.toArray ty)) := (Below.refl _ w).alloc (Nat.le_refl _) _
  refine ⟨upd γ d (.pointer (some ⟨w.heap.size, 0, none⟩)), hI.addBox hw hd hn (fun b hb => by simp only [blkOf, Option.some.injEq] at hb; omega) ?_ ?_⟩
  · refine .cells (us := us) (ty := ty) (b := w.heap.size) (if_pos rfl) (fun hk => by have := hI.heap.sx.lt _ hk; omega) (heap_alloc_new w _) hl (fun j s u hs hu => ?_) fun u hu => ?_
    · have h2 := hr j s u hs hu
      refine h2.keep2 hw.size (fun b hb hok => ⟨hw.block b hb, hok.1, fun i by_ hi hbi => ?_⟩) fun i hi => ?_
      · have e : i ≠ d := fun e => by subst e; rw [h2.live (hp_none hd)] at hi; cases hi
        unfold hp; rw [lk_cons, if_neg e]; simp only [upd, if_neg e]
      · rw [lk_cons] at hi
        by_cases e : i = d
        · subst e; simp only [upd, if_true, blkOf, Option.some.injEq] at hbi; omega
        · rw [if_neg e] at hi; simp only [upd, if_neg e] at hbi; exact hok.2 i by_ hi hbi
    · obtain ⟨j, hj, rfl⟩ := List.mem_iff_getElem.1 hu
      exact (hr j cs[j] us[j] (List.getElem?_eq_getElem (by omega)) (List.getElem?_eq_getElem hj)).one hI.heap.one (List.all_eq_true.1 h1 _ (List.getElem_mem _))
  · exact .ptr (g := .pointer (some ⟨w.heap.size, 0, none⟩)) (by unfold hp; rw [lk_cons, if_pos rfl]; simp [upd]) rfl
theorem act_box {o : Oper} {e : TypeId} {x : Operand} (ho : o.op = .box e x) {d : Nat} (hdst : o.dst = some d) {s : SV} (hx : evS st x = some s) {cs : List SV} (hc : cellsOf s = some cs) (h1 : cs.all oneS = true) (hd : lk d st.own = none) (hn : Nat.blt d st.n = true)
    {Q : St → Prop} (h : Q ⟨st.n, (d, .ptr d 0) :: st.fr, (d, .cells cs) :: st.own⟩) : ActOk P [] o st Q := by
  intro w0 Sx γ a w QQ hI
  obtain ⟨hl, hr⟩ := cellsOf_ok hI.heap.one (evS_ok hI hx) hc
  obtain ⟨γ', g1, g2, g3⟩ := act_new hI hd hn (us := (a.eval x).cells.toList) (ty := e) hl hr h1
  unfold Oper.wp
  have : (execOp a.eval o).run P w = .ok (.value (.pointer (some ⟨w.heap.size, 0, none⟩))) (w.alloc (.cells (a.eval x).cells e)) := by
    simp [execOp, ho, Instr.box, newVar, newRow]
  rw [this, Oper.upon_value, hdst]
  simp only [Array.toArray_toList] at g1 g2
  exact ⟨γ', _, h, g1, g2, g3⟩
include hT in
theorem act_alloc {o : Oper} {e : TypeId} (ho : o.op = .alloc e) {d : Nat} (hdst : o.dst = some d) {i : TyI} (hi : lk e T = some i) (hz : i.zero.all plain = true) (hd : lk d st.own = none) (hn : Nat.blt d st.n = true)
    {Q : St → Prop} (h : Q ⟨st.n, (d, .ptr d 0) :: st.fr, (d, .cells (i.zero.map fun z => .p (.v z))) :: st.own⟩) : ActOk P [] o st Q := by
  intro w0 Sx γ a w QQ hI
  obtain ⟨info, zv, hinf, _, _, hzv, hzc⟩ := (hT e i hi).info
  obtain ⟨γ', g1, g2, g3⟩ := act_new hI hd hn (cs := i.zero.map fun z => .p (.v z)) (us := i.zero) (ty := e) (by simp) (fun j s v hs hv => by
    rw [List.getElem?_map, hv] at hs
    cases hs
    exact .p (.v (List.all_eq_true.1 hz v (List.mem_of_getElem? hv)))) (List.all_eq_true.2 fun s hs => by obtain ⟨z, _, rfl⟩ := List.mem_map.1 hs; rfl)
  unfold Oper.wp
  have : (execOp a.eval o).run P w = .ok (.value (.pointer (some ⟨w.heap.size, 0, none⟩))) (w.alloc (.cells i.zero.toArray e)) := by
    simp [execOp, ho, Instr.alloc, newVar, newRow, zeroValue, typeInfo, hinf, hzv, ← hzc]
  rw [this, Oper.upon_value, hdst]
  exact ⟨γ', _, h, g1, g2, g3⟩
end

def cellsP : SV → Option (List PV)
  | .p (.agg ps) => some ps
  | .p x => some [x]
  | _ => none
theorem cellsP_ok {ok : Nat → Prop} {H : Nat → Option Value} {w : World} {s : SV} {u : Value} (h : RelS ok H w s u) {ps : List PV} (hc : cellsP s = some ps) (h1 : ps.all oneP = true) : rPV ok w u.cells.toList ps ∧ ∀ v ∈ u.cells.toList, v.oneCell' = true := by
  have key : rPV ok w u.cells.toList ps := by
    have lone : ∀ {x : PV}, RelP ok w x u → oneP x = true → some [x] = some ps → rPV ok w u.cells.toList ps := by
      intro x h h1' hc
      cases hc
      have h2 : u.oneCell' = true := by rw [h.one]; exact h1'
      have : u.cells = #[u] := by cases u <;> first | rfl | cases h2
      rw [this]
      refine ⟨rfl, fun i s v a b => ?_⟩
      cases i with
      | zero => simp at a b; subst a; subst b; exact h
      | succ i => simp at a
    cases h with
    | @p x u h =>
      cases x with
      | agg ps' =>
        simp only [cellsP, Option.some.injEq] at hc
        subst hc
        cases h with
        | @agg _ us hl h => exact ⟨by simpa [Value.cells] using hl, by simpa [Value.cells] using h⟩
      | v x => exact lone h rfl hc
      | sl _ _ => exact lone h rfl hc
      | rp _ => exact lone h rfl hc
      | fn _ _ => exact lone h rfl hc
    | _ => cases hc
  refine ⟨key, fun v hv => ?_⟩
  obtain ⟨j, hj, rfl⟩ := List.mem_iff_getElem.1 hv
  have hj' : j < ps.length := by rw [← key.1]; exact hj
  rw [(key.2 j ps[j] _ (List.getElem?_eq_getElem hj') (List.getElem?_eq_getElem hj)).one]
  exact List.all_eq_true.1 h1 _ (List.getElem_mem _)

def seqParts : Nat → List (Nat × Operand) → Option (List Operand)
  | _, [] => some []
  | k, (i, x) :: r => bif Nat.beq i k then (match seqParts (k + 1) r with | some l => some (x :: l) | none => none) else none
theorem seqParts_ok {a : Act} : ∀ {k : Nat} {ps : List (Nat × Operand)} {xs : List Operand}, seqParts k ps = some xs → (ps.map fun (i, x) => (i, a.eval x)) = ((xs.map a.eval).zipIdx k).map fun x => (x.2, x.1)
  | k, [], xs, h => by simp only [seqParts, Option.some.injEq] at h; subst h; rfl
  | k, (i, x) :: r, xs, h => by
    unfold seqParts at h
    cases hb : Nat.beq i k with
    | false => rw [hb] at h; cases h
    | true =>
      rw [hb] at h
      simp only [cond_true] at h
      split at h
      · rename_i l hl
        simp only [Option.some.injEq] at h
        subst h
        have := seqParts_ok (a := a) hl
        have e : i = k := Nat.eq_of_beq_eq_true hb
        subst e
        simp only [List.map_cons, List.zipIdx_cons]
        rw [this]
      · cases h
def bElems (st : St) (size : Nat) : List Operand → Option (List (List PV))
  | [] => some []
  | x :: r => match evS st x with
    | some s => match cellsP s with
      | some ps => bif Nat.beq ps.length size && ps.all oneP then (match bElems st size r with | some l => some (ps :: l) | none => none) else none
      | none => none
    | none => none
theorem bElems_ok {w0 : Base} {Sx : Nat → Prop} {γ : Nat → Value} {st : St} {a : Act} {w : World} (hI : Sim w0 Sx γ st a w) {size : Nat} : ∀ {xs : List Operand} {l : List (List PV)}, bElems st size xs = some l →
    l.length = xs.length ∧ (∀ e ∈ l, e.length = size ∧ ∀ s ∈ e, oneP s = true) ∧ ∃ css : List (Cel size), css.length = l.length ∧ (∀ (i : Nat) (h : i < css.length) (h2 : i < xs.length), css[i].val = (a.eval xs[i]).cells.toList) ∧
      ∀ (i : Nat) (h : i < css.length) (h2 : i < l.length), rPV (okO Sx γ st.own) w css[i].val l[i]
  | [], l, h => by simp only [bElems, Option.some.injEq] at h; subst h; exact ⟨rfl, by simp, [], rfl, fun i h => absurd h (by simp), fun i h => absurd h (by simp)⟩
  | x :: r, l, h => by
    unfold bElems at h
    split at h
    · rename_i s hs
      split at h
      · rename_i ps hps
        cases hb : (Nat.beq ps.length size && ps.all oneP) with
        | false => rw [hb] at h; cases h
        | true =>
          rw [hb] at h
          simp only [cond_true] at h
          simp only [Bool.and_eq_true] at hb
          have hsz : ps.length = size := Nat.eq_of_beq_eq_true hb.1
          split at h
          · rename_i l' hl'
            simp only [Option.some.injEq] at h
            subst h
            obtain ⟨i1, i2, css, i3, i4, i5⟩ := bElems_ok hI hl'
            obtain ⟨c1, c2⟩ := cellsP_ok (evS_ok hI hs) hps hb.2
            refine ⟨by simp [i1], ?_, ⟨(a.eval x).cells.toList, by rw [c1.1, hsz], c2⟩ :: css, by simp [i3], fun i h h2 => ?_, fun i h h2 => ?_⟩
            · refine List.forall_mem_cons.2 ⟨⟨hsz, fun s hs => List.all_eq_true.1 hb.2 s hs⟩, i2⟩
            · cases i with
              | zero => rfl
              | succ i => exact i4 i (by simpa using h) (by simpa using h2)
            · cases i with
              | zero => exact c1
              | succ i => exact i5 i (by simpa using h) (by simpa using h2)
          · cases h
      · cases h
    · cases h

section
variable {P : Program} {T : TT} (hT : TypesOk P T) {st : St}
include hT
theorem act_buildSlice {o : Oper} {t e : TypeId} {len : Nat} {parts : Array (Nat × Operand)} (ho : o.op = .buildSlice t len parts) {d : Nat} (hdst : o.dst = some d) {ti ei : TyI} (ht : lk t T = some ti) (hte : ti.d = .sl e) (he : lk e T = some ei)
    (hsz : Nat.blt 0 ei.size = true) (hsmall : Nat.ble (len * ei.size) 16777216 = true) {xs : List Operand} (hxs : seqParts 0 parts.toList = some xs) (hlen : Nat.beq xs.length len = true) {l : List (List PV)} (hl : bElems st ei.size xs = some l)
    (hd : lk d st.own = none) (hn : Nat.blt d st.n = true) {Q : St → Prop} (h : Q ⟨st.n, (d, .row d) :: st.fr, (d, .row e ei.size l) :: st.own⟩) : ActOk P [] o st Q := by
  intro w0 Sx γ a w QQ hI
  obtain ⟨info, zv, hinf, hsize, _, hzv, hzc⟩ := (hT e ei he).info
  have hu := (hT t ti ht).und
  rw [hte] at hu
  simp only [UndOk] at hu
  have hpos : 0 < ei.size := by simpa [Nat.blt, Nat.lt_iff_add_one_le] using hsz
  have hlen' : xs.length = len := Nat.eq_of_beq_eq_true hlen
  have hsm : len * ei.size ≤ 16777216 := Nat.le_of_ble_eq_true hsmall
  obtain ⟨i1, i2, css, i3, i4, i5⟩ := bElems_ok hI hl
  have hparts : (parts.map fun (i, x) => (i, a.eval x)).toList = ((xs.map a.eval).zipIdx 0).map fun x => (x.2, x.1) := by rw [Array.toList_map]; exact seqParts_ok hxs
  have hcl : css.length = len := by rw [i3, i1, hlen']
  -- the run
  have run : (Instr.buildSlice t len (parts.map fun (i, x) => (i, a.eval x))).run P w = .ok (.slice (some ⟨w.heap.size, 0, none⟩) len len) (w.alloc (.cells (css.flatMap Subtype.val).toArray e)) := by
    rcases Nat.eq_zero_or_pos len with h0 | hlp
    · subst h0
      have hc0 : css = [] := List.eq_nil_of_length_eq_zero hcl
      have hx0 : xs = [] := List.eq_nil_of_length_eq_zero hlen'
      rw [hx0] at hparts
      have hp0 : (parts.map fun (i, x) => (i, a.eval x)) = #[] := Array.toList_inj.1 hparts
      rw [hp0, hc0]
      simp [Instr.buildSlice, run_underlying hu, sizeOf, typeInfo, hinf, Instr.fill, newRow, show Array.range 0 = #[] from rfl]
    · have hvs : ∀ v ∈ xs.map a.eval, v.cells.size = ei.size := fun v hv => by
        obtain ⟨x, hx, rfl⟩ := List.mem_map.1 hv
        obtain ⟨i, hi, rfl⟩ := List.mem_iff_getElem.1 hx
        have := i4 i (by omega) hi
        have h2 := css[i].2.1
        rw [this, Array.length_toList] at h2
        exact h2
      obtain ⟨r, hr, hrs, hrk⟩ := Great.fill_dense hpos (xs.map a.eval) 0 ((Array.range (len * info.size)).map (zv.cells[· % zv.cells.size]!)) hvs (by simp [hlen', hsize])
      have hrun := run_buildSlice (P := P) w t e len (parts.map fun (i, x) => (i, a.eval x)) r info zv hu hinf hzv (by rw [hsize]; omega) (by rw [hsize]; exact Nat.ne_of_gt (Nat.mul_pos hlp hpos)) (by rw [hsize]; rw [hsize] at hr; rw [hparts]; exact hr)
      rw [hrun]
      have hrl : r.size = len * ei.size := by rw [hrs]; simp [hsize]
      have : r = (css.flatMap Subtype.val).toArray := by
        refine Array.ext (by rw [hrl, List.size_toArray, flat_len (fun x : Cel ei.size => x.2.1), hcl]) fun k hk1 hk2 => ?_
        have hk : k < len * ei.size := by rw [← hrl]; exact hk1
        have hdiv : k / ei.size < css.length := by rw [hcl]; exact (Nat.div_lt_iff_lt_mul hpos).2 hk
        have hmod : k % ei.size < ei.size := Nat.mod_lt _ hpos
        have hjj : k / ei.size * ei.size + k % ei.size = k := by rw [Nat.mul_comm]; exact Nat.div_add_mod k ei.size
        have g1 := flat_get (fun x : Cel ei.size => x.2.1) css (k / ei.size) hdiv (k % ei.size) hmod
        rw [hjj] at g1
        have g2 := hrk k
        rw [if_pos ⟨by omega, by simp [hlen']; exact hk⟩] at g2
        have g3 : (xs.map a.eval)[k / ei.size - 0]? = some (a.eval (xs[k / ei.size]'(by omega))) := by simp [List.getElem?_eq_getElem (show k / ei.size < xs.length by omega)]
        rw [g3] at g2
        simp only [Option.bind_some] at g2
        rw [i4 _ hdiv (by omega)] at g1
        have g4 : r[k]? = (css.flatMap Subtype.val)[k]? := by rw [g2, g1, Array.getElem?_toList]
        have e1 : r[k]? = some r[k] := Array.getElem?_eq_getElem hk1
        have e2 : (css.flatMap Subtype.val)[k]? = some ((css.flatMap Subtype.val)[k]'(by simpa using hk2)) := List.getElem?_eq_getElem (by simpa using hk2)
        rw [e1, e2] at g4
        simpa using g4
      rw [this]
  have hw : Below w.heap.size w (w.alloc (.cells (css.flatMap Subtype.val).toArray e)) := (Below.refl _ w).alloc (Nat.le_refl _) _
  have hll : l.length = len := by rw [i1, hlen']
  have hrow : BoxOk w0 Sx (upd γ d (.slice (some ⟨w.heap.size, 0, none⟩) len len)) ((d, .row e ei.size l) :: st.own) (w.alloc (.cells (css.flatMap Subtype.val).toArray e)) d (.row e ei.size l) := by
    have hlm : len ≤ 16777216 := Nat.le_trans (Nat.le_mul_of_pos_right len hpos) hsm
    refine .row ?_ i2 (by rw [hll]; unfold reachBytes; omega) (fun b hb hk => by simp only [upd, if_true, blkOf, Option.some.injEq] at hb; have := hI.heap.sx.lt _ hk; omega)
    rw [show upd γ d (.slice (some ⟨w.heap.size, 0, none⟩) len len) d = .slice (some ⟨w.heap.size, 0, none⟩) len len from if_pos rfl]
    refine ⟨css, ⟨by rw [flat_len (fun x : Cel ei.size => x.2.1)], Or.inr ⟨w.heap.size, len, _, by rw [hcl], Nat.zero_le _, heap_alloc_new w _, by omega, by unfold maxLen; omega, by rw [List.size_toArray, flat_len (fun x : Cel ei.size => x.2.1), hcl], ?_⟩⟩, i3, fun i a1 a2 => ?_⟩
    · show (css.flatMap Subtype.val).take (css.length * ei.size) = _
      rw [← flat_len (fun x : Cel ei.size => x.2.1) css, List.take_length]
    · refine ⟨(i5 i a1 a2).1, fun j s u hs hu => ?_⟩
      refine ((i5 i a1 a2).2 j s u hs hu).keep2 hw.size fun b hb hok => ⟨hw.block b hb, ⟨hok.1, fun k bx hk hkd hkb => ?_⟩, ?_⟩
      · rw [lk_cons, if_neg hkd] at hk
        simp only [upd, if_neg hkd] at hkb
        exact hok.2 k bx hk hkb
      · simp only [Value.ownBlock, ne_eq, Option.some.injEq]; omega
  have key := hI.addBox hw hd hn (s := .row d) (v := .slice (some ⟨w.heap.size, 0, none⟩) len len) (fun b hb => by simp only [blkOf, Option.some.injEq] at hb; omega) hrow (.row (by unfold hp; rw [lk_cons, if_pos rfl]; simp [upd]))
  unfold Oper.wp
  have : (execOp a.eval o).run P w = .ok (.value (.slice (some ⟨w.heap.size, 0, none⟩) len len)) (w.alloc (.cells (css.flatMap Subtype.val).toArray e)) := by
    simp only [execOp, ho, Sem.run_bind, run, Result.andThen_ok]; rfl
  rw [this, Oper.upon_value, hdst]
  exact ⟨_, _, h, key.1, key.2.1, key.2.2⟩
end

def setB (j : Nat) (bx : Box) : List (Nat × Box) → List (Nat × Box)
  | [] => []
  | (k, b) :: r => bif Nat.beq j k then (k, bx) :: r else (k, b) :: setB j bx r
theorem lk_setB (j : Nat) (bx : Box) (i : Nat) : ∀ own : List (Nat × Box), lk i (setB j bx own) = if i = j then (lk j own).map (fun _ => bx) else lk i own
  | [] => by simp [setB, lk]
  | (k, b) :: r => by
    rw [setB]
    by_cases h : j = k
    · subst h
      rw [beq_self', cond_true, lk_cons, lk_cons, lk_cons]
      by_cases e : i = j
      · simp [e]
      · simp [e]
    · rw [beq_no h, cond_false, lk_cons, lk_setB j bx i r, lk_cons, lk_cons]
      by_cases e : i = j
      · subst e; simp [h]
      · simp [e]

theorem RelS.ptr_inv {ok : Nat → Prop} {H : Nat → Option Value} {w : World} {i o b : Nat} {u : Value} (h : RelS ok H w (.ptr i o) u) (hg : H i = some (.pointer (some ⟨b, 0, none⟩))) : u = .pointer (some ⟨b, o, none⟩) := by
  cases h with
  | ptr h hb => rw [hg] at h; cases h; simp only [blkOf, Option.some.injEq] at hb; subst hb; rfl
section
variable {P : Program} {T : TT} (hT : TypesOk P T) {st : St}
include hT
theorem act_store {o : Oper} {t : TypeId} {ad x : Operand} (ho : o.op = .store t ad x) (hdst : o.dst = none) {ti : TyI} (ht : lk t T = some ti) {j off : Nat} (had : evS st ad = some (.ptr j off)) {cs : List SV} (hj : lk j st.own = some (.cells cs))
    {s : SV} (hx : evS st x = some s) {xs : List SV} (hxs : cellsOf s = some xs) (h1 : xs.all oneS = true) (hlen : Nat.beq xs.length ti.size = true) (hfit : Nat.ble (off + xs.length) cs.length = true)
    {Q : St → Prop} (h : Q ⟨st.n, st.fr, setB j (.cells (cs.take off ++ xs ++ cs.drop (off + xs.length))) st.own⟩) : ActOk P [j] o st Q := by
  intro w0 Sx γ a w QQ hI
  have hlen' : xs.length = ti.size := Nat.eq_of_beq_eq_true hlen
  have hfit' : off + xs.length ≤ cs.length := Nat.le_of_ble_eq_true hfit
  cases hI.heap.box j _ hj with
  | @cells _ us ty b hg hB hh hl hr hone =>
  have hadv := (evS_ok hI had).ptr_inv (by rw [hp_some hj, hg])
  obtain ⟨c1, c2⟩ := cellsOf_ok hI.heap.one (evS_ok hI hx) hxs
  generalize hvs : (a.eval x).cells.toList = vs at c1 c2
  have hvl : vs.length = xs.length := c1
  have hv1 : ∀ v ∈ vs, v.oneCell' = true := fun v hv => by
    obtain ⟨i, hi, rfl⟩ := List.mem_iff_getElem.1 hv
    exact (c2 i (xs[i]'(by omega)) _ (List.getElem?_eq_getElem (by omega)) (List.getElem?_eq_getElem hi)).one hI.heap.one (List.all_eq_true.1 h1 _ (List.getElem_mem _))
  have hst := run_storeCells_at P b off ty vs 0 us.toArray w hh (by simp; omega) hv1
  simp only [Nat.add_zero] at hst
  let us' := us.take off ++ vs ++ us.drop (off + vs.length)
  have run : (execOp a.eval o).run P w = .ok .skip (w.setRow b us'.toArray) := by
    have hsz := (hT t ti ht).size w
    have hcs : (a.eval x).cells.size = ti.size := by rw [← Array.length_toList, hvs, hvl, hlen']
    simp only [execOp, ho, Instr.storeAt, hadv, Instr.sureAddr, storeVar, Sem.run_bind, Sem.run_pure, Result.andThen_ok, hsz, hcs, hvs]
    simp [hst, us']
  have hbl : b < w.heap.size := lt_of_block hh
  have hother : ∀ k, k ≠ b → (w.setRow b us'.toArray).heap[k]? = w.heap[k]? := fun k hk => setRow_other w b k _ hk
  have lk' : ∀ i, lk i (setB j (.cells (cs.take off ++ xs ++ cs.drop (off + xs.length))) st.own) = if i = j then some (.cells (cs.take off ++ xs ++ cs.drop (off + xs.length))) else lk i st.own := fun i => by
    rw [lk_setB, hj]; rfl
  have hsome : ∀ i, (lk i (setB j (.cells (cs.take off ++ xs ++ cs.drop (off + xs.length))) st.own)).isSome = (lk i st.own).isSome := fun i => by
    rw [lk']; split
    · rename_i e; subst e; rw [hj]; rfl
    · rfl
  generalize hown' : setB j (.cells (cs.take off ++ xs ++ cs.drop (off + xs.length))) st.own = own' at *
  have hp' : ∀ i, hp γ own' i = hp γ st.own i := fun i => by
    have := hsome i
    unfold hp
    cases h2 : lk i own' <;> cases h3 : lk i st.own <;> rw [h2, h3] at this <;> first | rfl | cases this
  have okc : ∀ c, okO Sx γ own' c ↔ okO Sx γ st.own c := fun c => by
    refine and_congr Iff.rfl ⟨fun hk i bx hi => ?_, fun hk i bx hi => ?_⟩
    · have := hsome i; rw [hi] at this
      obtain ⟨by_, h3⟩ := Option.isSome_iff_exists.1 this
      exact hk i by_ h3
    · have := hsome i; rw [hi] at this
      obtain ⟨by_, h3⟩ := Option.isSome_iff_exists.1 this.symm
      exact hk i by_ h3
  have okb : ∀ i c, okBut Sx γ own' i c ↔ okBut Sx γ st.own i c := fun i c => by
    refine and_congr Iff.rfl ⟨fun hk k bx hi => ?_, fun hk k bx hi => ?_⟩
    · have := hsome k; rw [hi] at this
      obtain ⟨by_, h3⟩ := Option.isSome_iff_exists.1 this
      exact hk k by_ h3
    · have := hsome k; rw [hi] at this
      obtain ⟨by_, h3⟩ := Option.isSome_iff_exists.1 this.symm
      exact hk k by_ h3
  have hblk : blkOf (γ j) = some b := by rw [hg]; rfl
  have keepS : ∀ {s : SV} {u : Value}, RelS (okO Sx γ st.own) (hp γ st.own) w s u → RelS (okO Sx γ own') (hp γ own') (w.setRow b us'.toArray) s u := fun h => by
    refine h.keep2 (by simp) (fun c hc hok => ⟨hother c fun e => ?_, (okc c).2 hok⟩) fun i _ => hp' i
    subst e; exact hok.2 j _ hj hblk
  unfold Oper.wp
  rw [run, Oper.upon_skip, hdst]
  refine ⟨γ, _, h, ⟨?_, hI.size, hI.defers, fun t s ht => keepS (hI.fr t s ht), ⟨fun i bx hi => ?_, fun i k bi bk c hi hk hbi hbk => ?_, hI.heap.sx.keep (by simp) fun i bx hi => Or.inr ⟨rfl, by rw [← hsome i, hi]; rfl⟩⟩⟩, ⟨by simp, fun c hc hv => hother c fun e => ?_⟩, fun K _ c hc hv i bx hi hK => ?_⟩
  · refine hI.below.step ⟨rfl, rfl, rfl, by simp, fun k hk => absurd hk (Nat.not_lt_zero _)⟩ fun k hk => hother k fun e => by subst e; exact hB hk
  · rw [lk'] at hi
    by_cases e : i = j
    · subst e
      rw [if_pos rfl] at hi
      cases hi
      refine .cells (us := us') (ty := ty) (b := b) hg hB (setRow_heap w b _ _ ty _ hh) (by simp [us', hvl, hl]) (fun k s u hs hu => ?_) fun u hu => ?_
      · -- a cell of the box
        have : RelS (okO Sx γ st.own) (hp γ st.own) w s u := by
          have ln : (us.take off ++ vs).length = (cs.take off ++ xs).length := by simp [hvl, hl]
          by_cases hk1 : k < (cs.take off ++ xs).length
          · rw [List.getElem?_append_left hk1] at hs
            rw [List.getElem?_append_left (by rw [ln]; exact hk1)] at hu
            have l2 : (us.take off).length = (cs.take off).length := by simp [hl]
            by_cases hk2 : k < (cs.take off).length
            · rw [List.getElem?_append_left hk2] at hs
              rw [List.getElem?_append_left (by rw [l2]; exact hk2)] at hu
              rw [List.getElem?_take] at hs hu
              split at hs
              · rename_i hlt; rw [if_pos hlt] at hu; exact hr k s u hs hu
              · cases hs
            · rw [List.getElem?_append_right (by omega)] at hs
              rw [List.getElem?_append_right (by omega), l2] at hu
              exact c2 _ s u hs hu
          · rw [List.getElem?_append_right (by omega)] at hs
            rw [List.getElem?_append_right (by omega), ln] at hu
            rw [List.getElem?_drop] at hs hu
            rw [hvl] at hu
            exact hr _ s u hs hu
        exact keepS this
      · simp only [us', List.mem_append] at hu
        rcases hu with (hu | hu) | hu
        · exact hone u (List.mem_of_mem_take hu)
        · exact hv1 u hu
        · exact hone u (List.mem_of_mem_drop hu)
    · rw [if_neg e] at hi
      cases hI.heap.box i bx hi with
      | @row e' esz l hr' he hm hk' =>
        refine .row (hr'.keep2 good_PV (by simp) (fun c hc => hother c fun ec => ?_) fun c hc hok hne => ⟨hother c fun ec => ?_, (okb i c).2 hok⟩) he hm hk'
        · subst ec
          have : blkOf (γ i) = some c := by
            rcases hr' with ⟨css, h1', _⟩
            rcases h1'.2 with ⟨hv, _⟩ | ⟨g, cap, cur, hv, _⟩
            · rw [hv] at hc; cases hc
            · rw [hv] at hc ⊢; exact hc
          exact e (hI.heap.inj i j _ _ c hi hj this hblk)
        · subst ec; exact hok.2 j _ hj (fun e2 => e e2.symm) hblk
      | @cells cs2 us2 ty2 b2 hg2 hB2 hh2 hl2 hr2 hone2 =>
        have hne : b2 ≠ b := fun eb => e (hI.heap.inj i j _ _ b hi hj (by rw [hg2, ← eb]; rfl) hblk)
        exact .cells hg2 hB2 (by rw [hother b2 hne]; exact hh2) hl2 (fun k s u hs hu => keepS (hr2 k s u hs hu)) hone2
      | @mp es ens clock b2 hg2 hB2 hh2 hl2 hr2 =>
        have hne : b2 ≠ b := fun eb => e (hI.heap.inj i j _ _ b hi hj (by rw [hg2, ← eb]; rfl) hblk)
        exact .mp hg2 hB2 (by rw [hother b2 hne]; exact hh2) hl2 fun k x en hs hu => ⟨(hr2 k x en hs hu).1, (hr2 k x en hs hu).2.keep2 (by simp) fun c hc hok => ⟨hother c fun ec => by subst ec; exact hok.2 j _ hj hblk, (okc c).2 hok⟩⟩
  · have h2 := hsome i; rw [hi] at h2
    have h3 := hsome k; rw [hk] at h3
    obtain ⟨x1, h4⟩ := Option.isSome_iff_exists.1 h2.symm
    obtain ⟨x2, h5⟩ := Option.isSome_iff_exists.1 h3.symm
    exact hI.heap.inj i k _ _ c h4 h5 hbi hbk
  · subst e; exact hv j _ hj (by simp) hblk
  · have h2 := hsome i; rw [hi] at h2
    obtain ⟨x1, h4⟩ := Option.isSome_iff_exists.1 h2.symm
    exact hv i x1 h4 hK
end

def kl (j : Nat) (s : SV) : SV := bif s.noRef j then s else .junk
def klB (j : Nat) : Box → Box
  | .cells cs => .cells (cs.map (kl j))
  | b => b
def killF (j : Nat) (fr : List (Nat × SV)) : List (Nat × SV) := fr.map fun p => (p.1, kl j p.2)
def killO (j : Nat) (own : List (Nat × Box)) : List (Nat × Box) := (del j own).map fun p => (p.1, klB j p.2)
theorem lk_map {α β : Type} (f : α → β) (t : Nat) : ∀ l : List (Nat × α), lk t (l.map fun p => (p.1, f p.2)) = (lk t l).map f
  | [] => rfl
  | (k, x) :: l => by
    rw [List.map_cons, lk_cons, lk_cons, lk_map f t l]
    split <;> rfl
theorem lk_killF (j t : Nat) (fr : List (Nat × SV)) : lk t (killF j fr) = (lk t fr).map (kl j) := lk_map _ _ _
theorem lk_killO (j i : Nat) (own : List (Nat × Box)) : lk i (killO j own) = if i = j then none else (lk i own).map (klB j) := by
  unfold killO
  rw [lk_map, lk_del]
  split <;> rfl
theorem RelS.kl {ok : Nat → Prop} {H : Nat → Option Value} {w : World} {s : SV} {u : Value} (j : Nat) (h : RelS ok H w s u) : RelS ok H w (kl j s) u := by
  unfold Proofs.Ytjpcchipejmocaa.kl
  cases s.noRef j with
  | true => exact h
  | false => exact .junk
theorem noRef_kl (j : Nat) (s : SV) : (kl j s).noRef j = true := by
  unfold kl
  cases h : s.noRef j with
  | true => exact h
  | false => rfl
theorem noRef_kl_other {i j : Nat} {s : SV} (h : (kl j s).noRef i = false) : s.noRef i = false ∧ kl j s = s := by
  unfold kl at *
  cases h2 : s.noRef j with
  | true => rw [h2] at h; exact ⟨h, rfl⟩
  | false => rw [h2] at h; cases h

def srcL (st : St) (esz : Nat) (j : Option Nat) : SV → Option (List (List PV))
  | .p (.sl z l) => bif Nat.beq z esz then some l else none
  | .p (.v (.slice none 0 0)) => some []
  | .row k => match j with
    | some j => bif Nat.beq k j then none else (match lk k st.own with
      | some (.row _ z l) => bif Nat.beq z esz then some l else none
      | _ => none)
    | none => match lk k st.own with
      | some (.row _ z l) => bif Nat.beq z esz then some l else none
      | _ => none
  | _ => none
/-- a row of the call's own, to be read -/
theorem row_slat {B : Base} {Sx : Nat → Prop} {γ : Nat → Value} {own : List (Nat × Box)} {w : World} (h : HeapOk B Sx γ own w) {k : Nat} {e : TypeId} {z : Nat} {l : List (List PV)} (hk : lk k own = some (.row e z l)) :
    ∃ A c, γ k = .slice A l.length c ∧ l.length ≤ c ∧ (l.length ≤ reachBytes ∧ c ≤ maxLen) ∧ (∀ e ∈ l, e.length = z ∧ ∀ s ∈ e, oneP s = true) ∧ SlAt (fun w cs y => (∀ u ∈ cs, u.oneCell' = true) ∧ rPV (okO Sx γ own) w cs y) z w A l := by
  cases h.box k _ hk with
  | row hr he hm =>
    obtain ⟨A, c, hv, hlc, hcm⟩ := hr.shape
    refine ⟨A, c, hv, hlc, ⟨hm, hcm⟩, he, ?_⟩
    obtain ⟨css, h1, h2, h3⟩ := hr
    have h1' : OwnF Subtype.val z w 0 e (.slice A css.length c) css := by rw [h2, ← hv]; exact h1
    have hs := OwnF.slat (R := fun _ cs (y : Cel z) => cs = y.val) (fun x => x.2.1) h1' (fun x _ => rfl)
    intro hl
    obtain ⟨b, o, hA, hlt, hc⟩ := hs (by omega)
    refine ⟨b, o, hA, hlt, fun i hi => ?_⟩
    obtain ⟨cs, a1, a2, rfl⟩ := hc i (by omega)
    refine ⟨_, a1, a2, (css[i]'(by omega)).2.2, ?_⟩
    refine good_PV.weak _ _ _ _ _ (fun c _ hok => ⟨hok.1.1, fun j bx hj hjc => ?_⟩) (h3 i (by omega) hi)
    by_cases e : j = k
    · subst e
      refine hok.2 ?_
      rw [hv] at hjc ⊢
      rw [← hjc]; cases A <;> rfl
    · exact hok.1.2 j bx hj e hjc
theorem srcL_ok {w0 : Base} {Sx : Nat → Prop} {γ : Nat → Value} {st : St} {a : Act} {w : World} (hI : Sim w0 Sx γ st a w) {esz : Nat} {j : Option Nat} {x : Operand} {s : SV} (hx : evS st x = some s) {l : List (List PV)} (h : srcL st esz j s = some l) :
    ∃ A c, a.eval x = .slice A l.length c ∧ l.length ≤ reachBytes ∧ (∀ e ∈ l, e.length = esz ∧ ∀ s ∈ e, oneP s = true) ∧ SlAt (fun w cs y => (∀ u ∈ cs, u.oneCell' = true) ∧ rPV (okO Sx γ st.own) w cs y) esz w A l := by
  have hv := evS_ok hI hx
  have rowc : ∀ {k : Nat}, s = .row k → (match lk k st.own with
      | some (.row _ z l) => bif Nat.beq z esz then some l else none
      | _ => none) = some l → ∃ A c, a.eval x = .slice A l.length c ∧ l.length ≤ reachBytes ∧ (∀ e ∈ l, e.length = esz ∧ ∀ s ∈ e, oneP s = true) ∧ SlAt (fun w cs y => (∀ u ∈ cs, u.oneCell' = true) ∧ rPV (okO Sx γ st.own) w cs y) esz w A l := by
    intro k hs h0
    clear h
    subst hs
    split at h0
    · rename_i e z l' hk
      cases hz : Nat.beq z esz with
      | false => rw [hz] at h0; cases h0
      | true =>
        rw [hz] at h0
        simp only [cond_true, Option.some.injEq] at h0
        subst h0
        have e1 : z = esz := Nat.eq_of_beq_eq_true hz
        subst e1
        obtain ⟨A, c, g1, g2, g3, g4, g5⟩ := row_slat hI.heap hk
        generalize a.eval x = u at hv ⊢
        cases hv with
        | row hg => rw [hp_some hk] at hg; cases hg; exact ⟨A, c, g1, g3.1, g4, g5⟩
    · cases h0
  unfold srcL at h
  split at h
  · rename_i z l'
    cases hz : Nat.beq z esz with
    | false => rw [hz] at h; cases h
    | true =>
      rw [hz] at h
      simp only [cond_true, Option.some.injEq] at h
      subst h
      have e1 : z = esz := Nat.eq_of_beq_eq_true hz
      subst e1
      obtain ⟨A, c, g1, g2, g3, g4, g5⟩ := hv.p_inv.slat
      refine ⟨A, c, g1, g3.1, g4, fun hl => ?_⟩
      obtain ⟨b, o, hA, hok, hlt, hc⟩ := g5 hl
      refine ⟨b, o, hA, hlt, fun i hi => ?_⟩
      obtain ⟨cs, a1, a2, a3⟩ := hc i hi
      refine ⟨cs, a1, a2, fun u hu => ?_, a3⟩
      obtain ⟨m, hm, rfl⟩ := List.mem_iff_getElem.1 hu
      have hm' : m < l'[i].length := by rw [← a3.1]; exact hm
      rw [(a3.2 m l'[i][m] cs[m] (List.getElem?_eq_getElem hm') (List.getElem?_eq_getElem hm)).one]
      exact (g4 _ (List.getElem_mem hi)).2 _ (List.getElem_mem hm')
  · simp only [Option.some.injEq] at h
    subst h
    rw [hv.v_inv]
    exact ⟨none, 0, rfl, Nat.zero_le _, by simp, fun h => absurd h (by simp)⟩
  · rename_i k
    cases j with
    | none => exact rowc rfl h
    | some j =>
      have h' : (bif Nat.beq k j then none else (match lk k st.own with
        | some (.row _ z l) => bif Nat.beq z esz then some l else none
        | _ => none)) = some l := h
      cases hz : Nat.beq k j with
      | true => rw [hz] at h'; cases h'
      | false => rw [hz] at h'; exact rowc rfl h'
  · cases h

section
variable {P : Program} {T : TT} (hT : TypesOk P T) {st : St}
include hT
/-- append onto nothing -/
theorem act_append_nil {o : Oper} {sx xx : Operand} {t e : TypeId} {cl : Call} (ho : o.op = .call cl) (hcl : cl.callee = .builtin .append) (hargs : cl.args.toList = [sx, xx]) (hts : cl.argTypes.toList = [t, t]) {d : Nat} (hdst : o.dst = some d)
    {ti ei : TyI} (ht : lk t T = some ti) (hte : ti.d = .sl e) (he : lk e T = some ei) (hsz : Nat.blt 0 ei.size = true) (hz : Nat.beq ei.zero.length ei.size = true) (hs : evS st sx = some (.p (.v (.slice none 0 0))))
    {s2 : SV} (hx : evS st xx = some s2) {l2 : List (List PV)} (hl2 : srcL st ei.size none s2 = some l2) (hd : lk d st.own = none) (hn : Nat.blt d st.n = true) (hc : l2.length * ei.bytes ≤ 140737488355328)
    {Q : St → Prop} (h : Q ⟨st.n, (d, .row d) :: st.fr, (d, .row e ei.size l2) :: st.own⟩) : ActOk P [] o st Q := by
  intro w0 Sx γ a w QQ hI
  obtain ⟨info, zv, hinf, hsize, hby, hzv, hzc⟩ := (hT e ei he).info
  have hu := (hT t ti ht).und
  rw [hte] at hu
  simp only [UndOk] at hu
  have hpos : 0 < ei.size := by simpa [Nat.blt, Nat.lt_iff_add_one_le] using hsz
  have hsv := (evS_ok hI hs).v_inv
  obtain ⟨A, c, g1, g2, g3, g4⟩ := srcL_ok hI hx hl2
  have hown : RowO rPV ei.size (okO Sx γ st.own) w 0 e (.slice none 0 0) ([] : List (List PV)) := rowO_nil
  obtain ⟨v', w', hrun, k1, k2, k3⟩ := run_append_row (P := P) good_PV t o.type 0 e info zv ei.bytes hu hinf hzv hsize hby (by rw [← Array.length_toList, hzc]; exact Nat.eq_of_beq_eq_true hz) hpos
    (.slice none 0 0) [] hown A c l2 (fun hl => by
      obtain ⟨b, o', hA, hlt, hx⟩ := g4 hl
      refine ⟨b, o', hA, hlt, fun i hi => ?_⟩
      obtain ⟨cs, a1, a2, a3, a4⟩ := hx i hi
      exact ⟨cs, a1, a2, a3, good_PV.weak _ _ _ _ _ (fun b _ hok => ⟨hok, by simp [Value.ownBlock]⟩) a4⟩)
    (by simp only [List.length_nil, Nat.zero_add]; unfold maxLen; unfold reachBytes at g2; omega) (by simpa using hc) (Nat.zero_le _)
    ⟨fun hs => by have := hI.heap.sx.lt _ (hI.heap.sx.sub _ hs); omega, fun i bx hi hb => by have := (hI.heap.blk hi hb).2; omega⟩
  have hw : Below w.heap.size w w' := ⟨k2.os, k2.tape, k2.output, k2.size, fun b hb => k2.block b hb (by simp [Value.ownBlock])⟩
  rw [List.nil_append] at k1
  have hblk : ∀ b, blkOf v' = some b → w.heap.size ≤ b := fun b hb => by
    obtain ⟨A', c', hv', _⟩ := k1.shape
    rw [hv'] at hb k3
    rw [blkOf_slice] at hb
    rcases k3 with k | k
    · rw [hb] at k; cases k
    · rw [hb] at k; cases k; exact Nat.le_refl _
  have hrow : BoxOk w0 Sx (upd γ d v') ((d, .row e ei.size l2) :: st.own) w' d (.row e ei.size l2) := by
    refine .row ?_ g3 g2 (fun b hb hk => by rw [show upd γ d v' d = v' from if_pos rfl] at hb; have := hblk b hb; have := hI.heap.sx.lt _ hk; omega)
    rw [show upd γ d v' d = v' from if_pos rfl]
    refine k1.keep2 good_PV (Nat.le_refl _) (fun _ _ => rfl) fun b _ hok _ => ⟨rfl, hok.1, fun k bx hk hkd hkb => ?_⟩
    rw [lk_cons, if_neg hkd] at hk
    simp only [upd, if_neg hkd] at hkb
    exact hok.2 k bx hk hkb
  have key := hI.addBox hw hd hn (s := .row d) (v := v') hblk hrow (.row (by unfold hp; rw [lk_cons, if_pos rfl]; simp [upd]))
  have hargs' : cl.args = #[sx, xx] := by rw [← Array.toArray_toList (xs := cl.args), hargs]
  have hts' : cl.argTypes = #[t, t] := by rw [← Array.toArray_toList (xs := cl.argTypes), hts]
  unfold Oper.wp
  have : (execOp a.eval o).run P w = .ok (.value v') w' := by
    simp only [execOp, ho, resolve, hcl, hargs', hts', Sem.run_bind, Sem.run_pure, Result.andThen_ok, invoke, builtin, List.map_toArray, List.map_cons, List.map_nil, hsv, g1, hrun]
  rw [this, Oper.upon_value, hdst]
  exact ⟨_, _, h, key.1, key.2.1, key.2.2⟩
/-- append onto a row of the call's own: whoever else held the row holds it no more -/
theorem act_append_row {o : Oper} {sx xx : Operand} {t e : TypeId} {cl : Call} (ho : o.op = .call cl) (hcl : cl.callee = .builtin .append) (hargs : cl.args.toList = [sx, xx]) (hts : cl.argTypes.toList = [t, t]) {d : Nat} (hdst : o.dst = some d)
    {ti ei : TyI} (ht : lk t T = some ti) (hte : ti.d = .sl e) (he : lk e T = some ei) (hsz : Nat.blt 0 ei.size = true) (hz : Nat.beq ei.zero.length ei.size = true) {j : Nat} (hs : evS st sx = some (.row j)) {l : List (List PV)} (hj : lk j st.own = some (.row e ei.size l))
    {s2 : SV} (hx : evS st xx = some s2) {l2 : List (List PV)} (hl2 : srcL st ei.size (some j) s2 = some l2) (hd : lk d (killO j st.own) = none) (hn : Nat.blt d st.n = true) (hr : l.length + l2.length ≤ reachBytes) (hc : (l.length + l2.length) * ei.bytes ≤ 140737488355328)
    {Q : St → Prop} (h : Q ⟨st.n, (d, .row d) :: killF j st.fr, (d, .row e ei.size (l ++ l2)) :: killO j st.own⟩) : ActOk P [j] o st Q := by
  intro w0 Sx γ a w QQ hI
  obtain ⟨info, zv, hinf, hsize, hby, hzv, hzc⟩ := (hT e ei he).info
  have hu := (hT t ti ht).und
  rw [hte] at hu
  simp only [UndOk] at hu
  have hpos : 0 < ei.size := by simpa [Nat.blt, Nat.lt_iff_add_one_le] using hsz
  have hlt : d < st.n := by simpa [Nat.blt, Nat.lt_iff_add_one_le] using hn
  have hsv : a.eval sx = γ j := by
    have := evS_ok hI hs
    generalize a.eval sx = u at this ⊢
    cases this with
    | row hg => rw [hp_some hj] at hg; cases hg; rfl
  obtain ⟨A, c, g1, g2, g3, g4⟩ := srcL_ok hI hx hl2
  cases hI.heap.box j _ hj with
  | row hrow hel hml hkj =>
  have okR_of : ∀ b, okO Sx γ st.own b → okR (okBut Sx γ st.own j) (γ j) b := fun b hok => ⟨⟨hok.1, fun k bx hk _ hb => hok.2 k bx hk hb⟩, fun hb => by
    obtain ⟨A', c', hv', _⟩ := hrow.shape
    refine hok.2 j _ hj ?_
    rw [hv'] at hb ⊢
    rw [blkOf_slice]; exact hb.symm⟩
  obtain ⟨v', w', hrun, k1, k2, k3⟩ := run_append_row (P := P) good_PV t o.type 0 e info zv ei.bytes hu hinf hzv hsize hby (by rw [← Array.length_toList, hzc]; exact Nat.eq_of_beq_eq_true hz) hpos
    (γ j) l hrow A c l2 (fun hl => by
      obtain ⟨b, o', hA, hlt, hx⟩ := g4 hl
      refine ⟨b, o', hA, hlt, fun i hi => ?_⟩
      obtain ⟨cs, a1, a2, a3, a4⟩ := hx i hi
      exact ⟨cs, a1, a2, a3, good_PV.weak _ _ _ _ _ (fun b _ hok => okR_of b hok) a4⟩)
    (by unfold maxLen; unfold reachBytes at hr; omega) hc (Nat.zero_le _)
    ⟨fun hs => by have := hI.heap.sx.lt _ (hI.heap.sx.sub _ hs); omega, fun i bx hi _ hb => by have := (hI.heap.blk hi hb).2; omega⟩
  have hoj : (γ j).ownBlock = blkOf (γ j) := by obtain ⟨A', c', hv', _⟩ := hrow.shape; rw [hv', blkOf_slice]
  have hov : v'.ownBlock = blkOf v' := by obtain ⟨A', c', hv', _⟩ := k1.shape; rw [hv', blkOf_slice]
  have hvb : ∀ b, blkOf v' = some b → blkOf (γ j) = some b ∨ b = w.heap.size := fun b hb => by
    rw [← hov] at hb
    rcases k3 with k | k
    · rw [hb, hoj] at k; exact Or.inl k.symm
    · rw [hb] at k; cases k; exact Or.inr rfl
  generalize hown' : ((d, Box.row e ei.size (l ++ l2)) :: killO j st.own) = own' at *
  have lk' : ∀ i, lk i own' = if i = d then some (.row e ei.size (l ++ l2)) else if i = j then none else (lk i st.own).map (klB j) := fun i => by
    rw [← hown', lk_cons, lk_killO]
  have old : ∀ {i bx}, lk i own' = some bx → i ≠ d → i ≠ j ∧ ∃ by_, lk i st.own = some by_ ∧ bx = klB j by_ := fun {i bx} hi hid => by
    rw [lk', if_neg hid] at hi
    by_cases e : i = j
    · rw [if_pos e] at hi; cases hi
    · rw [if_neg e] at hi
      cases h2 : lk i st.own with
      | none => rw [h2] at hi; cases hi
      | some by_ => rw [h2] at hi; cases hi; exact ⟨e, by_, rfl, rfl⟩
  have hud : upd γ d v' d = v' := if_pos rfl
  have huo : ∀ i, i ≠ d → upd γ d v' i = γ i := fun i hi => if_neg hi
  -- what does not lie in the row stays
  have same : ∀ b, b < w.heap.size → blkOf (γ j) ≠ some b → w'.heap[b]? = w.heap[b]? := fun b hb hne => k2.block b hb (by rw [hoj]; exact fun e => hne e.symm)
  have okn : ∀ b, b < w.heap.size → okO Sx γ st.own b → okO Sx (upd γ d v') own' b := fun b hb hok => ⟨hok.1, fun i bx hi hib => by
    by_cases e : i = d
    · subst e
      rw [hud] at hib
      rcases hvb b hib with h | h
      · exact hok.2 j _ hj h
      · omega
    · obtain ⟨_, by_, h2, _⟩ := old hi e
      rw [huo i e] at hib
      exact hok.2 i by_ h2 hib⟩
  have keepS : ∀ {s : SV} {u : Value}, RelS (okO Sx γ st.own) (hp γ st.own) w s u → RelS (okO Sx (upd γ d v') own') (hp (upd γ d v') own') w' (kl j s) u := fun {s u} h => by
    have h1 := h.kl j
    refine h1.keep2 k2.size (fun b hb hok => ⟨same b hb fun e => hok.2 j _ hj e, okn b hb hok⟩) fun i hi => ?_
    have hij : i ≠ j := fun e => by subst e; rw [noRef_kl] at hi; cases hi
    have hs := noRef_kl_other hi
    have hlive : (lk i st.own).isSome = true := by
      cases h2 : lk i st.own with
      | some _ => rfl
      | none => rw [h.live (hp_none h2)] at hs; cases hs.1
    obtain ⟨by_, h2⟩ := Option.isSome_iff_exists.1 hlive
    have hid : i ≠ d := fun e => by
      subst e
      rw [lk_killO, if_neg hij, h2] at hd; cases hd
    rw [hp_some h2, hp_some (bx := klB j by_) (by rw [lk', if_neg hid, if_neg hij, h2]; rfl), huo i hid]
  have hbel : BelowB w0 w' := hI.below.step ⟨k2.os, k2.tape, k2.output, k2.size, fun b hb => absurd hb (Nat.not_lt_zero _)⟩ fun b hb => same b (hI.heap.sx.lt b hb) fun e => hkj b e hb
  have hdl : d < 1000000 := by have := hI.size.2; omega
  have hst : Stays w0 Sx (upd γ d v') own' w' := hI.heap.sx.keep k2.size fun i bx hi => by
    by_cases e : i = d
    · exact Or.inl (by omega)
    · obtain ⟨_, by_, h2, _⟩ := old hi e
      exact Or.inr ⟨huo i e, by rw [h2]; rfl⟩
  have hheap : HeapOk w0 Sx (upd γ d v') own' w' := by
    refine ⟨fun i bx hi => ?_, fun i k bi bk b hi hk hbi hbk => ?_, hst⟩
    · by_cases e : i = d
      · subst e
        rw [lk', if_pos rfl] at hi
        cases hi
        refine .row ?_ (fun x hx => ?_) (by rw [List.length_append]; exact hr) (fun b hb hk => by rw [hud] at hb; rcases hvb b hb with h | h; exact hkj b h hk; have := hI.heap.sx.lt _ hk; omega)
        · rw [hud]
          refine k1.keep2 good_PV (Nat.le_refl _) (fun _ _ => rfl) fun b _ hok _ => ⟨rfl, hok.1, fun k bx hk hkd hkb => ?_⟩
          obtain ⟨hkj, by_, h2, _⟩ := old hk hkd
          rw [huo k hkd] at hkb
          exact hok.2 k by_ h2 hkj hkb
        · rcases List.mem_append.1 hx with hx | hx
          · exact hel x hx
          · exact g3 x hx
      · obtain ⟨hij, by_, h2, rfl⟩ := old hi e
        cases hI.heap.box i by_ h2 with
        | @row e' esz' l' hr' he' hm' hk' =>
          show BoxOk _ _ _ _ _ _ (.row e' esz' l')
          refine .row ?_ he' hm' (by rw [huo i e]; exact hk')
          rw [huo i e]
          have hoi : (γ i).ownBlock = blkOf (γ i) := by obtain ⟨A', c', hv', _⟩ := hr'.shape; rw [hv', blkOf_slice]
          refine hr'.keep2 good_PV k2.size (fun b hb => same b ?_ fun ej => hij ?_) fun b hb hok hne => ⟨same b hb (hok.2 j _ hj (Ne.symm hij)), hok.1, fun k bk hk hki hkb => ?_⟩
          · rw [hoi] at hb; exact (hI.heap.blk h2 hb).2
          · rw [hoi] at hb; exact hI.heap.inj i j _ _ b h2 hj hb ej
          · by_cases ek : k = d
            · subst ek
              rw [hud] at hkb
              rcases hvb b hkb with h | h
              · exact hok.2 j _ hj (Ne.symm hij) h
              · omega
            · obtain ⟨_, b2, h3, _⟩ := old hk ek
              rw [huo k ek] at hkb
              exact hok.2 k b2 h3 hki hkb
        | @cells cs2 us2 ty2 b2 hg2 hB2 hh2 hl2 hr2 hone2 =>
          show BoxOk _ _ _ _ _ _ (.cells (cs2.map (kl j)))
          have hb2 : blkOf (γ i) = some b2 := by rw [hg2]; rfl
          refine .cells (by rw [huo i e]; exact hg2) hB2 (by rw [same b2 (lt_of_block hh2) fun ej => hij (hI.heap.inj i j _ _ b2 h2 hj hb2 ej)]; exact hh2) (by rw [List.length_map]; exact hl2) (fun k s u hs hu => ?_) hone2
          rw [List.getElem?_map] at hs
          cases h3 : cs2[k]? with
          | none => rw [h3] at hs; cases hs
          | some s0 => rw [h3] at hs; cases hs; exact keepS (hr2 k s0 u h3 hu)
        | @mp es ens clock b2 hg2 hB2 hh2 hl2 hr2 =>
          show BoxOk _ _ _ _ _ _ (.mp es)
          have hb2 : blkOf (γ i) = some b2 := by rw [hg2]; rfl
          exact .mp (by rw [huo i e]; exact hg2) hB2 (by rw [same b2 (lt_of_block hh2) fun ej => hij (hI.heap.inj i j _ _ b2 h2 hj hb2 ej)]; exact hh2) hl2 fun k x en hs hu => ⟨(hr2 k x en hs hu).1, (hr2 k x en hs hu).2.keep2 k2.size fun b hb hok => ⟨same b hb fun ej => hok.2 j _ hj ej, okn b hb hok⟩⟩
    · have blt : ∀ {m bm}, lk m own' = some bm → m ≠ d → blkOf (upd γ d v' m) = some b → m ≠ j ∧ b < w.heap.size ∧ ∃ b0, lk m st.own = some b0 ∧ blkOf (γ m) = some b := fun {m bm} hm hmd hmb => by
        obtain ⟨h1, by_, h2, _⟩ := old hm hmd
        rw [huo m hmd] at hmb
        exact ⟨h1, (hI.heap.blk h2 hmb).2, by_, h2, hmb⟩
      by_cases e : i = d
      · by_cases e2 : k = d
        · rw [e, e2]
        · exfalso
          obtain ⟨q1, q2, b0, q3, q4⟩ := blt hk e2 hbk
          subst e
          rw [hud] at hbi
          rcases hvb b hbi with h | h
          · exact q1 (hI.heap.inj k j _ _ b q3 hj q4 h)
          · omega
      · obtain ⟨p1, p2, c0, p3, p4⟩ := blt hi e hbi
        by_cases e2 : k = d
        · exfalso
          subst e2
          rw [hud] at hbk
          rcases hvb b hbk with h | h
          · exact p1 (hI.heap.inj i j _ _ b p3 hj p4 h)
          · omega
        · obtain ⟨q1, q2, b0, q3, q4⟩ := blt hk e2 hbk
          exact hI.heap.inj i k _ _ b p3 q3 p4 q4
  have hS : Sim w0 Sx (upd γ d v') ⟨st.n, killF j st.fr, own'⟩ a w' := ⟨hbel, hI.size, hI.defers, fun t s ht => by
    have ht' : (lk t st.fr).map (kl j) = some s := by rw [← lk_killF]; exact ht
    cases h2 : lk t st.fr with
    | none => rw [h2] at ht'; cases ht'
    | some s0 => rw [h2] at ht'; cases ht'; exact keepS (hI.fr t s0 h2), hheap⟩
  have hS2 := hS.put (dst := some d) (s := .row d) (v := v') (by simpa [dstOk, Nat.blt, Nat.lt_iff_add_one_le] using hlt) (.row (by rw [hp_some (bx := .row e ei.size (l ++ l2)) (by rw [lk', if_pos rfl]), hud]))
  have hargs' : cl.args = #[sx, xx] := by rw [← Array.toArray_toList (xs := cl.args), hargs]
  have hts' : cl.argTypes = #[t, t] := by rw [← Array.toArray_toList (xs := cl.argTypes), hts]
  unfold Oper.wp
  have : (execOp a.eval o).run P w = .ok (.value v') w' := by
    simp only [execOp, ho, resolve, hcl, hargs', hts', Sem.run_bind, Sem.run_pure, Result.andThen_ok, invoke, builtin, List.map_toArray, List.map_cons, List.map_nil, hsv, g1, hrun]
  rw [this, Oper.upon_value, hdst]
  refine ⟨_, _, h, hS2, ⟨k2.size, fun b hb hv => same b hb fun ej => hv j _ hj (by simp) ej⟩, fun K hK b hb hv i bx hi hiK hib => ?_⟩
  by_cases e : i = d
  · subst e
    rw [hud] at hib
    rcases hvb b hib with h | h
    · exact hv j _ hj (by have := hK j (by simp); simpa using this) h
    · omega
  · obtain ⟨_, by_, h2, _⟩ := old hi e
    rw [huo i e] at hib
    exact hv i by_ h2 hiK hib
end
end Go.Proofs.Ytjpcchipejmocaa
