/-
  Regions with '&&' and '||' walked without parting: an operation that a guard may pass over is reckoned all the same; what it leaves in its own slot is then of no account.
-/
import Derived.Test.YtjpcchipejmocaaBase
import Derived.BigQuiet
import Derived.StillTail
namespace Go.Proofs.Ytjpcchipejmocaa
set_option linter.unusedVariables false
set_option linter.unusedSimpArgs false
open Go.RowKit

section
variable {P : Program} {ops : Array Oper} {C : World → Prop}

/-- the guards that a wanted operation knows to hold -/
def guardsOf (ops : Array Oper) : Nat → Nat → List (Nat × Bool)
  | 0, _ => []
  | f + 1, k => match (ops[k]?).bind (·.guard) with
    | none => []
    | some (j, b) => (j, b) :: guardsOf ops f j
def readsSlot (t : Tmp) : Operand → Bool
  | .tmp u => u == t
  | _ => false
/-- may operation k read slot t, which an operation with guard g wrote? -/
def mayRead (ops : Array Oper) (k : Nat) (o : Oper) (g : Nat × Bool) (t : Tmp) : Bool :=
  (guardsOf ops ops.size k).contains g ||
  match o.op with
  | .pick (.tmp c) x y => c != t && ((ops[g.1]?).bind (·.dst)) == some c && (!readsSlot t x || g.2) && (!readsSlot t y || !g.2)
  | _ => false
def specAt (ops : Array Oper) (k : Nat) (o : Oper) : Bool :=
  (match o.op with | .select .. => false | _ => true) &&
  (match o.guard with | none => true | some (j, _) => decide (j < k) && ((ops[j]?).bind (·.dst)).isSome) &&
  (List.range k).all fun i => match ops[i]? with
    | none => false
    | some oi => match oi.dst with
      | none => true
      | some t => o.dst != some t &&
        match oi.guard with
        | none => true
        | some g => !(o.op.operands.any (readsSlot t)) || mayRead ops k o g t
def specB (ops : Array Oper) : Bool := (List.range ops.size).all fun k => match ops[k]? with | none => false | some o => specAt ops k o

def wpSpec (P : Program) (ops : Array Oper) (C : World → Prop) (Q : Act → Prop) : List Oper → Act → Prop
  | [], a => Q a
  | o :: rest, a => ∃ v, (Region.wanted o (yielded ops a.tmps) = true → ∀ w, C w → o.quietAt P a C w v) ∧ wpSpec P ops C Q rest (a.put o.dst v)
theorem spec_nil {Q : Act → Prop} {a : Act} (h : Q a) : wpSpec P ops C Q [] a := h
theorem spec_step {Q : Act → Prop} {a : Act} {o : Oper} {rest : List Oper}
    (h : ∀ K : Act → Prop, (∀ a, wpSpec P ops C Q rest a → K a) → o.quiet P a C K) : wpSpec P ops C Q (o :: rest) a := by
  obtain ⟨v, h1, h2⟩ := h _ (fun _ h => h)
  exact ⟨v, fun _ => h1, h2⟩
theorem spec_skip {Q : Act → Prop} {a : Act} {o : Oper} {rest : List Oper} (hw : Region.wanted o (yielded ops a.tmps) = false)
    (h : wpSpec P ops C Q rest (a.put o.dst undef)) : wpSpec P ops C Q (o :: rest) a := ⟨undef, fun h' => (by rw [hw] at h'; cases h'), h⟩
theorem spec_if {Q : Act → Prop} {a : Act} {o : Oper} {rest : List Oper} (v : Value) (h1 : Region.wanted o (yielded ops a.tmps) = true → ∀ w, C w → o.quietAt P a C w v)
    (h : wpSpec P ops C Q rest (a.put o.dst v)) : wpSpec P ops C Q (o :: rest) a := ⟨v, h1, h⟩

/-- the spec frame and the real one -/
structure Inv (ops : Array Oper) (k : Nat) (s r : Act) : Prop where
  size : r.tmps.size = s.tmps.size
  defers : r.defers = s.defers
  dead : ∀ i o t, i < k → ops[i]? = some o → o.dst = some t → Region.wanted o (yielded ops r.tmps) = false → r.tmps.getD t undef = undef
  agree : ∀ t, r.tmps.getD t undef = s.tmps.getD t undef ∨ ∃ i o, i < k ∧ ops[i]? = some o ∧ o.dst = some t ∧ Region.wanted o (yielded ops r.tmps) = false

theorem yielded_getD {ops : Array Oper} {tmps : Array Value} {j : Nat} {d : Tmp} (h : (ops[j]?).bind (·.dst) = some d) :
    yielded ops tmps j = match tmps.getD d undef with | .bool b => some b | _ => none := by
  unfold yielded
  rw [h]
  simp only [Option.bind_some]
  by_cases hd : d < tmps.size
  · simp [hd]
    split <;> simp_all
  · simp [hd, undef]

theorem eval_getD (a : Act) (t : Tmp) : a.eval (.tmp t) = a.tmps.getD t undef := rfl
theorem put_getD (a : Act) (d : Tmp) (v : Value) (t : Tmp) : (a.put (some d) v).tmps.getD t undef = if d = t ∧ d < a.tmps.size then v else a.tmps.getD t undef := by
  simp only [Act.put]
  by_cases h : d = t
  · subst h
    by_cases hd : d < a.tmps.size
    · simp [hd]
    · simp [hd]
  · simp [h]
theorem put_size (a : Act) (d : Option Tmp) (v : Value) : (a.put d v).tmps.size = a.tmps.size := by
  cases d <;> simp [Act.put]
theorem put_defers (a : Act) (d : Option Tmp) (v : Value) : (a.put d v).defers = a.defers := by
  cases d <;> simp [Act.put]

theorem specAt_of {k : Nat} {o : Oper} (h : specB ops = true) (hk : ops[k]? = some o) : specAt ops k o = true := by
  have hlt : k < ops.size := (Array.getElem?_eq_some_iff.1 hk).1
  have := List.all_eq_true.1 h k (List.mem_range.2 hlt)
  rw [hk] at this
  exact this
theorem specAt_sel {k : Nat} {o : Oper} (h : specAt ops k o = true) : ∀ cs b, o.op ≠ .select cs b := by
  intro cs b e
  simp [specAt, e] at h
theorem specAt_guard {k j : Nat} {b : Bool} {o : Oper} (h : specAt ops k o = true) (hg : o.guard = some (j, b)) : j < k ∧ ∃ d, (ops[j]?).bind (·.dst) = some d := by
  simp only [specAt, hg, Bool.and_eq_true, decide_eq_true_eq] at h
  exact ⟨h.1.2.1, Option.isSome_iff_exists.1 h.1.2.2⟩
theorem specAt_dst {k i : Nat} {o oi : Oper} {t : Tmp} (h : specAt ops k o = true) (hi : i < k) (hoi : ops[i]? = some oi) (ht : oi.dst = some t) : o.dst ≠ some t := by
  simp only [specAt, Bool.and_eq_true] at h
  have := List.all_eq_true.1 h.2 i (List.mem_range.2 hi)
  simp only [hoi, ht, Bool.and_eq_true, bne_iff_ne, ne_eq] at this
  exact this.1
theorem specAt_read {k i : Nat} {o oi : Oper} {t : Tmp} {g : Nat × Bool} (h : specAt ops k o = true) (hi : i < k) (hoi : ops[i]? = some oi) (ht : oi.dst = some t) (hg : oi.guard = some g) :
    (o.op.operands.any (readsSlot t)) = false ∨ mayRead ops k o g t = true := by
  simp only [specAt, Bool.and_eq_true] at h
  have := List.all_eq_true.1 h.2 i (List.mem_range.2 hi)
  simp only [hoi, ht, hg, Bool.and_eq_true, Bool.or_eq_true, Bool.not_eq_true'] at this
  exact this.2

theorem wanted_guard {o : Oper} {j : Nat} {b : Bool} {y : Nat → Option Bool} (hg : o.guard = some (j, b)) : Region.wanted o y = (y j == some b) := by
  simp [Region.wanted, hg]

/-- a slot that holds a Bool was not left out -/
theorem Inv.live {k : Nat} {s r : Act} (I : Inv ops k s r) (hB : specB ops = true) {j : Nat} {b : Bool} {oj : Oper} {d : Tmp} (hj : j < k) (hoj : ops[j]? = some oj) (hd : oj.dst = some d)
    (hy : yielded ops r.tmps j = some b) : Region.wanted oj (yielded ops r.tmps) = true ∧ yielded ops s.tmps j = some b := by
  have hb : (ops[j]?).bind (·.dst) = some d := by rw [hoj]; exact hd
  have hv : r.tmps.getD d undef = .bool b := by
    rw [yielded_getD hb] at hy
    split at hy
    · rename_i x hx; rw [hx]; cases hy; rfl
    · cases hy
  have hlive : Region.wanted oj (yielded ops r.tmps) = true := by
    cases hw : Region.wanted oj (yielded ops r.tmps) with
    | true => rfl
    | false =>
      have := I.dead j oj d hj hoj hd hw
      rw [hv] at this; cases this
  refine ⟨hlive, ?_⟩
  rcases I.agree d with he | ⟨i, o, hi, ho, ht, hw⟩
  · rw [yielded_getD hb, ← he, hv]
  · have hij : i = j := by
      rcases Nat.lt_trichotomy i j with h | h | h
      · exact absurd hd (specAt_dst (specAt_of hB hoj) h ho ht)
      · exact h
      · exact absurd ht (specAt_dst (specAt_of hB ho) h hoj hd)
    subst hij
    have : o = oj := Option.some.inj (ho.symm.trans hoj)
    subst this
    rw [hlive] at hw; cases hw
/-- what a wanted operation knows -/
theorem Inv.chain {k : Nat} {s r : Act} (I : Inv ops k s r) (hB : specB ops = true) : ∀ (f m : Nat) (o : Oper), ops[m]? = some o → m ≤ k → Region.wanted o (yielded ops r.tmps) = true →
    ∀ g ∈ guardsOf ops f m, yielded ops r.tmps g.1 = some g.2
  | 0, _, _, _, _, _, _, hg => by simp [guardsOf] at hg
  | f + 1, m, o, ho, hm, hw, g, hg => by
    unfold guardsOf at hg
    rw [ho] at hg
    simp only [Option.bind_some] at hg
    cases hgo : o.guard with
    | none => rw [hgo] at hg; simp at hg
    | some jb =>
      obtain ⟨j, b⟩ := jb
      rw [hgo] at hg
      obtain ⟨hjm, d, hd⟩ := specAt_guard (specAt_of hB ho) hgo
      have hy : yielded ops r.tmps j = some b := by
        rw [wanted_guard hgo] at hw; exact eq_of_beq hw
      rcases List.mem_cons.1 hg with rfl | hg
      · exact hy
      · cases hoj : ops[j]? with
        | none => rw [hoj] at hd; cases hd
        | some oj =>
          rw [hoj] at hd
          exact Inv.chain I hB f j oj hoj (by omega) (I.live hB (by omega) hoj hd hy).1 g hg
/-- a wanted operation comes to the same in both frames -/
theorem Inv.exec {k : Nat} {s r : Act} (I : Inv ops k s r) (hB : specB ops = true) {o : Oper} (ho : ops[k]? = some o) (hw : Region.wanted o (yielded ops r.tmps) = true) : execOp r.eval o = execOp s.eval o := by
  have hA := specAt_of hB ho
  have hch := I.chain hB ops.size k o ho (Nat.le_refl _) hw
  -- an operand that parts: its operation was left out, and may be read all the same
  have key : ∀ x ∈ o.op.operands, r.eval x = s.eval x ∨ ∃ t g, x = .tmp t ∧ yielded ops r.tmps g.1 ≠ some g.2 ∧ (guardsOf ops ops.size k).contains g = false ∧ mayRead ops k o g t = true := by
    intro x hx
    cases x with
    | tmp t =>
      rcases I.agree t with he | ⟨i, oi, hi, hoi, ht, hwi⟩
      · exact Or.inl he
      · right
        cases hg : oi.guard with
        | none => simp [Region.wanted, hg] at hwi
        | some g =>
          have hny : yielded ops r.tmps g.1 ≠ some g.2 := by
            obtain ⟨j, b⟩ := g
            rw [wanted_guard hg] at hwi
            simpa using hwi
          rcases specAt_read hA hi hoi ht hg with h | h
          · exfalso
            have hnone := Array.any_eq_false.1 h
            obtain ⟨n, hn, hxn⟩ := Array.mem_iff_getElem.1 hx
            have := hnone n hn
            rw [hxn] at this
            simp [readsSlot] at this
          · refine ⟨t, g, rfl, hny, ?_, h⟩
            cases hc : (guardsOf ops ops.size k).contains g with
            | false => rfl
            | true => exact absurd (hch g (by simpa using hc)) hny
    | const v => exact Or.inl rfl
    | global g => exact Or.inl rfl
    | func f => exact Or.inl rfl
  by_cases hall : ∀ x ∈ o.op.operands, r.eval x = s.eval x
  · exact execOp_congr o (specAt_sel hA) hall
  · obtain ⟨x, hx, hne⟩ := Classical.not_forall.1 hall |>.imp fun x h => by simpa using h
    rcases key x hx with h | ⟨t, g, rfl, hny, hnc, hm⟩
    · exact absurd h hne
    · simp only [mayRead, hnc, Bool.false_or] at hm
      split at hm
      · rename_i c x' y' hop
        obtain ⟨dst, op, type, pos, after, guard⟩ := o
        simp only at hop
        subst hop
        -- the test's own slot
        have hc : r.eval (.tmp c) = s.eval (.tmp c) := by
          rcases key (.tmp c) (by simp [Op.operands]) with h | ⟨t', g', ht', _, hnc', hm'⟩
          · exact h
          · injection ht' with ht'
            subst ht'
            simp only [mayRead, hnc', Bool.false_or, bne_self_eq_false, Bool.false_and] at hm'
            cases hm'
        have side : ∀ (z : Operand) (b : Bool), z ∈ (Op.pick (.tmp c) x' y').operands → (z = x' ∧ b = true ∨ z = y' ∧ b = false) → r.eval (.tmp c) = .bool b → r.eval z = s.eval z := by
          intro z b hz hzb hcb
          rcases key z hz with h | ⟨t', g', rfl, hny', hnc', hm'⟩
          · exact h
          · exfalso
            simp only [mayRead, hnc', Bool.false_or, Bool.and_eq_true, beq_iff_eq, Bool.or_eq_true, Bool.not_eq_true'] at hm'
            obtain ⟨⟨⟨_, hd⟩, h1⟩, h2⟩ := hm'
            apply hny'
            rw [yielded_getD hd]
            have : r.tmps.getD c undef = .bool b := hcb
            rw [this]
            rcases hzb with ⟨rfl, rfl⟩ | ⟨rfl, rfl⟩
            · rcases h1 with h1 | h1
              · simp [readsSlot] at h1
              · simp [h1]
            · rcases h2 with h2 | h2
              · simp [readsSlot] at h2
              · simp [h2]
        simp only [execOp]
        rw [← hc]
        cases hv : r.eval (.tmp c) with
        | bool b =>
          cases b with
          | true =>
            have := side x' true (by simp [Op.operands]) (Or.inl ⟨rfl, rfl⟩) hv
            simp [asBool, this]
          | false =>
            have := side y' false (by simp [Op.operands]) (Or.inr ⟨rfl, rfl⟩) hv
            simp [asBool, this]
        | _ => rfl
      · cases hm

/-- slots of guarded operations -/
def Agree (ops : Array Oper) (s r : Act) : Prop :=
  r.tmps.size = s.tmps.size ∧ r.defers = s.defers ∧ ∀ t, r.tmps.getD t undef = s.tmps.getD t undef ∨ ∃ o ∈ ops.toList, o.dst = some t ∧ o.guard.isSome = true
theorem Inv.done {k : Nat} {s r : Act} (I : Inv ops k s r) : Agree ops s r :=
  ⟨I.size, I.defers, fun t => (I.agree t).imp id fun ⟨i, o, _, ho, ht, hw⟩ => ⟨o, List.mem_of_getElem? (by rw [Array.getElem?_toList]; exact ho), ht, by
    cases hg : o.guard with
    | none => simp [Region.wanted, hg] at hw
    | some _ => rfl⟩⟩
theorem Inv.start (a : Act) : Inv ops 0 a a := ⟨rfl, rfl, fun _ _ _ hi => absurd hi (Nat.not_lt_zero _), fun _ => Or.inl rfl⟩

theorem yielded_put {r : Act} {j : Nat} {d : Tmp} {v : Value} (h : ∀ oj, ops[j]? = some oj → oj.dst ≠ some d) : yielded ops (r.put (some d) v).tmps j = yielded ops r.tmps j := by
  unfold yielded
  cases hj : ops[j]? with
  | none => rfl
  | some oj =>
    simp only [Option.bind_some]
    cases hd : oj.dst with
    | none => rfl
    | some d' =>
      have hne : d ≠ d' := fun e => h oj hj (by rw [hd, e])
      simp [Act.put, hne]
theorem wanted_stays {r : Act} (hB : specB ops = true) {k i : Nat} {o oi : Oper} {v : Value} (ho : ops[k]? = some o) (hoi : ops[i]? = some oi) (hi : i ≤ k) :
    Region.wanted oi (yielded ops (r.put o.dst v).tmps) = Region.wanted oi (yielded ops r.tmps) := by
  cases hd : o.dst with
  | none => rfl
  | some d =>
    unfold Region.wanted
    cases hg : oi.guard with
    | none => rfl
    | some g =>
      obtain ⟨j, b⟩ := g
      have hjk : j < k := Nat.lt_of_lt_of_le (specAt_guard (specAt_of hB hoi) hg).1 hi
      simp only
      rw [yielded_put fun oj hoj e => specAt_dst (specAt_of hB ho) hjk hoj e hd]
theorem Inv.next {k : Nat} {s r : Act} (I : Inv ops k s r) (hB : specB ops = true) {o : Oper} (ho : ops[k]? = some o) (u v : Value)
    (huv : u = v ∨ (Region.wanted o (yielded ops r.tmps) = false ∧ u = undef)) (hdead : Region.wanted o (yielded ops r.tmps) = false → u = undef) : Inv ops (k + 1) (s.put o.dst v) (r.put o.dst u) := by
  refine ⟨by rw [put_size, put_size, I.size], by rw [put_defers, put_defers, I.defers], ?_, ?_⟩
  · intro i oi t hi hoi ht hw
    rw [wanted_stays hB ho hoi (by omega)] at hw
    cases hd : o.dst with
    | none =>
      have hik : i < k := by
        rcases Nat.lt_or_ge i k with h | h
        · exact h
        · have : i = k := by omega
          subst this
          have : oi = o := Option.some.inj (hoi.symm.trans ho)
          subst this; rw [hd] at ht; cases ht
      exact I.dead i oi t hik hoi ht hw
    | some d =>
      rw [put_getD]
      split
      · rename_i hc
        rcases Nat.lt_or_ge i k with h | h
        · exact absurd (by rw [hd, hc.1]) (specAt_dst (specAt_of hB ho) h hoi ht)
        · have : i = k := by omega
          subst this
          have : oi = o := Option.some.inj (hoi.symm.trans ho)
          subst this
          exact hdead hw
      · rename_i hc
        rcases Nat.lt_or_ge i k with h | h
        · exact I.dead i oi t h hoi ht hw
        · have : i = k := by omega
          subst this
          have : oi = o := Option.some.inj (hoi.symm.trans ho)
          subst this
          have hdt : d = t := by rw [hd] at ht; exact Option.some.inj ht
          have : ¬ d < r.tmps.size := fun h' => hc ⟨hdt, h'⟩
          subst hdt
          simp [this]
  · intro t
    cases hd : o.dst with
    | none =>
      rcases I.agree t with h | ⟨i, oi, hi, hoi, ht, hw⟩
      · exact Or.inl h
      · exact Or.inr ⟨i, oi, by omega, hoi, ht, hw⟩
    | some d =>
      rw [put_getD, put_getD, I.size]
      by_cases hc : d = t ∧ d < s.tmps.size
      · rw [if_pos hc, if_pos hc]
        rcases huv with h | ⟨h, _⟩
        · exact Or.inl h
        · refine Or.inr ⟨k, o, by omega, ho, by rw [hd, hc.1], ?_⟩
          have := wanted_stays (r := r) (v := u) hB ho ho (Nat.le_refl k)
          rw [hd] at this
          rw [this]; exact h
      · rw [if_neg hc, if_neg hc]
        rcases I.agree t with h | ⟨i, oi, hi, hoi, ht, hw⟩
        · exact Or.inl h
        · refine Or.inr ⟨i, oi, by omega, hoi, ht, ?_⟩
          have := wanted_stays (r := r) (v := u) hB ho hoi (by omega)
          rw [hd] at this
          rw [this]; exact hw

theorem quiet_of_spec {Qs Q : Act → Prop} (hB : specB ops = true) (hQ : ∀ s r, Agree ops s r → Qs s → Q r) : ∀ (l : List Oper) (k : Nat) (s r : Act), (∀ j, j < l.length → l[j]? = ops[k + j]?) → Inv ops k s r →
    wpSpec P ops C Qs l s → wpQuiet P ops C Q l r
  | [], _, s, r, _, I, h => hQ s r I.done h
  | o :: l, k, s, r, hl, I, ⟨v, h1, h2⟩ => by
    have ho : ops[k]? = some o := by simpa using (hl 0 (by simp)).symm
    have hl' : ∀ j, j < l.length → l[j]? = ops[(k + 1) + j]? := fun j hj => by have := hl (j + 1) (by simpa using hj); simpa [Nat.add_assoc, Nat.add_comm 1 j] using this
    unfold wpQuiet
    by_cases hw : Region.wanted o (yielded ops r.tmps) = true
    · rw [if_pos hw]
      have hex := I.exec hB ho hw
      have hws : Region.wanted o (yielded ops s.tmps) = true := by
        cases hg : o.guard with
        | none => simp [Region.wanted, hg]
        | some g =>
          obtain ⟨j, b⟩ := g
          obtain ⟨hjk, d, hd⟩ := specAt_guard (specAt_of hB ho) hg
          cases hoj : ops[j]? with
          | none => rw [hoj] at hd; cases hd
          | some oj =>
            rw [hoj] at hd
            have hy : yielded ops r.tmps j = some b := by rw [wanted_guard hg] at hw; exact eq_of_beq hw
            rw [wanted_guard hg, (I.live hB hjk hoj hd hy).2]
            simp
      refine ⟨v, fun w hCw => ?_, quiet_of_spec hB hQ l (k + 1) _ _ hl' (I.next hB ho v v (Or.inl rfl) fun h => by rw [hw] at h; cases h) h2⟩
      have := h1 hws w hCw
      unfold Oper.quietAt at *
      rwa [hex]
    · rw [if_neg hw]
      have hw' : Region.wanted o (yielded ops r.tmps) = false := by simpa using hw
      exact quiet_of_spec hB hQ l (k + 1) _ _ hl' (I.next hB ho undef v (Or.inr ⟨hw', rfl⟩) fun _ => rfl) h2

/-- a frame whose guarded slots hold whatever they hold -/
def junk (us : Nat → Value) : List Oper → Act → Act
  | [], a => a
  | o :: l, a => junk us l (match o.guard, o.dst with | some _, some d => a.put (some d) (us d) | _, _ => a)
theorem junk_size (us : Nat → Value) : ∀ (l : List Oper) (a : Act), (junk us l a).tmps.size = a.tmps.size ∧ (junk us l a).defers = a.defers
  | [], _ => ⟨rfl, rfl⟩
  | o :: l, a => by
    unfold junk
    have := junk_size us l (match o.guard, o.dst with | some _, some d => a.put (some d) (us d) | _, _ => a)
    rw [this.1, this.2]
    split <;> simp [put_size, put_defers]
theorem junk_getD (us : Nat → Value) (t : Tmp) : ∀ (l : List Oper) (a : Act), (∀ d, d < a.tmps.size → a.tmps.getD t undef = us t ∨ True) →
    (junk us l a).tmps.getD t undef = if (∃ o ∈ l, o.dst = some t ∧ o.guard.isSome = true) ∧ t < a.tmps.size then us t else a.tmps.getD t undef
  | [], a, _ => by simp [junk]
  | o :: l, a, _ => by
    unfold junk
    rw [junk_getD us t l _ (fun _ _ => Or.inr trivial)]
    cases hg : o.guard with
    | none => simp [hg]
    | some g =>
      cases hd : o.dst with
      | none => simp [hd]
      | some d =>
        simp only [put_size, put_getD]
        by_cases hdt : d = t
        · subst hdt
          by_cases hlt : d < a.tmps.size
          · simp [hlt, hg, hd]
          · simp [hlt]
        · have : ¬ (some d = some t) := fun e => hdt (Option.some.inj e)
          simp [hdt, hd]
theorem getD_at (xs : Array Value) (t : Nat) (h : t < xs.size) : xs[t] = xs.getD t undef := by simp [h]
theorem junk_of_agree {l : List Oper} {s r : Act} (h : Agree l.toArray s r) : ∃ us, r = junk us l s := by
  refine ⟨fun t => r.tmps.getD t undef, ?_⟩
  obtain ⟨h1, h2, h3⟩ := h
  have hs := junk_size (fun t => r.tmps.getD t undef) l s
  have : r.tmps = (junk (fun t => r.tmps.getD t undef) l s).tmps := by
    apply Array.ext
    · rw [hs.1, h1]
    · intro t ht ht'
      have hj := junk_getD (fun t => r.tmps.getD t undef) t l s (fun _ _ => Or.inr trivial)
      refine (getD_at _ t ht).trans (Eq.trans ?_ (getD_at _ t ht').symm)
      rw [hj]
      by_cases hc : (∃ o ∈ l, o.dst = some t ∧ o.guard.isSome = true) ∧ t < s.tmps.size
      · rw [if_pos hc]
      · rw [if_neg hc]
        rcases h3 t with h | ⟨o, ho, hd, hg⟩
        · exact h
        · exact absurd ⟨⟨o, by simpa using ho, hd, hg⟩, by rw [← h1]; exact ht⟩ hc
  obtain ⟨rt, rd⟩ := r
  have e : (junk (fun t => rt.getD t undef) l s) = ⟨(junk (fun t => rt.getD t undef) l s).tmps, (junk (fun t => rt.getD t undef) l s).defers⟩ := rfl
  rw [e, ← this, hs.2, ← h2]

theorem wpList_of_quiet {Q : Act → Prop} {Q' : Exit → Act → World → Prop} (hQ : ∀ a w, C w → Q a → Q' .normal a w) : ∀ (l : List Oper) (a : Act) (w : World), C w → wpQuiet P ops C Q l a → wpList P ops Q' l a w
  | [], a, w, hC, h => hQ a w hC h
  | o :: l, a, w, hC, h => by
    unfold wpQuiet at h
    unfold wpList
    split
    · rename_i hw
      rw [if_pos hw] at h
      exact Or.inl (Oper.wp_of_quiet hC (fun a' w' hC' h' => wpList_of_quiet hQ l a' w' hC' h') h)
    · rename_i hw
      rw [if_neg hw] at h
      exact wpList_of_quiet hQ l _ w hC h
end

/-! ### A region whose last operations write, one behind the other -/
section
variable {P : Program} {ops : Array Oper} {md : Region.Mode} {C : World → Prop}
/-- f operations more, all of them ahead of number n, whatever is picked; then L -/
def headAny (P : Program) (md : Region.Mode) (ops : Array Oper) (C : World → Prop) (n : Nat) (L : Array Bool → Act → Prop) : Nat → Array Bool → Act → Prop
  | 0, ls, a => L ls a
  | f + 1, ls, a => Region.ready md ops ls ≠ [] ∧ ∀ i ∈ Region.ready md ops ls, i < n ∧ qOp P ops C i (headAny P md ops C n L f (ls.setIfInBounds i true)) a
theorem any_of_head {n g : Nat} {L : Array Bool → Act → Prop} {Q : Exit → Act → World → Prop} (hL : ∀ ls a w, C w → L ls a → wpAny P md ops Q g ls a w) :
    ∀ (f : Nat) (ls : Array Bool) (a : Act) (w : World), C w → headAny P md ops C n L f ls a → wpAny P md ops Q (f + g) ls a w := by
  intro f
  induction f with
  | zero => intro ls a w hw h; rw [Nat.zero_add]; exact hL _ _ _ hw h
  | succ f ih =>
    intro ls a w hw h
    rw [Nat.succ_add]
    exact ⟨fun h0 => absurd h0 h.1, fun i hi => wpOp_of_qOp hw (fun a' w' hw' h' => ih _ a' w' hw' h') (h.2 i hi).2⟩
/-- what is ready lies ahead of n as long as something there is not done -/
theorem ready_head {n i j : Nat} {ls : Array Bool} (hs : Region.sinkB md ops n = true) (hc : Region.chainB md ops n = true) (hn : n < ops.size) (I : HeadInv md ops n ls) (hi : i < n)
    (hun : ls.getD i true = false) (hj : j ∈ Region.ready md ops ls) : j < n := by
  rcases Nat.lt_or_ge j n with h | h
  · exact h
  · exact absurd hj (tail_waits hs hc hn I _ i rfl hi hun j h)
theorem head_first {n i : Nat} {oi : Oper} {v : Value} {L : Array Bool → Act → Prop} (hi : ops[i]? = some oi) (hsel : ∀ (j : Nat) (o : Oper) cs b, ops[j]? = some o → o.op ≠ .select cs b)
    (hs : Region.sinkB md ops n = true) (hc : Region.chainB md ops n = true) (hn : n < ops.size) (hin : i < n) (hdone : ∀ ls a, L ls a → ∀ j ∈ Region.ready md ops ls, n ≤ j) (f : Nat) :
    ∀ (ls : Array Bool) (a : Act), HeadInv md ops n ls →
      (∀ j oj, ops[j]? = some oj → j ≠ i → ls.getD j true = false → (∀ e ∈ oj.after, Region.binds md e = true → e.on ≠ i) → oi.apart ops oj = true) →
      i ∈ Region.ready md ops ls → YieldsIn P ops C oi v a → headAny P md ops C n L f (ls.setIfInBounds i true) (a.put oi.dst v) → headAny P md ops C n L (f + 1) ls a := by
  induction f with
  | zero =>
    intro ls a I _ hr hy h
    have hun := (mem_ready.1 hr).1
    refine ⟨List.ne_nil_of_mem hr, fun j hj => ⟨ready_head hs hc hn I hin hun hj, ?_⟩⟩
    by_cases hji : j = i
    · subst hji; exact hy.qOp hi h
    · have h1 := hdone _ _ h j (ready_mono hj hji)
      have h2 := ready_head hs hc hn I hin hun hj
      omega
  | succ f ih =>
    intro ls a I hfree hr hy h
    have hun := (mem_ready.1 hr).1
    refine ⟨List.ne_nil_of_mem hr, fun j hj => ?_⟩
    have hjn := ready_head hs hc hn I hin hun hj
    refine ⟨hjn, ?_⟩
    by_cases hji : j = i
    · subst hji; exact hy.qOp hi h
    · have hq := (h.2 j (ready_mono hj hji)).2
      obtain ⟨hjun, oj, hoj, hdone_j⟩ := mem_ready.1 hj
      have hnot : ∀ e ∈ oj.after, Region.binds md e = true → e.on ≠ i := by
        intro e he hb hei
        have h1 := hdone_j e he hb
        rw [hei, getD_both hun] at h1
        cases h1
      have hq2 := qOp_put hoj (hfree j oj hoj hji hjun hnot) (fun cs b => hsel i oi cs b hi) (fun cs b => hsel j oj cs b hoj) hy hq
      refine qOp_mono (fun a' h' => ih (ls.setIfInBounds j true) a' (I.set hj hjn) ?_ (ready_mono hr (Ne.symm hji)) h'.1 ?_) hq2
      · intro k ok hk hki hkun hno
        refine hfree k ok hk hki ?_ hno
        by_cases hjk : j = k
        · subst hjk; exact hjun
        · rwa [getD_set_ne true hjk] at hkun
      · rw [Array.setIfInBounds_comm _ _ hji]; exact h'.2
theorem head_lex {n g : Nat} {Lq : Act → Prop} (hsel : Region.noSelect ops = true) (hs : Region.sinkB md ops n = true) (hc : Region.chainB md ops n = true) (hn : n < ops.size) :
    ∀ (l : List Oper) (k : Nat) (ls : Array Bool) (a : Act), (∀ j, j < l.length → l[j]? = ops[k + j]?) → k + l.length = n → HeadInv md ops n ls →
      Region.lexHead md ops g l.length k ls = true → wpQuiet P ops C Lq l a → headAny P md ops C n (fun ls' a' => Region.seqB md ops g n ls' = true ∧ Lq a') l.length ls a := by
  intro l
  induction l with
  | nil =>
    intro k ls a _ hk _ hB h
    obtain rfl : k = n := by simpa using hk
    exact ⟨by simpa [Region.lexHead] using hB, h⟩
  | cons o l ih =>
    intro k ls a hl hk I hB h
    have ho : ops[k]? = some o := by simpa using (hl 0 (by simp)).symm
    simp only [List.length_cons, Region.lexHead, Bool.and_eq_true] at hB
    have hkn : k < n := by simp only [List.length_cons] at hk; omega
    have hr : k ∈ Region.ready md ops ls := by simpa using hB.1.1
    have hq : qOp P ops C k (wpQuiet P ops C Lq l) a := by unfold qOp; simp only [ho]; exact h
    obtain ⟨v, hy, hK⟩ := yieldsIn_of_qOp ho hq
    refine head_first ho (Region.noSelect_spec hsel) hs hc hn hkn (fun ls' a' hL => seqB_ready hL.1) l.length ls a I (Region.free_spec ho hB.1.2) hr hy ?_
    exact ih (k + 1) _ _ (fun j hj => by have := hl (j + 1) (by simpa using hj); simpa [Nat.add_assoc, Nat.add_comm 1 j] using this) (by simp only [List.length_cons] at hk; omega) (I.set hr hkn) hB.2 hK
/-- reads and quiet calls in whatever order, then the last operations one behind the other -/
theorem wp_region_tail {id : Nat} {Q : Exit → Act → World → Prop} {a : Act} {w : World} {l : List Oper} (n : Nat) (hm : P.follows .mixedOrders = true) (hB : Region.lexTailB .any l.toArray n = true) (hC : C { w with drawn := w.drawn + 1 })
    (h : wpQuiet P l.toArray C (fun a' => ∀ w', C w' → wpList P l.toArray Q (l.drop n) a' w') (l.take n) a) : (Code.region id l.toArray true).wp P Q a w := by
  simp only [Region.lexTailB, Bool.and_eq_true, decide_eq_true_eq] at hB
  obtain ⟨⟨⟨⟨hsel, hn⟩, hs⟩, hc⟩, hlex⟩ := hB
  have hn' : n < l.length := by simpa using hn
  have htl : (l.take n).length = n := by simp; omega
  have hdl : (l.drop n).length = l.toArray.size - n := by simp
  have I0 : HeadInv .any l.toArray n (Array.replicate l.toArray.size false) :=
    ⟨by simp, fun j oj _ hj => (by rw [getD_replicate_false] at hj; cases hj), fun t _ ht => getD_in (by simpa using ht) (getD_replicate_false _ _)⟩
  have H := head_lex (md := .any) (g := l.toArray.size - n) hsel hs hc hn (l.take n) 0 _ a (fun j hj => by
    have hj' : j < n := by rw [htl] at hj; exact hj
    simp [hj']) (by simpa using htl) I0 (by rw [htl]; exact hlex) h
  have hfin := any_of_head (Q := Q) (g := l.toArray.size - n) (fun ls a' w' hw' hL => by
    have := wpAny_of_seq (md := .any) (Q' := Q) (l.drop n) n ls a' w' (fun j => by simp [List.getElem?_drop]) (by rw [hdl]; exact hL.1) (hL.2 w' hw')
    rwa [hdl] at this) _ _ _ { w with drawn := w.drawn + 1 } hC H
  rw [htl, show n + (l.toArray.size - n) = l.toArray.size by omega] at hfin
  exact wp_region_any hm hfin
theorem wpList_append {l₂ : List Oper} {Q : Exit → Act → World → Prop} {Qm : Act → Prop} (hQ : ∀ a w, C w → Qm a → wpList P ops Q l₂ a w) : ∀ (l : List Oper) (a : Act) (w : World), C w → wpQuiet P ops C Qm l a → wpList P ops Q (l ++ l₂) a w
  | [], a, w, hC, h => hQ a w hC h
  | o :: l, a, w, hC, h => by
    unfold wpQuiet at h
    rw [List.cons_append]
    unfold wpList
    split
    · rename_i hw
      rw [if_pos hw] at h
      exact Or.inl (Oper.wp_of_quiet hC (fun a' w' hC' h' => wpList_append hQ l a' w' hC' h') h)
    · rename_i hw
      rw [if_neg hw] at h
      exact wpList_append hQ l _ w hC h
end

/-- A region of one order, without calls that make memory: the world stays. -/
theorem wp_spec {P : Program} {id : Nat} {Q : Exit → Act → World → Prop} {a : Act} {w : World} {l : List Oper} (hS : specB l.toArray = true)
    (h : wpSpec P l.toArray (fun w' => w' = w) (fun a' => ∀ us, Q .normal (junk us l a') w) l a) : (Code.region id l.toArray false).wp P Q a w := by
  refine wp_region_lit (wpList_of_quiet (C := fun w' => w' = w) (Q := fun a' => Q .normal a' w) (fun a' w' hw' h' => by subst hw'; exact h') l a w rfl ?_)
  refine quiet_of_spec hS (fun s r hA hs => ?_) l 0 a a (by simp) (Inv.start a) h
  obtain ⟨us, rfl⟩ := junk_of_agree hA
  exact hs us
/-- A region of one order, with calls that make memory. -/
theorem wp_spec_ext {P : Program} {id : Nat} {Q : Exit → Act → World → Prop} {a : Act} {w : World} {l : List Oper} (hS : specB l.toArray = true)
    (h : wpSpec P l.toArray (fun w' => ∃ d, w' = ext w d) (fun a' => ∀ us w', Below w.heap.size w w' → Q .normal (junk us l a') w') l a) : (Code.region id l.toArray false).wp P Q a w := by
  refine wp_region_lit (wpList_of_quiet (C := fun w' => ∃ d, w' = ext w d) (Q := fun a' => ∀ w', Below w.heap.size w w' → Q .normal a' w') (fun a' w' ⟨d, hd⟩ h' => h' w' (hd ▸ ext_below w d)) l a w ⟨w, (ext_of (Below.refl _ _)).symm⟩ ?_)
  refine quiet_of_spec hS (fun s r hA hs => ?_) l 0 a a (by simp) (Inv.start a) h
  obtain ⟨us, rfl⟩ := junk_of_agree hA
  exact hs us
/-- A region that draws its order. -/
theorem wp_spec_draw {P : Program} {id : Nat} {Q : Exit → Act → World → Prop} {a : Act} {w : World} {l : List Oper} (hm : P.follows .mixedOrders = true) (hB : Region.lexB .any l.toArray = true) (hS : specB l.toArray = true)
    (h : wpSpec P l.toArray (fun w' => ∃ d, w' = ext w d) (fun a' => ∀ us w', Below w.heap.size w w' → Q .normal (junk us l a') w') l a) : (Code.region id l.toArray true).wp P Q a w := by
  refine wp_region_ext hm hB ?_
  refine quiet_of_spec hS (fun s r hA hs => ?_) l 0 a a (by simp) (Inv.start a) h
  obtain ⟨us, rfl⟩ := junk_of_agree hA
  exact hs us
/-- reads and calls first, then the last operations (from number n on), in their order -/
theorem wp_spec_tail {P : Program} {id : Nat} {Q : Exit → Act → World → Prop} {a : Act} {w : World} {l : List Oper} (n : Nat) (hS : specB l.toArray = true)
    (h : wpSpec P l.toArray (fun w' => ∃ d, w' = ext w d) (fun a' => ∀ us w', Below w.heap.size w w' → wpList P l.toArray Q (l.drop n) (junk us l a') w') (l.take n) a) : (Code.region id l.toArray false).wp P Q a w := by
  refine wp_region_lit ?_
  have key := wpList_append (C := fun w' => ∃ d, w' = ext w d) (P := P) (ops := l.toArray) (Q := Q) (l₂ := l.drop n) (Qm := fun a' => ∀ w', Below w.heap.size w w' → wpList P l.toArray Q (l.drop n) a' w')
    (fun a' w' ⟨d, hd⟩ h' => h' w' (hd ▸ ext_below w d)) (l.take n) a w ⟨w, (ext_of (Below.refl _ _)).symm⟩ ?_
  · rwa [List.take_append_drop] at key
  · refine quiet_of_spec hS (fun s r hA hs => ?_) (l.take n) 0 a a (fun j hj => ?_) (Inv.start a) h
    · obtain ⟨us, rfl⟩ := junk_of_agree hA
      exact hs us
    · have hj' : j < n := by simp at hj; omega
      simp [hj']
theorem wp_spec_draw_tail {P : Program} {id : Nat} {Q : Exit → Act → World → Prop} {a : Act} {w : World} {l : List Oper} (n : Nat) (hm : P.follows .mixedOrders = true) (hB : Region.lexTailB .any l.toArray n = true) (hS : specB l.toArray = true)
    (h : wpSpec P l.toArray (fun w' => ∃ d, w' = ext w d) (fun a' => ∀ us w', Below w.heap.size w w' → wpList P l.toArray Q (l.drop n) (junk us l a') w') (l.take n) a) : (Code.region id l.toArray true).wp P Q a w := by
  refine wp_region_tail (C := fun w' => ∃ d, w' = ext w d) n hm hB ⟨_, (ext_of (Below.refl _ w).drew).symm⟩ ?_
  refine quiet_of_spec hS (fun s r hA hs => ?_) (l.take n) 0 a a (fun j hj => ?_) (Inv.start a) h
  · obtain ⟨us, rfl⟩ := junk_of_agree hA
    exact fun w' ⟨d, hd⟩ => hs us w' (hd ▸ ext_below w d)
  · have hj' : j < n := by simp at hj; omega
    simp [hj']
end Go.Proofs.Ytjpcchipejmocaa
