/-
  Layer 12 (expr) in plain words: what an expression comes to, and what follows from that.
-/
import Derived.Test.YtjpcchipejmocaaPolH
import Derived.Test.YtjpcchipejmocaaAskS
namespace Go.Proofs.Ytjpcchipejmocaa
open Go.RowKit

theorem eStep_pre {p l l' : List Bool} {n : Nod} (h : stepS l n = some l') : stepS (p ++ l) n = some (p ++ l') := by
  unfold stepS at h ⊢
  cases hw : wantsS n.op with
  | none => rw [hw] at h; cases h
  | some w =>
    rw [hw] at h
    simp only at h ⊢
    split at h
    · rename_i hc
      obtain ⟨h1, h2, h3⟩ := hc
      cases h
      have e1 : (p ++ l).length - w.length = p.length + (l.length - w.length) := by simp; omega
      rw [if_pos ⟨h1, by simp; omega, by rw [e1, List.drop_append, List.drop_of_length_le (by omega), List.nil_append, ← h3]; congr 1; simp; omega⟩, e1, List.take_append, List.take_of_length_le (by omega)]
      simp
    · cases h
theorem eSteps_pre {p : List Bool} : ∀ {r : List Nod} {l m : List Bool}, stepsS l r = some m → stepsS (p ++ l) r = some (p ++ m)
  | [], l, m, h => by cases h; rfl
  | n :: r, l, m, h => by
    rw [stepsS] at h ⊢
    cases hs : stepS l n with
    | none => rw [hs] at h; cases h
    | some l' =>
      rw [hs] at h
      rw [eStep_pre hs]
      exact eSteps_pre h
theorem eSteps_append : ∀ {a b : List Nod} {l m : List Bool}, stepsS l a = some m → stepsS l (a ++ b) = stepsS m b
  | [], b, l, m, h => by cases h; rfl
  | n :: r, b, l, m, h => by
    rw [stepsS] at h
    rw [List.cons_append, stepsS]
    cases hs : stepS l n with
    | none => rw [hs] at h; cases h
    | some l' => rw [hs] at h; exact eSteps_append h
theorem eExpr_made {a : List Nod} (h : exprS a = 0) (hn : a ≠ []) : stepsS [] a = some [false] ∧ a.length ≤ 32 := by
  unfold exprS at h
  split at h
  · cases h
  · cases hs : stepsS [] a with
    | none => rw [hs] at h; cases h
    | some m =>
      rw [hs] at h
      simp only at h
      split at h
      · rename_i hc
        rcases hc with hc | hc
        · exact absurd hc hn
        · subst hc; exact ⟨rfl, by omega⟩
      · cases h

structure Itm where
  bag : List Val
  v : Val
  e : Int
def Itm.pv (x : Itm) : List PV := [valsP x.bag, pI x.v.kind, pI x.v.n, pS x.v.s, pI x.e]
def noItm : Itm := ⟨[], noVal, 0⟩
def itmT (b : Bool) : Itm := ⟨[], truthS b, 0⟩
def isT (v : Val) (n : Int) : Bool := sameV v ⟨1, n, ⟨#[]⟩⟩
def Itm.is (x : Itm) (n : Int) : Bool := decide (x.e = 0) && isT x.v n
def operandsS (op : Int) : Nat := if op = 1 ∨ op = 2 then 0 else if op = 3 ∨ op = 4 ∨ op = 11 then 1 else 2
def decS (op : Int) (l : List Itm) : Bool := (decide (op = 12) || decide (op = 13)) && ((l.getD 0 noItm).is (op - 12) || (l.getD 1 noItm).is (op - 12))
/-- the first error -/
def errS : List Itm → Int
  | [] => 0
  | x :: r => if x.e = 0 then errS r else x.e
def hasV (l : List Val) (v : Val) : Bool := l.any fun x => sameV v x
def lastS (op : Int) (l : List Itm) : Itm :=
  if op = 3 then (if (l.getD 0 noItm).bag.length = 1 then ⟨[], (l.getD 0 noItm).bag.getD 0 noVal, 0⟩ else ⟨[], noVal, 4⟩)
  else if op = 4 then ⟨[], ⟨2, (l.getD 0 noItm).bag.length, ⟨#[]⟩⟩, 0⟩
  else if op = 5 then itmT (hasV (l.getD 0 noItm).bag (l.getD 1 noItm).v)
  else ⟨[], (callS op (l.map Itm.v)).1, (callS op (l.map Itm.v)).2⟩
def nodeS (n : Nod) (l : List Itm) (g : List Giv) : Itm :=
  if n.op = 1 then ⟨[], n.val, 0⟩
  else if n.op = 2 then ⟨(getS n.attr g).1, noVal, (getS n.attr g).2⟩
  else if decS n.op l then itmT (decide (n.op = 13))
  else if errS l ≠ 0 then ⟨[], noVal, errS l⟩
  else lastS n.op l
def stepI (g : List Giv) (s : List Itm) (n : Nod) : List Itm := s.take (s.length - operandsS n.op) ++ [nodeS n (s.drop (s.length - operandsS n.op)) g]
def evalI (g : List Giv) (l : List Nod) : List Itm := l.foldl (stepI g) []
def valueS (l : List Nod) (g : List Giv) : Val × Int :=
  if l = [] ∨ exprS l ≠ 0 then (noVal, 1) else (((evalI g l).getD 0 noItm).v, ((evalI g l).getD 0 noItm).e)
def condV (x : Val × Int) : Int := if (Itm.mk [] x.1 x.2).is 1 then 2 else if (Itm.mk [] x.1 x.2).is 0 then 0 else 1
def condS (l : List Nod) (g : List Giv) : Int := if l = [] then 2 else condV (valueS l g)

theorem operandsS_wants {op : Int} {w : List Bool} (h : wantsS op = some w) : w.length = operandsS op := by
  unfold wantsS at h
  unfold operandsS
  repeat' split at h
  all_goals (cases h; try (simp; try omega))
  all_goals (try (split <;> simp_all <;> omega))
theorem stepI_len {g : List Giv} {s : List Itm} {n : Nod} {l l' : List Bool} (hl : s.length = l.length) (h : stepS l n = some l') : (stepI g s n).length = l'.length ∧ operandsS n.op ≤ s.length := by
  unfold stepS at h
  split at h
  · cases h
  · rename_i w hw
    split at h
    · rename_i hc
      cases h
      have := operandsS_wants hw
      simp only [stepI, List.length_append, List.length_take, List.length_singleton]
      omega
    · cases h
theorem evalI_len {g : List Giv} : ∀ {r : List Nod} {s : List Itm} {l l' : List Bool}, s.length = l.length → stepsS l r = some l' → (r.foldl (stepI g) s).length = l'.length
  | [], s, l, l', hl, h => by cases h; exact hl
  | n :: r, s, l, l', hl, h => by
    rw [stepsS] at h
    cases hs : stepS l n with
    | none => rw [hs] at h; cases h
    | some m =>
      rw [hs] at h
      rw [List.foldl_cons]
      exact evalI_len (s := stepI g s n) (l := m) (stepI_len (g := g) hl hs).1 h
theorem stepI_pre {g : List Giv} {p s : List Itm} {n : Nod} (h : operandsS n.op ≤ s.length) : stepI g (p ++ s) n = p ++ stepI g s n := by
  have e : (p ++ s).length - operandsS n.op = p.length + (s.length - operandsS n.op) := by simp; omega
  unfold stepI
  rw [e, List.take_append, List.drop_append, List.take_of_length_le (by omega), List.drop_of_length_le (by omega)]
  simp
theorem foldI_pre {g : List Giv} {p : List Itm} : ∀ {r : List Nod} {s : List Itm} {l l' : List Bool}, s.length = l.length → stepsS l r = some l' → r.foldl (stepI g) (p ++ s) = p ++ r.foldl (stepI g) s
  | [], s, l, l', hl, h => rfl
  | n :: r, s, l, l', hl, h => by
    rw [stepsS] at h
    cases hs : stepS l n with
    | none => rw [hs] at h; cases h
    | some m =>
      rw [hs] at h
      have h1 := stepI_len (g := g) hl hs
      rw [List.foldl_cons, List.foldl_cons, stepI_pre h1.2]
      exact foldI_pre h1.1 h
/-- an expression that is right comes to one thing -/
theorem evalI_one {g : List Giv} {l : List Nod} (h : exprS l = 0) (hn : l ≠ []) : ∃ x, evalI g l = [x] := by
  have h1 := evalI_len (g := g) (s := []) (l := []) rfl (eExpr_made h hn).1
  exact List.length_eq_one_iff.1 h1
theorem valueS_one {g : List Giv} {l : List Nod} {x : Itm} (h : exprS l = 0) (hn : l ≠ []) (hx : evalI g l = [x]) : valueS l g = (x.v, x.e) := by
  unfold valueS
  rw [if_neg (by simp [h, hn]), hx]; rfl
/-- two expressions behind each other -/
theorem evalI_two {g : List Giv} {a b : List Nod} {x y : Itm} (ha : exprS a = 0) (na : a ≠ []) (hb : exprS b = 0) (nb : b ≠ []) (hx : evalI g a = [x]) (hy : evalI g b = [y]) : evalI g (a ++ b) = [x, y] := by
  unfold evalI at hx hy ⊢
  rw [List.foldl_append, hx]
  have := foldI_pre (g := g) (p := [x]) (s := []) (l := []) rfl (eExpr_made hb nb).1
  rw [List.append_nil] at this
  rw [this, hy]; rfl
theorem evalI_op {g : List Giv} {a : List Nod} {s : List Itm} (n : Nod) (hs : evalI g a = s) : evalI g (a ++ [n]) = stepI g s n := by
  unfold evalI at hs ⊢
  rw [List.foldl_append, hs]; rfl
def nOpE (n : Int) : Nod := ⟨n, noVal, ⟨0, ⟨#[]⟩, false⟩⟩
theorem exprS_not {a : List Nod} (ha : exprS a = 0) (na : a ≠ []) (hl : a.length ≤ 31) : exprS (a ++ [nOpE 11]) = 0 := by
  obtain ⟨h1, _⟩ := eExpr_made ha na
  have h5 : stepsS [] (a ++ [nOpE 11]) = some [false] := by rw [eSteps_append h1]; rfl
  unfold exprS
  rw [h5, if_neg (by simp; omega)]; simp
theorem exprS_two {a b : List Nod} (ha : exprS a = 0) (hb : exprS b = 0) (na : a ≠ []) (nb : b ≠ []) (hl : a.length + b.length ≤ 31) {f : Int} (hf : f = 12 ∨ f = 13) : exprS (a ++ b ++ [nOpE f]) = 0 := by
  obtain ⟨h1, _⟩ := eExpr_made ha na
  obtain ⟨h2, _⟩ := eExpr_made hb nb
  have h3 : stepsS [] (a ++ b) = some [false, false] := by rw [eSteps_append h1]; exact eSteps_pre (p := [false]) h2
  have h5 : stepsS [] (a ++ b ++ [nOpE f]) = some [false] := by
    rw [eSteps_append h3]
    rcases hf with rfl | rfl <;> rfl
  unfold exprS
  rw [h5, if_neg (by simp; omega)]; simp
theorem isT_iff {v : Val} {n : Int} : isT v n = true ↔ v = ⟨1, n, ⟨#[]⟩⟩ := by
  cases v
  simp [isT, sameV, and_assoc]
theorem call_truth {op : Int} {l : List Val} (ho : op = 11 ∨ op = 12 ∨ op = 13) (h : (callS op l).2 = 0) : ∀ v ∈ l, v = ⟨1, 0, ⟨#[]⟩⟩ ∨ v = ⟨1, 1, ⟨#[]⟩⟩ := by
  have key : mayS op l = true ∧ allS 1 l = true := by
    unfold callS at h
    cases hm : mayS op l with
    | false => rw [hm] at h; simp at h
    | true =>
      refine ⟨rfl, ?_⟩
      cases ha : allS 1 l with
      | true => rfl
      | false => rw [hm, ha] at h; rcases ho with rfl | rfl | rfl <;> simp at h
  intro v hv
  obtain ⟨h1, h2⟩ := key
  simp only [mayS, Bool.and_eq_true] at h1
  have hr := List.all_eq_true.1 h1.2 v hv
  have hk := of_decide_eq_true (List.all_eq_true.1 h2 v hv)
  obtain ⟨k, n, s⟩ := v
  simp only at hk
  subst hk
  simp only [Val.right, if_true, Bool.and_eq_true, Bool.or_eq_true, decide_eq_true_eq] at hr
  have : s = ⟨#[]⟩ := by have := hr.2; rw [← empty_size] at this; exact this
  subst this
  rcases hr.1 with rfl | rfl
  · exact .inl rfl
  · exact .inr rfl
theorem number_err {f : Int → Int → Int × Int} {a b : Val} (h : (numberS f a b).2 ≠ 0) : (numberS f a b).1 = noVal := by
  unfold numberS at h ⊢
  by_cases h1 : a.kind ≠ 2 ∨ b.kind ≠ 2
  · rw [if_pos h1]
  · rw [if_neg h1] at h ⊢
    by_cases h2 : (f a.n b.n).2 ≠ 0
    · rw [if_pos h2]
    · rw [if_neg h2] at h; exact absurd rfl h
theorem call_err {op : Int} {l : List Val} (h : (callS op l).2 ≠ 0) : (callS op l).1 = noVal := by
  unfold callS at h ⊢
  cases hm : !mayS op l with
  | true => rfl
  | false =>
    rw [hm] at h
    simp only [Bool.false_eq_true, if_false] at h ⊢
    by_cases h6 : op = 6
    · rw [if_pos h6] at h ⊢
      by_cases hk : (l.getD 0 noVal).kind ≠ (l.getD 1 noVal).kind
      · rw [if_pos hk]
      · rw [if_neg hk] at h; exact absurd rfl h
    rw [if_neg h6] at h ⊢
    by_cases h7 : op = 7
    · rw [if_pos h7] at h ⊢
      by_cases hk : (lessS (l.getD 0 noVal) (l.getD 1 noVal)).2 ≠ 0
      · rw [if_pos hk]
      · rw [if_neg hk] at h; exact absurd rfl h
    rw [if_neg h7] at h ⊢
    by_cases h8 : op = 8
    · rw [if_pos h8] at h ⊢; exact number_err h
    rw [if_neg h8] at h ⊢
    by_cases h9 : op = 9
    · rw [if_pos h9] at h ⊢; exact number_err h
    rw [if_neg h9] at h ⊢
    by_cases h10 : op = 10
    · rw [if_pos h10] at h ⊢; exact number_err h
    rw [if_neg h10] at h ⊢
    by_cases ha : (!allS 1 l) = true
    · rw [if_pos ha]
    rw [if_neg ha] at h ⊢
    by_cases h11 : op = 11
    · rw [if_pos h11] at h; exact absurd rfl h
    rw [if_neg h11] at h ⊢
    by_cases h12 : op = 12
    · rw [if_pos h12] at h; exact absurd rfl h
    · rw [if_neg h12] at h; exact absurd rfl h
theorem cond_is {x : Itm} : condV (x.v, x.e) = if x.is 1 then 2 else if x.is 0 then 0 else 1 := rfl
theorem is_mk {x : Itm} {n : Int} : x.is n = true ↔ x.e = 0 ∧ x.v = ⟨1, n, ⟨#[]⟩⟩ := by
  unfold Itm.is
  rw [Bool.and_eq_true, decide_eq_true_eq, isT_iff]
theorem is_ex {x : Itm} (h1 : x.is 1 = true) (h0 : x.is 0 = true) : False := by
  have := (is_mk.1 h1).2
  rw [(is_mk.1 h0).2] at this
  cases this
/-- Kleene's three truths -/
theorem cond_not (x : Itm) (g : List Giv) : (let y := nodeS (nOpE 11) [x] g; condV (y.v, y.e)) = 2 - condV (x.v, x.e) := by
  have e : nodeS (nOpE 11) [x] g = if x.e ≠ 0 then ⟨[], noVal, x.e⟩ else ⟨[], (callS 11 [x.v]).1, (callS 11 [x.v]).2⟩ := by
    unfold nodeS lastS decS errS errS nOpE
    simp only [Int.reduceEq, if_false, decide_false, Bool.or_self, Bool.false_and, Bool.false_eq_true]
    by_cases h : x.e = 0 <;> simp [h]
  simp only [e]
  by_cases h : x.e = 0
  · rw [if_neg (by simp [h])]
    by_cases hc : (callS 11 [x.v]).2 = 0
    · rcases call_truth (.inl rfl) hc x.v (by simp) with hv | hv
      · rw [hv, h]; rfl
      · rw [hv, h]; rfl
    · have h1 : x.is 1 = false := by
        cases hi : x.is 1 with
        | false => rfl
        | true => exfalso; apply hc; rw [(is_mk.1 hi).2]; rfl
      have h0 : x.is 0 = false := by
        cases hi : x.is 0 with
        | false => rfl
        | true => exfalso; apply hc; rw [(is_mk.1 hi).2]; rfl
      rw [cond_is (x := x), h1, h0]
      simp [condV, Itm.is, hc]
  · rw [if_pos h]
    simp [condV, Itm.is, h]
theorem cond_two (op : Int) (ho : op = 12 ∨ op = 13) (x y : Itm) (g : List Giv) : (let z := nodeS (nOpE op) [x, y] g; condV (z.v, z.e)) = if op = 12 then min (condV (x.v, x.e)) (condV (y.v, y.e)) else max (condV (x.v, x.e)) (condV (y.v, y.e)) := by
  have e : nodeS (nOpE op) [x, y] g = if x.is (op - 12) || y.is (op - 12) then itmT (decide (op = 13)) else if x.e ≠ 0 then ⟨[], noVal, x.e⟩ else if y.e ≠ 0 then ⟨[], noVal, y.e⟩ else ⟨[], (callS op [x.v, y.v]).1, (callS op [x.v, y.v]).2⟩ := by
    have h1 : ¬ op = 1 := by omega
    have h2 : ¬ op = 2 := by omega
    have h3 : ¬ op = 3 := by omega
    have h4 : ¬ op = 4 := by omega
    have h5 : ¬ op = 5 := by omega
    have hd : (decide (op = 12) || decide (op = 13)) = true := by rcases ho with rfl | rfl <;> rfl
    have hopn : (nOpE op).op = op := rfl
    have hx : errS [x, y] = if x.e = 0 then (if y.e = 0 then 0 else y.e) else x.e := rfl
    unfold nodeS lastS decS
    rw [hopn, hx, hd]
    simp only [h1, h2, h3, h4, h5, if_false, Bool.true_and, List.getD_cons_zero, List.getD_cons_succ, List.map_cons, List.map_nil]
    by_cases hxe : x.e = 0 <;> by_cases hye : y.e = 0 <;> simp [hxe, hye]
  simp only [e]
  have c3 : ∀ z : Itm, condV (z.v, z.e) = if z.is 1 then 2 else if z.is 0 then 0 else 1 := fun z => rfl
  have ce : ∀ z : Int, z ≠ 0 → condV (noVal, z) = 1 := fun z hz => by simp [condV, Itm.is, hz]
  have ct : ∀ b, condV ((itmT b).v, (itmT b).e) = if b then 2 else 0 := fun b => by cases b <;> rfl
  cases hx : x.is (op - 12) with
  | true =>
    rw [Bool.true_or, if_pos rfl, ct, c3 x, c3 y]
    rcases ho with rfl | rfl
    · have h1 : x.is 1 = false := by cases h : x.is 1 with | false => rfl | true => exact (is_ex h hx).elim
      rw [show x.is 0 = true from hx, h1]; simp; (repeat' split) <;> omega
    · rw [show x.is 1 = true from hx]; simp; (repeat' split) <;> omega
  | false =>
    cases hy : y.is (op - 12) with
    | true =>
      rw [Bool.false_or, if_pos rfl, ct, c3 x, c3 y]
      rcases ho with rfl | rfl
      · have h1 : y.is 1 = false := by cases h : y.is 1 with | false => rfl | true => exact (is_ex h hy).elim
        rw [show y.is 0 = true from hy, h1]; simp; (repeat' split) <;> omega
      · rw [show y.is 1 = true from hy]; simp; (repeat' split) <;> omega
    | false =>
      rw [Bool.false_or, if_neg (by simp)]
      have un : ∀ z : Itm, z.e ≠ 0 → z.is 1 = false ∧ z.is 0 = false := fun z hz => by simp [Itm.is, hz]
      by_cases hxe : x.e = 0
      · rw [if_neg (by simp [hxe])]
        by_cases hye : y.e = 0
        · rw [if_neg (by simp [hye])]
          by_cases hc : (callS op [x.v, y.v]).2 = 0
          · have ho' : op = 11 ∨ op = 12 ∨ op = 13 := .inr ho
            have hvx := call_truth ho' hc x.v (by simp)
            have hvy := call_truth ho' hc y.v (by simp)
            rcases ho with rfl | rfl
            · have hx : x.is 0 = false := hx
              have hy : y.is 0 = false := hy
              have hvx : x.v = ⟨1, 1, ⟨#[]⟩⟩ := hvx.resolve_left fun h => by rw [is_mk.2 ⟨hxe, h⟩] at hx; cases hx
              have hvy : y.v = ⟨1, 1, ⟨#[]⟩⟩ := hvy.resolve_left fun h => by rw [is_mk.2 ⟨hye, h⟩] at hy; cases hy
              rw [hvx, hvy, hxe, hye]; rfl
            · have hx : x.is 1 = false := hx
              have hy : y.is 1 = false := hy
              have hvx : x.v = ⟨1, 0, ⟨#[]⟩⟩ := hvx.resolve_right fun h => by rw [is_mk.2 ⟨hxe, h⟩] at hx; cases hx
              have hvy : y.v = ⟨1, 0, ⟨#[]⟩⟩ := hvy.resolve_right fun h => by rw [is_mk.2 ⟨hye, h⟩] at hy; cases hy
              rw [hvx, hvy, hxe, hye]; rfl
          · have hne : ¬ ((x.is 0 = true ∨ x.is 1 = true) ∧ (y.is 0 = true ∨ y.is 1 = true)) := by
              rintro ⟨h1, h2⟩
              apply hc
              have hvx : x.v = ⟨1, 0, ⟨#[]⟩⟩ ∨ x.v = ⟨1, 1, ⟨#[]⟩⟩ := h1.imp (fun h => (is_mk.1 h).2) (fun h => (is_mk.1 h).2)
              have hvy : y.v = ⟨1, 0, ⟨#[]⟩⟩ ∨ y.v = ⟨1, 1, ⟨#[]⟩⟩ := h2.imp (fun h => (is_mk.1 h).2) (fun h => (is_mk.1 h).2)
              rcases ho with rfl | rfl <;> rcases hvx with h | h <;> rcases hvy with h' | h' <;> rw [h, h'] <;> rfl
            rw [show condV ((Itm.mk [] (callS op [x.v, y.v]).1 (callS op [x.v, y.v]).2).v, (Itm.mk [] (callS op [x.v, y.v]).1 (callS op [x.v, y.v]).2).e) = 1 from by simp [condV, Itm.is, hc], c3 x, c3 y]
            rcases ho with rfl | rfl
            · have hx : x.is 0 = false := hx
              have hy : y.is 0 = false := hy
              rw [hx, hy] at hne ⊢
              cases h1 : x.is 1 <;> cases h2 : y.is 1 <;> (try simp_all) <;> (try omega)
            · have hx : x.is 1 = false := hx
              have hy : y.is 1 = false := hy
              rw [hx, hy] at hne ⊢
              cases h1 : x.is 0 <;> cases h2 : y.is 0 <;> (try simp_all) <;> (try omega)
        · rw [if_pos hye, ce _ hye, c3 x, c3 y, (un y hye).1, (un y hye).2]
          rcases ho with rfl | rfl
          · have hx : x.is 0 = false := hx
            rw [hx]; simp; split <;> omega
          · have hx : x.is 1 = false := hx
            rw [hx]; simp; split <;> omega
      · rw [if_pos hxe, ce _ hxe, c3 x, c3 y, (un x hxe).1, (un x hxe).2]
        rcases ho with rfl | rfl
        · have hy : y.is 0 = false := hy
          rw [hy]; simp; split <;> omega
        · have hy : y.is 1 = false := hy
          rw [hy]; simp; split <;> omega

/-! ### What an expression doesn't ask for doesn't matter -/
theorem nodeS_same {n : Nod} {s : List Itm} {g g' : List Giv} (h : n.op = 2 → getS n.attr g = getS n.attr g') : nodeS n s g = nodeS n s g' := by
  unfold nodeS
  by_cases h2 : n.op = 2
  · rw [h h2]
  · simp only [h2, if_false]
theorem foldI_same {g g' : List Giv} : ∀ {l : List Nod} {s : List Itm} (_ : ∀ n ∈ l, n.op = 2 → getS n.attr g = getS n.attr g'), l.foldl (stepI g) s = l.foldl (stepI g') s
  | [], s, h => rfl
  | n :: r, s, h => by
    rw [List.foldl_cons, List.foldl_cons]
    have : stepI g s n = stepI g' s n := by unfold stepI; rw [nodeS_same (h n (by simp))]
    rw [this, foldI_same fun m hm => h m (List.mem_cons_of_mem _ hm)]
theorem valueS_same {g g' : List Giv} {l : List Nod} (h : ∀ n ∈ l, n.op = 2 → getS n.attr g = getS n.attr g') : valueS l g = valueS l g' := by
  unfold valueS evalI
  rw [foldI_same h]
theorem nodeS_err {n : Nod} {s : List Itm} {g : List Giv} (h : (nodeS n s g).e ≠ 0) : (nodeS n s g).v = noVal := by
  unfold nodeS at h ⊢
  by_cases h1 : n.op = 1
  · rw [if_pos h1] at h; exact absurd rfl h
  rw [if_neg h1] at h ⊢
  by_cases h2 : n.op = 2
  · rw [if_pos h2]
  rw [if_neg h2] at h ⊢
  by_cases h3 : decS n.op s = true
  · rw [if_pos h3] at h; exact absurd rfl h
  rw [if_neg h3] at h ⊢
  by_cases h4 : errS s ≠ 0
  · rw [if_pos h4]
  rw [if_neg h4] at h ⊢
  unfold lastS at h ⊢
  by_cases h5 : n.op = 3
  · rw [if_pos h5] at h ⊢
    by_cases h6 : (s.getD 0 noItm).bag.length = 1
    · rw [if_pos h6] at h; exact absurd rfl h
    · rw [if_neg h6]
  rw [if_neg h5] at h ⊢
  by_cases h6 : n.op = 4
  · rw [if_pos h6] at h; exact absurd rfl h
  rw [if_neg h6] at h ⊢
  by_cases h7 : n.op = 5
  · rw [if_pos h7] at h; exact absurd rfl h
  rw [if_neg h7] at h ⊢
  exact call_err h
theorem valueS_err {l : List Nod} {g : List Giv} (h : (valueS l g).2 ≠ 0) : (valueS l g).1 = noVal := by
  by_cases hc : l = [] ∨ exprS l ≠ 0
  · unfold valueS; rw [if_pos hc]
  · have h0 : exprS l = 0 := Classical.byContradiction fun h => hc (.inr h)
    have hn : l ≠ [] := fun h => hc (.inl h)
    obtain ⟨x, hx⟩ := evalI_one (g := g) h0 hn
    rw [valueS_one h0 hn hx] at h ⊢
    obtain ⟨r, n, rfl⟩ : ∃ r n, l = r ++ [n] := ⟨l.dropLast, l.getLast hn, (List.dropLast_concat_getLast hn).symm⟩
    have h1 := evalI_op (g := g) (a := r) n rfl
    rw [hx] at h1
    unfold stepI at h1
    have h2 := congrArg List.length h1
    simp only [List.length_singleton, List.length_append] at h2
    have h3 : (evalI g r).take ((evalI g r).length - operandsS n.op) = [] := List.length_eq_zero_iff.1 (by omega)
    rw [h3, List.nil_append] at h1
    have h4 : x = nodeS n ((evalI g r).drop ((evalI g r).length - operandsS n.op)) g := by simpa using h1
    rw [h4] at h ⊢
    exact nodeS_err h
theorem valueS_right {l : List Nod} {g : List Giv} (h : (valueS l g).2 ≠ 1) : exprS l = 0 ∧ l ≠ [] := by
  unfold valueS at h
  by_cases hc : l = [] ∨ exprS l ≠ 0
  · rw [if_pos hc] at h; exact absurd rfl h
  · exact ⟨Classical.byContradiction fun h => hc (.inr h), fun h => hc (.inl h)⟩
end Go.Proofs.Ytjpcchipejmocaa
