/-
  Layer 12's laws in plain words: truths, sums, bags, pairs.
-/
import Derived.Test.YtjpcchipejmocaaExS
namespace Go.Proofs.Ytjpcchipejmocaa
open Go.RowKit

theorem condS_one {l : List Nod} {g : List Giv} {x : Itm} (h : exprS l = 0) (hn : l ≠ []) (hx : evalI g l = [x]) : condS l g = condV (x.v, x.e) := by
  unfold condS; rw [if_neg hn, valueS_one h hn hx]
theorem condS_not {a : List Nod} {g : List Giv} (ha : exprS a = 0) (na : a ≠ []) (hl : a.length ≤ 31) : condS (a ++ [nOpE 11]) g = 2 - condS a g := by
  obtain ⟨x, hx⟩ := evalI_one (g := g) ha na
  have h1 := evalI_op (g := g) (nOpE 11) hx
  have h2 : stepI g [x] (nOpE 11) = [nodeS (nOpE 11) [x] g] := rfl
  rw [h2] at h1
  rw [condS_one (exprS_not ha na hl) (by simp) h1, condS_one ha na hx]
  exact cond_not x g
theorem condS_two {a b : List Nod} {g : List Giv} {op : Int} (ho : op = 12 ∨ op = 13) (ha : exprS a = 0) (na : a ≠ []) (hb : exprS b = 0) (nb : b ≠ []) (hl : a.length + b.length ≤ 31) :
    condS (a ++ b ++ [nOpE op]) g = if op = 12 then min (condS a g) (condS b g) else max (condS a g) (condS b g) := by
  obtain ⟨x, hx⟩ := evalI_one (g := g) ha na
  obtain ⟨y, hy⟩ := evalI_one (g := g) hb nb
  have h0 := evalI_two ha na hb nb hx hy
  have h1 := evalI_op (g := g) (nOpE op) h0
  have h2 : stepI g [x, y] (nOpE op) = [nodeS (nOpE op) [x, y] g] := by rcases ho with rfl | rfl <;> rfl
  rw [h2] at h1
  rw [condS_one (exprS_two ha hb na nb hl ho) (by simp) h1, condS_one ha na hx, condS_one hb nb hy]
  exact cond_two op ho x y g

theorem condS_range (l : List Nod) (g : List Giv) : 0 ≤ condS l g ∧ condS l g ≤ 2 := by
  unfold condS condV
  repeat' split
  all_goals omega

/-! ### Sums -/
def numV (n : Int) : Val := ⟨2, n, ⟨#[]⟩⟩
def litN (v : Val) : Nod := ⟨1, v, noAtr⟩
def atN (cat : Int) (s : ByteArray) : Nod := ⟨2, noVal, ⟨cat, s, false⟩⟩
def itV (v : Val) : Itm := ⟨[], v, 0⟩
theorem node_call {op : Int} (ho : 6 ≤ op ∧ op ≤ 10) {l : List Itm} (he : errS l = 0) (g : List Giv) : nodeS (nOpE op) l g = ⟨[], (callS op (l.map Itm.v)).1, (callS op (l.map Itm.v)).2⟩ := by
  have hop : (nOpE op).op = op := rfl
  have hd : decS op l = false := by
    unfold decS
    rw [decide_eq_false (by omega), decide_eq_false (by omega)]; rfl
  unfold nodeS lastS
  rw [hop, if_neg (by omega), if_neg (by omega), hd, if_neg (by simp), if_neg (by simp [he]), if_neg (by omega), if_neg (by omega), if_neg (by omega)]
theorem may_nums {op a b : Int} (ho : 6 ≤ op ∧ op ≤ 10) : mayS op [numV a, numV b] = true := by
  have h : (numV a).right = true ∧ (numV b).right = true := ⟨rfl, rfl⟩
  have h11 : ¬ op = 11 := by omega
  have h1 : op ≤ 13 := by omega
  simp [mayS, h.1, h.2, h11, ho.1, h1]
theorem callN_mul {a b : Int} (h : inI (a * b) = true) : callS 10 [numV a, numV b] = (numV (a * b), 0) := by
  unfold callS
  rw [may_nums (by omega)]
  simp [numberS, mulS, numV, h]
theorem callN_over {a b : Int} (h : inI (a * b) = false) : callS 10 [numV a, numV b] = (noVal, 3) := by
  unfold callS
  rw [may_nums (by omega)]
  simp [numberS, mulS, numV, h]
theorem callN_add {a b : Int} (h : inI (a + b) = true) : callS 8 [numV a, numV b] = (numV (a + b), 0) := by
  unfold callS
  rw [may_nums (by omega)]
  simp [numberS, addS, numV, h]
theorem callN_sub {a b : Int} (h : inI (a - b) = true) : callS 9 [numV a, numV b] = (numV (a - b), 0) := by
  unfold callS
  rw [may_nums (by omega)]
  simp [numberS, subS, numV, h]
theorem callN_eqn {a : Int} : callS 6 [numV a, numV a] = (truthS true, 0) := by
  unfold callS
  rw [may_nums (by omega)]
  simp [numV, sameV]
theorem node_two {op : Int} (ho : 6 ≤ op ∧ op ≤ 10) {a b : Val} {r : Val × Int} (h : callS op [a, b] = r) (g : List Giv) : nodeS (nOpE op) [itV a, itV b] g = ⟨[], r.1, r.2⟩ := by
  rw [node_call ho (by rfl)]
  show Itm.mk [] (callS op [a, b]).1 (callS op [a, b]).2 = _
  rw [h]
theorem stepsS_cons {l l' : List Bool} {n : Nod} {r : List Nod} (h : stepS l n = some l') : stepsS l (n :: r) = stepsS l' r := by rw [stepsS, h]
theorem lit_ok {v : Val} (hv : v.right = true) (l : List Bool) : stepS l (litN v) = some (l ++ [false]) := by
  have hf : fieldsS (litN v) = true := by
    unfold fieldsS
    rw [if_pos (show (litN v).op = 1 from rfl), show isNoAtr (litN v).attr = true from rfl, show (litN v).val.right = true from hv]; rfl
  unfold stepS
  rw [show wantsS (litN v).op = some [] from rfl]
  simp only
  rw [if_pos ⟨hf, Nat.zero_le _, by simp⟩]
  simp [litN]
theorem two_ok {op : Int} (ho : 6 ≤ op ∧ op ≤ 10) (l : List Bool) : stepS (l ++ [false, false]) (nOpE op) = some (l ++ [false]) := by
  have hop : (nOpE op).op = op := rfl
  have hw : wantsS (nOpE op).op = some [false, false] := by
    rw [hop]; unfold wantsS
    rw [if_neg (by omega), if_neg (by omega), if_neg (by omega), if_neg (by omega), if_pos (by omega)]
  have hfd : fieldsS (nOpE op) = true := by
    unfold fieldsS
    rw [hop, if_neg (by omega), if_neg (by omega)]; rfl
  unfold stepS
  rw [hw]
  simp only
  have e : (l ++ [false, false]).length - [false, false].length = l.length := by simp
  rw [e, if_pos ⟨hfd, by simp, by simp⟩, hop, decide_eq_false (by omega)]
  simp
theorem exprS_of {l : List Nod} (h1 : l.length ≤ 32) (h : stepsS [] l = some [false]) : exprS l = 0 := by
  unfold exprS
  rw [if_neg (by omega), h]
  simp
theorem stepI_lit (g : List Giv) (s : List Itm) (v : Val) : stepI g s (litN v) = s ++ [itV v] := by
  unfold stepI
  rw [show operandsS (litN v).op = 0 from rfl, Nat.sub_zero, List.take_length]; rfl
theorem stepI_two (g : List Giv) (s : List Itm) (x y : Itm) {n : Nod} (h : operandsS n.op = 2) : stepI g (s ++ [x, y]) n = s ++ [nodeS n [x, y] g] := by
  have e : (s ++ [x, y]).length - 2 = s.length := by simp
  unfold stepI
  rw [h, e, List.take_left, List.drop_left]
theorem stepI_one (g : List Giv) (s : List Itm) (x : Itm) {n : Nod} (h : operandsS n.op = 1) : stepI g (s ++ [x]) n = s ++ [nodeS n [x] g] := by
  have e : (s ++ [x]).length - 1 = s.length := by simp
  unfold stepI
  rw [h, e, List.take_left, List.drop_left]
theorem stepI_at (g : List Giv) (s : List Itm) (cat : Int) (t : ByteArray) : stepI g s (atN cat t) = s ++ [nodeS (atN cat t) [] g] := by
  unfold stepI
  rw [show operandsS (atN cat t).op = 0 from rfl, Nat.sub_zero, List.take_length, List.drop_length]
theorem operands_two {op : Int} (ho : 6 ≤ op ∧ op ≤ 10) : operandsS (nOpE op).op = 2 := by
  show operandsS op = 2
  unfold operandsS
  rw [if_neg (by omega), if_neg (by omega)]
theorem evalI_cons (g : List Giv) (s : List Itm) (n : Nod) (r : List Nod) : (n :: r).foldl (stepI g) s = r.foldl (stepI g) (stepI g s n) := rfl
def sumL (a b c : Int) : List Nod := [litN (numV a), litN (numV b), nOpE 10, litN (numV c), nOpE 8]
def sumM (a b c : Int) : List Nod := sumL a b c ++ [litN (numV c), nOpE 9, litN (numV (a * b)), nOpE 6]
theorem num_right (n : Int) : (numV n).right = true := rfl
theorem step_two (g : List Giv) {op : Int} (ho : 6 ≤ op ∧ op ≤ 10) {a b r : Val} (h : callS op [a, b] = (r, 0)) : stepI g [itV a, itV b] (nOpE op) = [itV r] := by
  have h1 := stepI_two g [] (itV a) (itV b) (operands_two ho)
  rw [List.nil_append, List.nil_append] at h1
  rw [h1, node_two ho h]; rfl
theorem sumL_ev {a b c : Int} (h1 : inI (a * b) = true) (h2 : inI (a * b + c) = true) : (sumL a b c).foldl (stepI []) [] = [itV (numV (a * b + c))] := by
  unfold sumL
  rw [evalI_cons, stepI_lit, evalI_cons, stepI_lit, evalI_cons]
  rw [show (([] : List Itm) ++ [itV (numV a)]) ++ [itV (numV b)] = [itV (numV a), itV (numV b)] from rfl, step_two [] (by omega) (callN_mul h1), evalI_cons, stepI_lit]
  rw [show [itV (numV (a * b))] ++ [itV (numV c)] = [itV (numV (a * b)), itV (numV c)] from rfl, evalI_cons, step_two [] (by omega) (callN_add h2)]
  rfl
theorem sumL_steps (a b c : Int) : stepsS [] (sumL a b c) = some [false] := by
  unfold sumL
  rw [stepsS_cons (l' := [false]) (lit_ok (num_right a) []), stepsS_cons (l' := [false, false]) (lit_ok (num_right b) [false]),
    stepsS_cons (l := [false, false]) (l' := [false]) (two_ok (op := 10) (by omega) []), stepsS_cons (l' := [false, false]) (lit_ok (num_right c) [false]), stepsS_cons (l := [false, false]) (l' := [false]) (two_ok (op := 8) (by omega) [])]
  rfl
theorem sumL_ok (a b c : Int) : exprS (sumL a b c) = 0 := exprS_of (by simp [sumL]) (sumL_steps a b c)
theorem sumM_ok (a b c : Int) : exprS (sumM a b c) = 0 := by
  refine exprS_of (by simp [sumM, sumL]) ?_
  unfold sumM
  rw [eSteps_append (sumL_steps a b c)]
  rw [stepsS_cons (l' := [false, false]) (lit_ok (num_right c) [false]), stepsS_cons (l := [false, false]) (l' := [false]) (two_ok (op := 9) (by omega) []),
    stepsS_cons (l' := [false, false]) (lit_ok (num_right (a * b)) [false]), stepsS_cons (l := [false, false]) (l' := [false]) (two_ok (op := 6) (by omega) [])]
  rfl
theorem sumL_value {a b c : Int} (h1 : inI (a * b) = true) (h2 : inI (a * b + c) = true) : valueS (sumL a b c) [] = (numV (a * b + c), 0) :=
  valueS_one (x := itV (numV (a * b + c))) (sumL_ok a b c) (by simp [sumL]) (sumL_ev h1 h2)
theorem sumM_value {a b c : Int} (h1 : inI (a * b) = true) (h2 : inI (a * b + c) = true) : valueS (sumM a b c) [] = (truthS true, 0) := by
  refine valueS_one (x := itV (truthS true)) (sumM_ok a b c) (by simp [sumM, sumL]) ?_
  have e : a * b + c - c = a * b := by omega
  unfold evalI sumM
  rw [List.foldl_append, sumL_ev h1 h2, evalI_cons, stepI_lit]
  rw [show [itV (numV (a * b + c))] ++ [itV (numV c)] = [itV (numV (a * b + c)), itV (numV c)] from rfl, evalI_cons, step_two [] (by omega) (callN_sub (by rw [e]; exact h1)), e, evalI_cons, stepI_lit]
  rw [show [itV (numV (a * b))] ++ [itV (numV (a * b))] = [itV (numV (a * b)), itV (numV (a * b))] from rfl, evalI_cons, step_two [] (by omega) callN_eqn]
  rfl
def mulL (a b : Int) : List Nod := [litN (numV a), litN (numV b), nOpE 10]
theorem mulL_over {a b : Int} (h : inI (a * b) = false) : valueS (mulL a b) [] = (noVal, 3) := by
  have hok : exprS (mulL a b) = 0 := exprS_of (by simp [mulL]) (by
    unfold mulL
    rw [stepsS_cons (l' := [false]) (lit_ok (num_right a) []), stepsS_cons (l' := [false, false]) (lit_ok (num_right b) [false]), stepsS_cons (l := [false, false]) (l' := [false]) (two_ok (op := 10) (by omega) [])]; rfl)
  refine valueS_one (x := ⟨[], noVal, 3⟩) hok (by simp [mulL]) ?_
  unfold evalI mulL
  rw [evalI_cons, stepI_lit, evalI_cons, stepI_lit, evalI_cons]
  have h1 := stepI_two [] [] (itV (numV a)) (itV (numV b)) (operands_two (op := 10) (by omega))
  rw [show (([] : List Itm) ++ [itV (numV a)]) ++ [itV (numV b)] = [] ++ [itV (numV a), itV (numV b)] from rfl, h1, node_two (by omega) (callN_over h)]
  rfl

/-! ### Bags and pairs -/
def bagItm (b : List Val) : Itm := ⟨b, noVal, 0⟩
def oneI (b : List Val) : Itm := if b.length = 1 then itV (b.getD 0 noVal) else ⟨[], noVal, 4⟩
theorem node_low {op : Int} (ho : 3 ≤ op ∧ op ≤ 11) {l : List Itm} (he : errS l = 0) (g : List Giv) : nodeS (nOpE op) l g = lastS op l := by
  have hop : (nOpE op).op = op := rfl
  have hd : decS op l = false := by
    unfold decS
    rw [decide_eq_false (by omega), decide_eq_false (by omega)]; rfl
  unfold nodeS
  rw [hop, if_neg (by omega), if_neg (by omega), hd, if_neg (by simp), if_neg (by simp [he])]
theorem node_one (b : List Val) (g : List Giv) : nodeS (nOpE 3) [bagItm b] g = oneI b := by rw [node_low (by omega) rfl]; rfl
theorem node_size (b : List Val) (g : List Giv) : nodeS (nOpE 4) [bagItm b] g = itV (numV b.length) := by rw [node_low (by omega) rfl]; rfl
theorem node_has (b : List Val) (v : Val) (g : List Giv) : nodeS (nOpE 5) [bagItm b, itV v] g = itV (truthS (hasV b v)) := by rw [node_low (by omega) rfl]; rfl
def bagG (s : ByteArray) (b : List Val) : List Giv := [⟨4, s, b⟩]
theorem get_b (b : List Val) (s : ByteArray) : getS ⟨4, s, false⟩ (bagG s b) = (b, 0) := by
  simp [getS, bagS, isG, bagG]
theorem node_at {cat : Int} {s : ByteArray} {g : List Giv} {b : List Val} (h : getS ⟨cat, s, false⟩ g = (b, 0)) (l : List Itm) : nodeS (atN cat s) l g = bagItm b := by
  unfold nodeS
  rw [if_neg (show ¬ (atN cat s).op = 1 by show ¬ (2 : Int) = 1; omega), if_pos (show (atN cat s).op = 2 from rfl), show (atN cat s).attr = ⟨cat, s, false⟩ from rfl, h]; rfl
theorem low_ok {op : Int} {w : List Bool} (hw : wantsS op = some w) (h2 : ¬ op = 2) (h1 : ¬ op = 1) (l : List Bool) : stepS (l ++ w) (nOpE op) = some (l ++ [false]) := by
  have hop : (nOpE op).op = op := rfl
  have hfd : fieldsS (nOpE op) = true := by
    unfold fieldsS
    rw [hop, if_neg h1, if_neg h2]; rfl
  have e : (l ++ w).length - w.length = l.length := by simp
  unfold stepS
  rw [hop, hw]
  simp only
  rw [e, if_pos ⟨hfd, by simp, by simp⟩, decide_eq_false h2]
  simp
section
variable {s : ByteArray} (hs : nameS s = true)
include hs
theorem at_ok {cat : Int} (hc : 1 ≤ cat ∧ cat ≤ 4) (l : List Bool) : stepS l (atN cat s) = some (l ++ [true]) := by
  have hf : fieldsS (atN cat s) = true := by
    unfold fieldsS
    rw [if_neg (show ¬ (atN cat s).op = 1 by show ¬ (2 : Int) = 1; omega), if_pos (show (atN cat s).op = 2 from rfl), show isNoVal (atN cat s).val = true from rfl, Bool.and_true]
    simp [attrS, atN, hc.1, hc.2, hs]
  unfold stepS
  rw [show wantsS (atN cat s).op = some [] from rfl]
  simp only
  rw [if_pos ⟨hf, Nat.zero_le _, by simp⟩]
  simp [atN]
theorem size_value (b : List Val) : valueS [atN 4 s, nOpE 4] (bagG s b) = (numV b.length, 0) := by
  have h0 : exprS [atN 4 s, nOpE 4] = 0 := exprS_of (by simp) (by
    rw [stepsS_cons (l' := [true]) (at_ok hs (by omega) []), stepsS_cons (l := [true]) (l' := [false]) (low_ok (w := [true]) rfl (by omega) (by omega) [])]; rfl)
  refine valueS_one (x := itV (numV b.length)) h0 (by simp) ?_
  unfold evalI
  rw [evalI_cons, stepI_at, node_at (get_b b s), evalI_cons, stepI_one _ _ _ rfl, node_size]; rfl
theorem one_value (b : List Val) : valueS [atN 4 s, nOpE 3] (bagG s b) = ((oneI b).v, (oneI b).e) := by
  have h0 : exprS [atN 4 s, nOpE 3] = 0 := exprS_of (by simp) (by
    rw [stepsS_cons (l' := [true]) (at_ok hs (by omega) []), stepsS_cons (l := [true]) (l' := [false]) (low_ok (w := [true]) rfl (by omega) (by omega) [])]; rfl)
  refine valueS_one h0 (by simp) ?_
  unfold evalI
  rw [evalI_cons, stepI_at, node_at (get_b b s), evalI_cons, stepI_one _ _ _ rfl, node_one]; rfl
theorem has_value (b : List Val) {v : Val} (hv : v.right = true) : valueS [atN 4 s, litN v, nOpE 5] (bagG s b) = (truthS (hasV b v), 0) := by
  have h0 : exprS [atN 4 s, litN v, nOpE 5] = 0 := exprS_of (by simp) (by
    rw [stepsS_cons (l' := [true]) (at_ok hs (by omega) []), stepsS_cons (l' := [true, false]) (lit_ok hv [true]), stepsS_cons (l := [true, false]) (l' := [false]) (low_ok (w := [true, false]) rfl (by omega) (by omega) [])]; rfl)
  refine valueS_one (x := itV (truthS (hasV b v))) h0 (by simp) ?_
  unfold evalI
  rw [evalI_cons, stepI_at, node_at (get_b b s), evalI_cons, stepI_lit, evalI_cons]
  rw [show (([] : List Itm) ++ [bagItm b]) ++ [itV v] = [] ++ [bagItm b, itV v] from rfl, stepI_two _ _ _ _ rfl, node_has]; rfl
end
/-- two attributes with one value each -/
def pairG (s t : ByteArray) (a b : List Val) : List Giv := [⟨3, s, a⟩, ⟨4, t, b⟩]
def pairL (s t : ByteArray) (op : Int) : List Nod := [atN 3 s, nOpE 3, atN 4 t, nOpE 3, nOpE op]
theorem get_p1 (s t : ByteArray) (a b : List Val) : getS ⟨3, s, false⟩ (pairG s t a b) = (a, 0) := by simp [getS, bagS, isG, pairG]
theorem get_p2 (s t : ByteArray) (a b : List Val) : getS ⟨4, t, false⟩ (pairG s t a b) = (b, 0) := by simp [getS, bagS, isG, pairG]
theorem pair_ok {s t : ByteArray} (hs : nameS s = true) (ht : nameS t = true) {op : Int} (ho : op = 6 ∨ op = 7) : exprS (pairL s t op) = 0 := by
  refine exprS_of (by simp [pairL]) ?_
  unfold pairL
  rw [stepsS_cons (l' := [true]) (at_ok hs (by omega) []), stepsS_cons (l := [true]) (l' := [false]) (low_ok (w := [true]) rfl (by omega) (by omega) []), stepsS_cons (l' := [false, true]) (at_ok ht (by omega) [false]), stepsS_cons (l := [false, true]) (l' := [false, false]) (low_ok (w := [true]) rfl (by omega) (by omega) [false]), stepsS_cons (l := [false, false]) (l' := [false]) (two_ok (by omega) [])]; rfl
theorem pair_ev {s t : ByteArray} {op : Int} (ho : op = 6 ∨ op = 7) (a b : List Val) : evalI (pairG s t a b) (pairL s t op) = [nodeS (nOpE op) [oneI a, oneI b] (pairG s t a b)] := by
  unfold evalI pairL
  rw [evalI_cons, stepI_at, node_at (get_p1 s t a b), evalI_cons, stepI_one _ _ _ rfl, node_one, evalI_cons, stepI_at, node_at (get_p2 s t a b), evalI_cons, stepI_one _ _ _ rfl, node_one, evalI_cons]
  rw [show (([] : List Itm) ++ [oneI a]) ++ [oneI b] = [] ++ [oneI a, oneI b] from rfl, stepI_two _ _ _ _ (operands_two (by omega))]; rfl
theorem node_miss {op : Int} (ho : op = 6 ∨ op = 7) {x y : Itm} (h : errS [x, y] ≠ 0) (g : List Giv) : nodeS (nOpE op) [x, y] g = ⟨[], noVal, errS [x, y]⟩ := by
  have hop : (nOpE op).op = op := rfl
  have hd : decS op [x, y] = false := by
    unfold decS
    rw [decide_eq_false (by omega), decide_eq_false (by omega)]; rfl
  unfold nodeS
  rw [hop, if_neg (by omega), if_neg (by omega), hd, if_neg (by simp), if_pos h]
theorem pair_miss {s t : ByteArray} (hs : nameS s = true) (ht : nameS t = true) {op : Int} (ho : op = 6 ∨ op = 7) {a b : List Val} (h : ¬ (a.length = 1 ∧ b.length = 1)) : valueS (pairL s t op) (pairG s t a b) = (noVal, 4) := by
  have e : errS [oneI a, oneI b] = 4 := by
    unfold oneI
    by_cases h1 : a.length = 1
    · have h2 : ¬ b.length = 1 := fun h2 => h ⟨h1, h2⟩
      rw [if_pos h1, if_neg h2]; rfl
    · rw [if_neg h1]; rfl
  have h1 := pair_ev (s := s) (t := t) ho a b
  rw [node_miss ho (by rw [e]; omega), e] at h1
  exact valueS_one (pair_ok hs ht ho) (by simp [pairL]) h1
theorem pair_value {s t : ByteArray} (hs : nameS s = true) (ht : nameS t = true) {op : Int} (ho : op = 6 ∨ op = 7) (x y : Val) : valueS (pairL s t op) (pairG s t [x] [y]) = callS op [x, y] := by
  have h1 := pair_ev (s := s) (t := t) ho [x] [y]
  have h2 := node_two (op := op) (by omega) (rfl : callS op [x, y] = callS op [x, y]) (pairG s t [x] [y])
  have h3 : [oneI [x], oneI [y]] = [itV x, itV y] := rfl
  rw [h3, h2] at h1
  exact valueS_one (pair_ok hs ht ho) (by simp [pairL]) h1
theorem call_eq_kind {x y : Val} (hx : x.right = true) (hy : y.right = true) : callS 6 [x, y] = if x.kind ≠ y.kind then (noVal, 2) else (truthS (sameV x y), 0) := by
  have hm : mayS 6 [x, y] = true := by simp [mayS, hx, hy]
  unfold callS
  rw [hm]
  simp
theorem call_less_of {x y : Val} (hx : x.right = true) (hy : y.right = true) : callS 7 [x, y] = if (lessS x y).2 ≠ 0 then (noVal, (lessS x y).2) else (truthS (lessS x y).1, 0) := by
  have hm : mayS 7 [x, y] = true := by simp [mayS, hx, hy]
  unfold callS
  rw [hm]
  simp

/-! ### Attributes that are not asked for -/
theorem valueS_plain {l : List Nod} (g : List Giv) (h : ∀ n ∈ l, n.op ≠ 2) : valueS l g = valueS l [] := valueS_same fun n hn h2 => absurd h2 (h n hn)
theorem valueS_with {l : List Nod} (g : List Giv) (x : Giv) (h : ∀ n ∈ l, n.op = 2 → isG n.attr.cat n.attr.name x = false) : valueS l (withS g x) = valueS l g := valueS_same fun n hn h2 => getS_with n.attr g x (h n hn h2)
end Go.Proofs.Ytjpcchipejmocaa
