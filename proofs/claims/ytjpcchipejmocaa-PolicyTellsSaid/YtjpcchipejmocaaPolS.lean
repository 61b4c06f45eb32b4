/-
  Layer 8 (policy) as plain functions: what is wrong with targets, expressions, obligations, policies.
-/
import Derived.Test.YtjpcchipejmocaaPol
namespace Go.Proofs.Ytjpcchipejmocaa
set_option linter.unusedVariables false
set_option linter.unusedSimpArgs false

def attrS (a : Atr) : Bool := decide (1 ≤ a.cat) && decide (a.cat ≤ 4) && nameS a.name
def manyS (n : Nat) : Int := if n = 0 then 1 else if 8 < n then 6 else 0
def matchS (m : Mat) : Bool := attrS m.attr && decide (1 ≤ m.op) && decide (m.op ≤ 3) && m.val.right
/-- the first that is wrong -/
def firstE {α : Type} (f : α → Int) : List α → Int
  | [] => 0
  | x :: r => if f x = 0 then firstE f r else f x
def okE (b : Bool) : Int := if b then 0 else 1
def allOfS (l : List Mat) : Int := if manyS l.length = 0 then firstE (fun m => okE (matchS m)) l else manyS l.length
def anyOfS (l : List (List Mat)) : Int := if manyS l.length = 0 then firstE allOfS l else manyS l.length
def targetS (t : Tar) : Int := if 8 < t.length then 6 else firstE anyOfS t
def oblS (o : Obli) : Bool := decide (1 ≤ o.on) && decide (o.on ≤ 2) && decide (1 ≤ o.kind) && decide (o.kind ≤ 4) && nameS o.arg
def oblsS (l : List Obli) : Int := if 8 < l.length then 6 else firstE (fun o => okE (oblS o)) l
def wantsS (op : Int) : Option (List Bool) :=
  if op = 1 ∨ op = 2 then some []
  else if op = 3 ∨ op = 4 then some [true]
  else if op = 5 then some [true, false]
  else if op = 11 then some [false]
  else if 6 ≤ op ∧ op ≤ 13 then some [false, false]
  else none
def noAtr : Atr := ⟨0, ⟨#[]⟩, false⟩
def isNoVal (v : Val) : Bool := decide (v.kind = 0) && decide (v.n = 0) && decide (v.s.size = 0)
def isNoAtr (a : Atr) : Bool := decide (a.cat = 0) && decide (a.name.size = 0) && !a.must
def fieldsS (n : Nod) : Bool :=
  if n.op = 1 then n.val.right && isNoAtr n.attr
  else if n.op = 2 then attrS n.attr && isNoVal n.val
  else isNoVal n.val && isNoAtr n.attr
def stepS (l : List Bool) (n : Nod) : Option (List Bool) := match wantsS n.op with
  | none => none
  | some w => if fieldsS n = true ∧ w.length ≤ l.length ∧ l.drop (l.length - w.length) = w then some (l.take (l.length - w.length) ++ [decide (n.op = 2)]) else none
def stepsS : List Bool → List Nod → Option (List Bool)
  | l, [] => some l
  | l, n :: r => match stepS l n with
    | some l' => stepsS l' r
    | none => none
def exprS (l : List Nod) : Int :=
  if 32 < l.length then 6 else match stepsS [] l with
    | none => 1
    | some made => if l = [] ∨ made = [false] then 0 else 1
/-! ### Walking through a policy -/
structure Wlk where
  met : List ByteArray
  rules : Int
def hasS (m : List ByteArray) (s : ByteArray) : Bool := m.any fun t => decide (s = t)
def nameOk (m : List ByteArray) (s : ByteArray) : Bool := !hasS m s && nameS s
def nameM (m : List ByteArray) (s : ByteArray) : List ByteArray := if nameOk m s then m ++ [s] else m
def ruleE (r : Rul) : Int := if targetS r.target = 0 then (if exprS r.cond = 0 then oblsS r.obls else exprS r.cond) else targetS r.target
def ruleS (w : Wlk) (r : Rul) : Int × Wlk :=
  if nameOk w.met r.id then (if 64 < w.rules + 1 then 6 else ruleE r, ⟨w.met ++ [r.id], w.rules + 1⟩) else (1, w)
def headE (p : Pol) : Int :=
  if (p.set && decide (0 < p.rules.length)) || (!p.set && (decide (0 < p.kids.length) || decide (p.alg = 4))) then 1
  else if targetS p.target = 0 then (if oblsS p.obls = 0 then (if 16 < p.rules.length ∨ 16 < p.kids.length then 6 else 0) else oblsS p.obls) else targetS p.target
def headS (w : Wlk) (p : Pol) : Int × Wlk :=
  (if nameOk w.met p.id && decide (1 ≤ p.alg) && decide (p.alg ≤ 6) then headE p else 1, ⟨nameM w.met p.id, w.rules⟩)
/-- one behind the other, till one is wrong -/
def seqS {α : Type} (f : Wlk → α → Int × Wlk) : Wlk → List α → Int × Wlk
  | w, [] => (0, w)
  | w, x :: r => if (f w x).1 = 0 then seqS f (f w x).2 r else f w x
/-- with so many levels left -/
def polS : Nat → Wlk → Pol → Int × Wlk
  | 0, w, _ => (6, w)
  | n + 1, w, p =>
    if (headS w p).1 = 0 then
      if (seqS ruleS (headS w p).2 p.rules).1 = 0 then seqS (polS n) (seqS ruleS (headS w p).2 p.rules).2 p.kids
      else seqS ruleS (headS w p).2 p.rules
    else headS w p
def rightS (p : Pol) : Int := (polS 4 ⟨[], 0⟩ p).1
theorem seqS_some {α : Type} {f : Wlk → α → Int × Wlk} : ∀ {l : List α} {w : Wlk} {k : Nat} (hk : k < l.length), (seqS f w (l.take k)).1 = 0 → seqS f w (l.take (k + 1)) = f (seqS f w (l.take k)).2 l[k]
  | x :: r, w, 0, _, _ => by
    simp only [Nat.zero_add, List.take_succ_cons, List.take_zero, seqS, List.getElem_cons_zero]
    split
    · rename_i h; rw [← h]
    · rfl
  | x :: r, w, k + 1, hk, h => by
    rw [List.take_succ_cons, seqS] at h
    rw [List.take_succ_cons, List.take_succ_cons, seqS, seqS]
    by_cases h0 : (f w x).1 = 0
    · rw [if_pos h0] at h
      rw [if_pos h0, if_pos h0]
      exact seqS_some (by simpa using hk) h
    · rw [if_neg h0] at h; exact absurd h h0
theorem seqS_stop {α : Type} {f : Wlk → α → Int × Wlk} : ∀ {l : List α} {w : Wlk} (k : Nat), (seqS f w (l.take k)).1 ≠ 0 → seqS f w l = seqS f w (l.take k)
  | [], w, k, _ => by simp
  | x :: r, w, 0, h => by simp [seqS] at h
  | x :: r, w, k + 1, h => by
    rw [List.take_succ_cons, seqS] at h ⊢
    rw [seqS]
    by_cases h0 : (f w x).1 = 0
    · rw [if_pos h0] at h ⊢
      rw [if_pos h0]
      exact seqS_stop k h
    · rw [if_neg h0, if_neg h0]
theorem firstE_pre {α : Type} {f : α → Int} : ∀ {l : List α} {k : Nat} (hk : k < l.length), (∀ x ∈ l.take k, f x = 0) → f l[k] ≠ 0 → firstE f l = f l[k]
  | x :: r, 0, _, _, h => by simp only [List.getElem_cons_zero] at h ⊢; rw [firstE, if_neg h]
  | x :: r, k + 1, hk, ha, h => by
    have h0 : f x = 0 := ha x (by simp)
    rw [firstE, if_pos h0]
    simp only [List.getElem_cons_succ] at h ⊢
    exact firstE_pre (by simpa using hk) (fun y hy => ha y (by rw [List.take_succ_cons]; exact List.mem_cons_of_mem _ hy)) h
theorem firstE_all {α : Type} {f : α → Int} : ∀ {l : List α}, (∀ x ∈ l, f x = 0) → firstE f l = 0
  | [], _ => rfl
  | x :: r, h => by rw [firstE, if_pos (h x List.mem_cons_self)]; exact firstE_all fun y hy => h y (List.mem_cons_of_mem _ hy)
theorem take_ok {α : Type} {p : α → Prop} {l : List α} {k : Nat} (h : k < l.length) (ha : ∀ x ∈ l.take k, p x) (hk : p l[k]) : ∀ x ∈ l.take (k + 1), p x := by
  intro x hx
  rw [List.take_succ_eq_append_getElem h, List.mem_append, List.mem_singleton] at hx
  rcases hx with hx | rfl
  · exact ha x hx
  · exact hk
end Go.Proofs.Ytjpcchipejmocaa
