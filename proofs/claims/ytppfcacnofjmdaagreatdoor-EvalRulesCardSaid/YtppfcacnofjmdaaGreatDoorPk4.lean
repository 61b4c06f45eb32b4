/-
  What the statement leans on, part 4: Conv, Value, PolS, ValH, PolH, AskS, HasS, ExS, ExT, EvS, MkH, CombH, AskG, LessH, Fun, Fun2, Fun3, ExF, TgtH, Cvt, CellR, HasH, ExH.
-/
import Derived.Test.YtppfcacnofjmdaaGreatDoorRows
import Derived.WalkLawsBesides
import Derived.WalkSpells
import Derived.Deep.Cut
import Derived.Deep.Light
import Derived.Test.YtppfcacnofjmdaaGreatDoorPk1
import Derived.Test.YtppfcacnofjmdaaGreatDoorPk2
import Derived.Test.YtppfcacnofjmdaaGreatDoorPk3
namespace Go.Proofs.YtppfcacnofjmdaaGreatDoor
set_option linter.unusedVariables false
set_option linter.unusedSimpArgs false
open Go.RowKit
theorem mat_back {ok : Nat → Prop} {w : World} {cs : List Value} {x : Mat} (h : rPV ok w cs x.pv) : cs = x.cells := rPV_plain (xs := x.cells) h
theorem atr_back {ok : Nat → Prop} {w : World} {cs : List Value} {x : Atr} (h : rPV ok w cs x.pv) : cs = x.cells := rPV_plain (xs := x.cells) h
theorem mat_pv {w : World} {cs : List Value} {x : Mat} (h : rMat w cs x) : rPV (fun _ => True) w cs x.pv := by
  obtain ⟨rfl, _⟩ := h
  exact plain_rPV (xs := x.cells) (fun v hv => by simp [Mat.cells, Atr.cells, Val.cells] at hv; rcases hv with rfl | rfl | rfl | rfl | rfl | rfl | rfl <;> rfl)
theorem mats_typed {ok : Nat → Prop} {w : World} {u : Value} {l : List Mat} (h : RelP ok w (matsP l) u) (hf : ∀ x ∈ l, x.Fit) : ∃ A c, u = .slice A l.length c ∧ l.length ≤ c ∧ (l.length ≤ reachBytes ∧ c ≤ maxLen) ∧ SlAt rMat 7 w A l :=
  sl_typed h fun x hx cs hcs => ⟨mat_back hcs, hf x hx⟩
structure Giv.Fit (x : Giv) : Prop where
  cat : R64 x.cat
  name : x.name.size ≤ reachBytes
  bag : ∀ v ∈ x.bag, v.Fit
theorem giv_back {ok : Nat → Prop} {w : World} {cs : List Value} {x : Giv} (h : rPV ok w cs x.pv) (hf : x.Fit) : rGiv w cs x := by
  have h0 := h.1
  match cs, h0 with
  | [a, b, c], _ =>
    have h1 := h.2 0 _ a rfl rfl
    have h2 := h.2 1 _ b rfl rfl
    have h3 := h.2 2 _ c rfl rfl
    cases h1; cases h2
    obtain ⟨A, d, rfl, g1, g2, g3⟩ := vals_typed h3 hf.bag
    exact ⟨A, d, rfl, hf.cat, hf.name, g1, g2, g3⟩
theorem giv_pv {w : World} {cs : List Value} {x : Giv} (h : rGiv w cs x) : rPV (fun _ => True) w cs x.pv := by
  obtain ⟨A, c, rfl, h1, h2, h3, h4, h5⟩ := h
  refine ⟨rfl, fun j s u hs hu => ?_⟩
  match j with
  | 0 => cases hs; cases hu; exact .v rfl
  | 1 => cases hs; cases hu; exact .v rfl
  | 2 => cases hs; cases hu; exact rel_sl h5 h3 h4 (fun _ => ⟨rfl, rfl⟩) fun x _ cs hcs => val_pv hcs
  | j + 3 => simp [Giv.pv] at hs
theorem givs_typed {ok : Nat → Prop} {w : World} {u : Value} {l : List Giv} (h : RelP ok w (zP l) u) (hf : ∀ x ∈ l, x.Fit) : ∃ A c, u = .slice A l.length c ∧ l.length ≤ c ∧ (l.length ≤ reachBytes ∧ c ≤ maxLen) ∧ SlAt rGiv 3 w A l :=
  sl_typed h fun x hx cs hcs => giv_back hcs (hf x hx)
theorem givs_rel {w : World} {A : Option Addr} {c : Nat} {l : List Giv} (h : SlAt rGiv 3 w A l) (hl : l.length ≤ c) (hc : l.length ≤ reachBytes ∧ c ≤ maxLen) : RelP (fun _ => True) w (zP l) (.slice A l.length c) :=
  rel_sl h hl hc (fun _ => ⟨rfl, rfl⟩) fun x _ cs hcs => giv_pv hcs
theorem any_back {ok : Nat → Prop} {w : World} {cs : List Value} {x : List Mat} (h : rPV ok w cs [matsP x]) (hf : ∀ m ∈ x, m.Fit) : rSl rMat 7 w cs x := by
  have h0 := h.1
  match cs, h0 with
  | [a], _ =>
    obtain ⟨A, d, rfl, g1, g2, g3⟩ := mats_typed (h.2 0 _ a rfl rfl) hf
    exact ⟨A, d, rfl, g1, g2, g3⟩
theorem mats_pv {w : World} {cs : List Value} {x : List Mat} (h : rSl rMat 7 w cs x) : rPV (fun _ => True) w cs [matsP x] := by
  obtain ⟨A, c, rfl, h1, h2, h3⟩ := h
  refine ⟨rfl, fun j s u hs hu => ?_⟩
  match j with
  | 0 => cases hs; cases hu; exact rel_sl h3 h1 h2 (fun _ => ⟨rfl, rfl⟩) fun x _ cs hcs => mat_pv hcs
  | j + 1 => simp at hs
theorem anys_back {ok : Nat → Prop} {w : World} {cs : List Value} {x : List (List Mat)} (h : rPV ok w cs [anyP x]) (hf : ∀ l ∈ x, ∀ m ∈ l, m.Fit) : rTar' w cs x := by
  have h0 := h.1
  match cs, h0 with
  | [a], _ =>
    obtain ⟨A, d, rfl, g1, g2, g3⟩ := sl_typed (R := rSl rMat 7) (h.2 0 _ a rfl rfl) fun y hy cs hcs => any_back hcs (hf y hy)
    exact ⟨A, d, rfl, g1, g2, g3⟩
theorem anys_pv {w : World} {cs : List Value} {x : List (List Mat)} (h : rTar' w cs x) : rPV (fun _ => True) w cs [anyP x] := by
  obtain ⟨A, c, rfl, h1, h2, h3⟩ := h
  refine ⟨rfl, fun j s u hs hu => ?_⟩
  match j with
  | 0 => cases hs; cases hu; exact rel_sl h3 h1 h2 (fun _ => ⟨rfl, rfl⟩) fun x _ cs hcs => mats_pv hcs
  | j + 1 => simp at hs
theorem tgt_typed {ok : Nat → Prop} {w : World} {u : Value} {t : Tar} (h : RelP ok w (tgtP t) u) (hf : ∀ x ∈ t, ∀ l ∈ x, ∀ m ∈ l, m.Fit) : ∃ A c, u = .slice A t.length c ∧ t.length ≤ c ∧ (t.length ≤ reachBytes ∧ c ≤ maxLen) ∧ SlAt rTar' 1 w A t :=
  sl_typed h fun x hx cs hcs => anys_back hcs (hf x hx)
theorem tgt_rel {w : World} {A : Option Addr} {c : Nat} {t : Tar} (h : SlAt rTar' 1 w A t) (hl : t.length ≤ c) (hc : t.length ≤ reachBytes ∧ c ≤ maxLen) : RelP (fun _ => True) w (tgtP t) (.slice A t.length c) :=
  rel_sl h hl hc (fun _ => ⟨rfl, rfl⟩) fun x _ cs hcs => anys_pv hcs
theorem giv_fit {w : World} {cs : List Value} {x : Giv} (h : rGiv w cs x) : x.Fit := by
  obtain ⟨A, c, rfl, h1, h2, h3, h4, h5⟩ := h
  exact ⟨h1, h2, h5.fit fun _ _ h => h.2⟩
theorem tgt_fit {w : World} {A : Option Addr} {t : Tar} (h : SlAt rTar' 1 w A t) : ∀ x ∈ t, ∀ l ∈ x, ∀ m ∈ l, m.Fit :=
  h.fit fun cs x ⟨_, _, _, _, _, h1⟩ => h1.fit fun cs y ⟨_, _, _, _, _, h2⟩ => h2.fit fun _ _ h => h.2
end Go.Proofs.YtppfcacnofjmdaaGreatDoor
namespace Go.Proofs.YtppfcacnofjmdaaGreatDoor
open Go.RowKit
set_option linter.unusedSimpArgs false
set_option linter.unusedVariables false
attribute [local go_sem] ext_cell wi
attribute [local go_sem low] we jp
theorem eql_val (a b : Int) (s : ByteArray) (a' b' : Int) (s' : ByteArray) (w : World) :
    (binOp .eql 52 (.agg #[.int .i64 a, .int .i64 b, .string s]) (.agg #[.int .i64 a', .int .i64 b', .string s'])).run Tryz.prog w = .ok (.bool (jh ⟨a, b, s⟩ ⟨a', b', s'⟩)) w := by
  unfold jh
  by_cases h1 : a = a'
  · by_cases h2 : b = b'
    · by_cases h3 : s = s'
      · subst h1; subst h2; subst h3
        go_simp
      · have : s.toList ≠ s'.toList := fun h => h3 (toList_inj h)
        subst h1; subst h2
        go_simp
    · subst h1
      go_simp
  · go_simp
set_option maxHeartbeats 2000000 in
theorem name_any (s : ByteArray) (w : World) (hs : s.size ≤ reachBytes) :
    Calls Tryz.prog 105 #[.string s] w fun e w' => e = .returned (.bool (wO s)) ∧ w = w' := by
  unfold reachBytes at hs
  go_enter Tryz.func105, Tryz.ntmps105
  go_wp2
  go_loop [3, 4, 5, 6, 9] (fun _ _ _ _ i => ∃ k : Nat, k ≤ s.size ∧ i = .int .i64 k ∧ Hid (∀ i (h : i < s.size), i < k → okC (i == 0) s[i].toNat = true)) (fun _ _ _ _ i => s.size - (intOf i).toNat)
  case atStart => exact ⟨0, Nat.zero_le _, rfl, fun i _ h => absurd h (by omega)⟩
  case round =>
    obtain ⟨k, hk, rfl, hok⟩ := hrel
    by_cases hlt : k < s.size
    · skip
      go_upto_region 5 with (fail)
      refine wp_spec (by kernel_rfl) ?_
      repeat (refine qH ?_; intro K hK; go_big_quiet_op; go_big_quiet_on)
      refine zx ?_
      intro us
      simp only [junk, Act.put, List.setIfInBounds_toArray, List.set_cons_zero, List.set_cons_succ]
      go_upto_region 6 with (fail)
      refine wp_spec (by kernel_rfl) ?_
      repeat (refine qH ?_; intro K hK; go_big_quiet_op; go_big_quiet_on)
      refine zx ?_
      intro us
      simp only [junk, Act.put, List.setIfInBounds_toArray, List.set_cons_zero, List.set_cons_succ]
      go_upto_region 7 with (fail)
      refine wp_spec (by kernel_rfl) ?_
      repeat (refine qH ?_; intro K hK; go_big_quiet_op; go_big_quiet_on)
      refine zx ?_
      intro us
      simp only [junk, Act.put, List.setIfInBounds_toArray, List.set_cons_zero, List.set_cons_succ]
      go_wp2
      · go_ret
        refine ⟨wc (nameS_no hlt ?_).symm, rfl⟩
        go_light
        simp [okC] at *
        omega
      · go_round
        case rel =>
          refine ⟨k + 1, by omega, by go_num, name_step hlt hok.out ?_⟩
          go_light
          simp [okC] at *
          omega
        case measure => simp [intOf]; omega
    · obtain rfl : k = s.size := by omega
      have e1 := hide (nameS_end hok.out)
      go_upto_region 10 with (fail)
      refine wp_spec (by kernel_rfl) ?_
      repeat (refine qH ?_; intro K hK; go_big_quiet_op; go_big_quiet_on)
      refine zx ?_
      intro us
      simp only [junk, Act.put, List.setIfInBounds_toArray, List.set_cons_zero, List.set_cons_succ]
      go_wp2
      go_ret
      refine ⟨wc ?_, rfl⟩
      rw [e1.out, jg, Bool.eq_iff_iff]
      simp only [Bool.and_eq_true, decide_eq_true_eq, Bool.not_eq_true', decide_eq_false_iff_not]
      omega
theorem right_any (k n : Int) (s : ByteArray) (w : World) (hs : s.size ≤ reachBytes) :
    Calls Tryz.prog 103 #[.agg #[.int .i64 k, .int .i64 n, .string s]] w fun e w' => e = .returned (.bool (Val.right ⟨k, n, s⟩)) ∧ Below w.heap.size w w' := by
  unfold reachBytes at hs
  have hs' : s.size ≤ reachBytes := hs
  go_enter Tryz.func103, Tryz.ntmps103
  go_wp2_with (go_at_call 105; refine (name_any _ _ hs').mono ?_; rintro e w1 ⟨rfl, rfl⟩)
  all_goals
    go_ret
    refine ⟨wc ?_, (Below.refl _ _).alloc (Nat.le_refl _) _⟩
    go_light
    simp only [beq_iff_eq, beq_eq_false_iff_ne, ne_eq] at *
    simp [Val.right, jg, *]
    try omega
theorem texts_any (k : Int) (w : World) :
    Calls Tryz.prog 104 #[.int .i64 k] w fun e w' => e = .returned (.bool (textsS k)) ∧ w = w' := by
  go_enter Tryz.func104, Tryz.ntmps104
  go_upto_region 1 with (fail)
  refine wp_spec (by kernel_rfl) ?_
  repeat (refine qH ?_; intro K hK; go_big_quiet_op; go_big_quiet_on)
  refine zx ?_
  intro us
  simp only [junk, Act.put, List.setIfInBounds_toArray, List.set_cons_zero, List.set_cons_succ]
  go_wp2
  go_ret
  exact ⟨wc (by rw [Bool.eq_iff_iff]; simp [textsS]), rfl⟩
theorem less_any (k n : Int) (s : ByteArray) (k' n' : Int) (s' : ByteArray) (w : World) (hs : s.size ≤ reachBytes) (hs' : s'.size ≤ reachBytes) :
    Calls Tryz.prog 83 #[.agg #[.int .i64 k, .int .i64 n, .string s], .agg #[.int .i64 k', .int .i64 n', .string s']] w
      fun e w' => e = .returned (.tuple #[.bool (wN ⟨k, n, s⟩ ⟨k', n', s'⟩).1, .int .i64 (wN ⟨k, n, s⟩ ⟨k', n', s'⟩).2]) ∧ Below w.heap.size w w' := by
  go_enter Tryz.func83, Tryz.ntmps83
  go_upto_region 1 with (fail)
  refine wp_spec_ext (by kernel_rfl) ?_
  repeat (refine qH ?_; intro K hK; go_big_quiet_op; go_big_quiet_on)
  refine qH ?_; intro K hK; go_big_quiet_op
  refine ⟨_, fun _ => wQ (right_any _ _ _ _ hs), ?_⟩
  go_big_quiet_on
  repeat (refine qH ?_; intro K hK; go_big_quiet_op; go_big_quiet_on)
  refine qH ?_; intro K hK; go_big_quiet_op
  refine ⟨_, fun _ => wQ (right_any _ _ _ _ hs'), ?_⟩
  go_big_quiet_on
  repeat (refine qH ?_; intro K hK; go_big_quiet_op; go_big_quiet_on)
  refine zx ?_
  intro us w1 hB1
  simp only [junk, Act.put, List.setIfInBounds_toArray, List.set_cons_zero, List.set_cons_succ]
  obtain ⟨hc1, hf1⟩ := jF hB1; have hz1 := hB1.size; try simp only [World.size_alloc, World.size_drew] at hc1 hf1 hz1
  go_upto_region 3 with (fail)
  · go_ret2
    refine ⟨ret_bi ?_, (by repeat (first | exact Below.refl _ _ | assumption | refine Below.alloc1 ?_ _ | refine Below.drew ?_ | refine qt ?_ | refine Below.setCell ?_ (by first | exact Nat.le_refl _ | (simp; done) | omega | (simp; omega)) _ | refine Below.lift ?_ (by assumption)))⟩
    go_light
    simp_all [wN]
  · have h : (!{ kind := k, n := n, s := s : Val }.right) = false ∧ (!{ kind := k', n := n', s := s' : Val }.right) = false := by assumption
    have H := hide h
    clear h
    refine wp_spec (by kernel_rfl) ?_
    repeat (refine qH ?_; intro K hK; go_big_quiet_op; go_big_quiet_on)
    refine zx ?_
    intro us
    simp only [junk, Act.put, List.setIfInBounds_toArray, List.set_cons_zero, List.set_cons_succ]
    go_wp2_with (go_at_call 104; refine (texts_any _ _).mono ?_; rintro e w2 ⟨rfl, rfl⟩)
    all_goals
      go_ret2
      refine ⟨ret_bi ?_, (by repeat (first | exact Below.refl _ _ | assumption | refine Below.alloc1 ?_ _ | refine Below.drew ?_ | refine qt ?_ | refine Below.setCell ?_ (by first | exact Nat.le_refl _ | (simp; done) | omega | (simp; omega)) _ | refine Below.lift ?_ (by assumption)))⟩
      have h := H.out
      go_light
      simp_all [wN, lessB]
      try (intro h1; simp_all)
end Go.Proofs.YtppfcacnofjmdaaGreatDoor
namespace Go.Proofs.YtppfcacnofjmdaaGreatDoor
set_option linter.unusedVariables false
set_option linter.unusedSimpArgs false
def attrS (a : Atr) : Bool := decide (1 ≤ a.cat) && decide (a.cat ≤ 4) && wO a.name
def manyS (n : Nat) : Int := if n = 0 then 1 else if 8 < n then 6 else 0
def matchS (m : Mat) : Bool := attrS m.attr && decide (1 ≤ m.op) && decide (m.op ≤ 3) && m.val.right
def firstE {α : Type} (f : α → Int) : List α → Int
  | [] => 0
  | x :: r => if f x = 0 then firstE f r else f x
def okE (b : Bool) : Int := if b then 0 else 1
def allOfS (l : List Mat) : Int := if manyS l.length = 0 then firstE (fun m => okE (matchS m)) l else manyS l.length
def anyOfS (l : List (List Mat)) : Int := if manyS l.length = 0 then firstE allOfS l else manyS l.length
def zI (t : Tar) : Int := if 8 < t.length then 6 else firstE anyOfS t
def oblS (o : Obli) : Bool := decide (1 ≤ o.on) && decide (o.on ≤ 2) && decide (1 ≤ o.kind) && decide (o.kind ≤ 4) && wO o.arg
def oblsS (l : List Obli) : Int := if 8 < l.length then 6 else firstE (fun o => okE (oblS o)) l
def zu (op : Int) : Option (List Bool) :=
  if op = 1 ∨ op = 2 then some []
  else if op = 3 ∨ op = 4 then some [true]
  else if op = 5 then some [true, false]
  else if op = 11 then some [false]
  else if 6 ≤ op ∧ op ≤ 13 then some [false, false]
  else none
def noAtr : Atr := ⟨0, ⟨#[]⟩, false⟩
def isNoVal (v : Val) : Bool := decide (v.kind = 0) && decide (v.n = 0) && decide (v.s.size = 0)
def isNoAtr (a : Atr) : Bool := decide (a.cat = 0) && decide (a.name.size = 0) && !a.must
def ji (n : Nod) : Bool :=
  if n.op = 1 then n.val.right && isNoAtr n.attr
  else if n.op = 2 then attrS n.attr && isNoVal n.val
  else isNoVal n.val && isNoAtr n.attr
def zy (l : List Bool) (n : Nod) : Option (List Bool) := match zu n.op with
  | none => none
  | some w => if ji n = true ∧ w.length ≤ l.length ∧ l.drop (l.length - w.length) = w then some (l.take (l.length - w.length) ++ [decide (n.op = 2)]) else none
def qW : List Bool → List Nod → Option (List Bool)
  | l, [] => some l
  | l, n :: r => match zy l n with
    | some l' => qW l' r
    | none => none
def zo (l : List Nod) : Int :=
  if 32 < l.length then 6 else match qW [] l with
    | none => 1
    | some made => if l = [] ∨ made = [false] then 0 else 1
structure Wlk where
  met : List ByteArray
  rules : Int
def hasS (m : List ByteArray) (s : ByteArray) : Bool := m.any fun t => decide (s = t)
def zO (m : List ByteArray) (s : ByteArray) : Bool := !hasS m s && wO s
def nameM (m : List ByteArray) (s : ByteArray) : List ByteArray := if zO m s then m ++ [s] else m
def ruleE (r : Rul) : Int := if zI r.target = 0 then (if zo r.cond = 0 then oblsS r.obls else zo r.cond) else zI r.target
def zq (w : Wlk) (r : Rul) : Int × Wlk :=
  if zO w.met r.id then (if 64 < w.rules + 1 then 6 else ruleE r, ⟨w.met ++ [r.id], w.rules + 1⟩) else (1, w)
def headE (p : Pol) : Int :=
  if (p.set && decide (0 < p.rules.length)) || (!p.set && (decide (0 < p.kids.length) || decide (p.alg = 4))) then 1
  else if zI p.target = 0 then (if oblsS p.obls = 0 then (if 16 < p.rules.length ∨ 16 < p.kids.length then 6 else 0) else oblsS p.obls) else zI p.target
def zF (w : Wlk) (p : Pol) : Int × Wlk :=
  (if zO w.met p.id && decide (1 ≤ p.alg) && decide (p.alg ≤ 6) then headE p else 1, ⟨nameM w.met p.id, w.rules⟩)
def seqS {α : Type} (f : Wlk → α → Int × Wlk) : Wlk → List α → Int × Wlk
  | w, [] => (0, w)
  | w, x :: r => if (f w x).1 = 0 then seqS f (f w x).2 r else f w x
def polS : Nat → Wlk → Pol → Int × Wlk
  | 0, w, _ => (6, w)
  | n + 1, w, p =>
    if (zF w p).1 = 0 then
      if (seqS zq (zF w p).2 p.rules).1 = 0 then seqS (polS n) (seqS zq (zF w p).2 p.rules).2 p.kids
      else seqS zq (zF w p).2 p.rules
    else zF w p
def zb (p : Pol) : Int := (polS 4 ⟨[], 0⟩ p).1
theorem seqS_some {α : Type} {f : Wlk → α → Int × Wlk} : ∀ {l : List α} {w : Wlk} {k : Nat} (hk : k < l.length), (seqS f w (l.take k)).1 = 0 → seqS f w (l.take (k + 1)) = f (seqS f w (l.take k)).2 l[k]
  | x :: r, w, 0, _, _ => by
    simp only [Nat.zero_add, List.take_succ_cons, List.take_zero, seqS, List.getElem_cons_zero]
    split
    · rename_i h; rw [← h]
    · rfl
  | x :: r, w, k + 1, hk, h => by
    rw [List.take_succ_cons, seqS] at h
    rw [List.take_succ_cons, List.take_succ_cons, seqS, seqS]
    by_cases h0 : (f w x).1 = 0
    · rw [if_pos h0] at h
      rw [if_pos h0, if_pos h0]
      exact seqS_some (by simpa using hk) h
    · rw [if_neg h0] at h; exact absurd h h0
theorem seqS_stop {α : Type} {f : Wlk → α → Int × Wlk} : ∀ {l : List α} {w : Wlk} (k : Nat), (seqS f w (l.take k)).1 ≠ 0 → seqS f w l = seqS f w (l.take k)
  | [], w, k, _ => by simp
  | x :: r, w, 0, h => by simp [seqS] at h
  | x :: r, w, k + 1, h => by
    rw [List.take_succ_cons, seqS] at h ⊢
    rw [seqS]
    by_cases h0 : (f w x).1 = 0
    · rw [if_pos h0] at h ⊢
      rw [if_pos h0]
      exact seqS_stop k h
    · rw [if_neg h0, if_neg h0]
theorem wV {α : Type} {f : α → Int} : ∀ {l : List α} {k : Nat} (hk : k < l.length), (∀ x ∈ l.take k, f x = 0) → f l[k] ≠ 0 → firstE f l = f l[k]
  | x :: r, 0, _, _, h => by simp only [List.getElem_cons_zero] at h ⊢; rw [firstE, if_neg h]
  | x :: r, k + 1, hk, ha, h => by
    have h0 : f x = 0 := ha x (by simp)
    rw [firstE, if_pos h0]
    simp only [List.getElem_cons_succ] at h ⊢
    exact wV (by simpa using hk) (fun y hy => ha y (by rw [List.take_succ_cons]; exact List.mem_cons_of_mem _ hy)) h
theorem wT {α : Type} {f : α → Int} : ∀ {l : List α}, (∀ x ∈ l, f x = 0) → firstE f l = 0
  | [], _ => rfl
  | x :: r, h => by rw [firstE, if_pos (h x List.mem_cons_self)]; exact wT fun y hy => h y (List.mem_cons_of_mem _ hy)
theorem take_ok {α : Type} {p : α → Prop} {l : List α} {k : Nat} (h : k < l.length) (ha : ∀ x ∈ l.take k, p x) (hk : p l[k]) : ∀ x ∈ l.take (k + 1), p x := by
  intro x hx
  rw [List.take_succ_eq_append_getElem h, List.mem_append, List.mem_singleton] at hx
  rcases hx with hx | rfl
  · exact ha x hx
  · exact hk
end Go.Proofs.YtppfcacnofjmdaaGreatDoor
namespace Go.Proofs.YtppfcacnofjmdaaGreatDoor
set_option linter.unusedVariables false
set_option linter.unusedSimpArgs false
open Go.RowKit
set_option maxHeartbeats 1000000
theorem one_arg {vs : List Value} (h : vs.length = 1) : ∃ u, vs = [u] := by
  match vs, h with
  | [u], _ => exact ⟨u, rfl⟩
theorem toList_nil (s : ByteArray) : (s.toList == ([] : List UInt8)) = decide (s.size = 0) := by
  rw [Bool.eq_iff_iff]
  simp only [beq_iff_eq, decide_eq_true_eq]
  refine ⟨fun h => ?_, fun h => ?_⟩
  · have := jg s; rw [h] at this; simpa using this
  · have := jg s; rw [h] at this; simpa using this
theorem name_h (s : ByteArray) (hs : s.size ≤ reachBytes) : Holds Tryz.prog 105 [pS s] (.p (pB (wO s))) [] :=
  .of_calls Tryz.func105 (by kernel_rfl) rfl (fun w vs hl hr => by
    obtain ⟨u, rfl⟩ := one_arg hl
    have h := zX (hr 0 _ u rfl rfl) rfl
    subst h
    exact (name_any s w hs).mono fun e w' ⟨h1, h2⟩ => ⟨h1, h2 ▸ Below.refl _ _⟩) rfl fun w => .p (.v rfl)
theorem qad (v : Val) (hs : v.s.size ≤ reachBytes) : Holds Tryz.prog 103 [.agg v.pv] (.p (pB v.right)) [] :=
  .of_calls Tryz.func103 (by kernel_rfl) rfl (fun w vs hl hr => by
    obtain ⟨u, rfl⟩ := one_arg hl
    have h := zX (hr 0 _ u rfl rfl) rfl
    subst h
    exact right_any v.kind v.n v.s w hs) rfl fun w => .p (.v rfl)
theorem beq_bytes2 (a b : ByteArray) : (a.toList == b.toList) = decide (a = b) := by
  rw [Bool.eq_iff_iff]
  simp only [beq_iff_eq, decide_eq_true_eq]
  exact ⟨toList_inj, fun h => by rw [h]⟩
theorem eqL_val (x y : Val) : eqL x.pv y.pv = some (jh x y) := by
  have h : eqL x.pv y.pv = some ((x.kind == y.kind) && ((x.n == y.n) && ((x.s.toList == y.s.toList) && true))) := rfl
  rw [h, beq_bytes2, Bool.and_true]
  congr 1
  rw [Bool.eq_iff_iff]
  simp [jh, and_assoc]
theorem opR_eqV {T : TT} {K : List Nat} {st : St} {o : Op} {t t' : TypeId} {a b : Operand} (x y : Val) (ho : o = .binOp .eql t a b t') {n m : Nat} {d : Ty} {z : List Value} (ht : lk t T = some ⟨n, m, d, z, true⟩) (ha : evS st a = some (.p (.agg x.pv))) (hb : evS st b = some (.p (.agg y.pv))) : opR T K st o = some (zm x.pv z = true, .p (pB (jh x y))) := by
  subst ho
  show rBin T .eql t (evS st a) (evS st b) = _
  rw [ha, hb]
  unfold rBin
  simp only [ht, eqL_val]
theorem opR_neV {T : TT} {K : List Nat} {st : St} {o : Op} {t t' : TypeId} {a b : Operand} (x y : Val) (ho : o = .binOp .neq t a b t') {n m : Nat} {d : Ty} {z : List Value} (ht : lk t T = some ⟨n, m, d, z, true⟩) (ha : evS st a = some (.p (.agg x.pv))) (hb : evS st b = some (.p (.agg y.pv))) : opR T K st o = some (zm x.pv z = true, .p (pB (!jh x y))) := by
  subst ho
  show rBin T .neq t (evS st a) (evS st b) = _
  rw [ha, hb]
  unfold rBin
  simp only [ht, eqL_val]
theorem sameV_refl (x : Val) : jh x x = true := by simp [jh]
end Go.Proofs.YtppfcacnofjmdaaGreatDoor
namespace Go.Proofs.YtppfcacnofjmdaaGreatDoor
set_option linter.unusedVariables false
set_option linter.unusedSimpArgs false
open Go.RowKit
set_option maxHeartbeats 1000000
def Nod.pv (x : Nod) : List PV := [pI x.op, pI x.val.kind, pI x.val.n, pS x.val.s, pI x.attr.cat, pS x.attr.name, pB x.attr.must]
def Obli.pv (x : Obli) : List PV := [pI x.on, pI x.kind, pS x.arg]
def qar (l : List Nod) : PV := .sl 7 (l.map Nod.pv)
def zQ (l : List Obli) : PV := .sl 3 (l.map Obli.pv)
def jA (l : List Bool) : List (List PV) := l.map fun b => [pB b]
def zt (r : Rul) : List PV := [pS r.id, pB r.deny, tgtP r.target, qar r.cond, zQ r.obls]
theorem attr_h (a : Atr) (ha : a.name.size ≤ reachBytes) : Holds Tryz.prog 143 [.agg a.pv] (.p (pB (attrS a))) [] := by
  refine qA (ts := [2]) Tryz.func143 (by kernel_rfl) rfl rfl rfl ?_
  (repeat refine qb ?_); refine qa ?_
  repeat (first | refine zR ?_ | refine zK ?_ | refine zM ?_ | refine zB ?_ | refine zA ?_ | refine zS ?_ | refine zL ?_)
  refine qc ?_
  (repeat refine qb ?_); refine qs (by kernel_rfl) ?_
  repeat (refine qr qe rfl (by exact True.intro) rfl ?_)
  refine zj rfl rfl rfl rfl (name_h a.name ha) rfl rfl ?_
  repeat (refine qr qe rfl (by exact True.intro) rfl ?_)
  refine qQ ?_
  (repeat refine qb ?_); refine qk ?_
  refine wS rfl ?_
  unfold attrS
  cases h1 : decide (1 ≤ a.cat) <;> cases h2 : decide (a.cat ≤ 4) <;> simp_all
theorem many_h (n : Nat) : Holds Tryz.prog 134 [pI n] (.p (pI (manyS n))) [] := by
  refine qA (ts := [2]) Tryz.func134 (by kernel_rfl) rfl rfl rfl ?_
  (repeat refine qb ?_); refine qa ?_
  repeat (first | refine zR ?_ | refine zK ?_ | refine zM ?_ | refine zB ?_ | refine zA ?_ | refine zS ?_ | refine zL ?_)
  refine qc ?_
  (repeat refine qb ?_); refine ql ?_
  (repeat refine qb ?_); refine qa ?_
  repeat (first | refine zR ?_ | refine zK ?_ | refine zM ?_ | refine zB ?_ | refine zA ?_ | refine zS ?_ | refine zL ?_)
  refine qc ?_
  (repeat refine qb ?_); refine qf rfl (fun h => ?_) (fun h => ?_)
  · have h0 : n = 0 := by simpa using h
    subst h0
    (repeat refine qb ?_); refine qa ?_
    repeat (first | refine zR ?_ | refine zK ?_ | refine zM ?_ | refine zB ?_ | refine zA ?_ | refine zS ?_ | refine zL ?_)
    refine qc ?_
    (repeat refine qb ?_); refine qk ?_
    exact zg rfl rfl
  · have h0 : n ≠ 0 := by simpa using h
    (repeat refine qb ?_); refine qa ?_
    repeat (first | refine zR ?_ | refine zK ?_ | refine zM ?_ | refine zB ?_ | refine zA ?_ | refine zS ?_ | refine zL ?_)
    refine qc ?_
    (repeat refine qb ?_); refine qf rfl (fun h2 => ?_) (fun h2 => ?_)
    · (repeat refine qb ?_); refine qa ?_
      repeat (first | refine zR ?_ | refine zK ?_ | refine zM ?_ | refine zB ?_ | refine zA ?_ | refine zS ?_ | refine zL ?_)
      refine qc ?_
      (repeat refine qb ?_); refine qk ?_
      refine zg rfl ?_
      simp at h2
      simp [manyS, h0]; omega
    · refine qm ?_
      (repeat refine qb ?_); refine qa ?_
      repeat (first | refine zR ?_ | refine zK ?_ | refine zM ?_ | refine zB ?_ | refine zA ?_ | refine zS ?_ | refine zL ?_)
      refine qc ?_
      (repeat refine qb ?_); refine qk ?_
      refine zg rfl ?_
      simp at h2
      simp [manyS, h0]; omega
theorem match_h (m : Mat) (hm : m.Fit) : Holds Tryz.prog 153 [.agg m.pv] (.p (pB (matchS m))) [] := by
  refine qA (ts := [2]) Tryz.func153 (by kernel_rfl) rfl rfl rfl ?_
  (repeat refine qb ?_); refine qa ?_
  repeat (first | refine zR ?_ | refine zK ?_ | refine zM ?_ | refine zB ?_ | refine zA ?_ | refine zS ?_ | refine zL ?_)
  refine qc ?_
  (repeat refine qb ?_); refine qs (by kernel_rfl) ?_
  repeat (refine qr qe rfl (by exact True.intro) rfl ?_)
  refine zj rfl rfl rfl rfl (attr_h m.attr hm.attr.name) rfl rfl ?_
  repeat (refine qr qe rfl (by exact True.intro) rfl ?_)
  refine zj rfl rfl rfl rfl (qad m.val hm.val.s) rfl rfl ?_
  repeat (refine qr qe rfl (by exact True.intro) rfl ?_)
  refine qQ ?_
  (repeat refine qb ?_); refine qk ?_
  refine wS rfl ?_
  unfold matchS
  cases attrS m.attr <;> cases h1 : decide (1 ≤ m.op) <;> cases h2 : decide (m.op ≤ 3) <;> simp_all
theorem allOf_h (l : List Mat) (hf : ∀ x ∈ l, x.Fit) : Holds Tryz.prog 135 [matsP l] (.p (pI (allOfS l))) [] := by
  refine qA (ts := [2]) Tryz.func135 (by kernel_rfl) rfl rfl rfl ?_
  refine sw_len (t := 0) (z := 7) (l := l.map Mat.pv) rfl fun hlen => ?_
  rw [List.length_map] at hlen
  unfold reachBytes at hlen
  (repeat refine qb ?_); refine qa ?_
  repeat (first | refine zR ?_ | refine zK ?_ | refine zM ?_ | refine zB ?_ | refine zA ?_ | refine zS ?_ | refine zL ?_)
  refine qc ?_
  (repeat refine qb ?_); refine qa ?_
  repeat (first | refine zR ?_ | refine zK ?_ | refine zM ?_ | refine zB ?_ | refine zA ?_ | refine zS ?_ | refine zL ?_)
  refine qn rfl (qg rfl rfl rfl rfl (many_h (l.map Mat.pv).length) rfl rfl ?_)
  repeat (first | refine zR ?_ | refine zK ?_ | refine zM ?_ | refine zB ?_ | refine zA ?_ | refine zS ?_ | refine zL ?_)
  refine qc ?_
  (repeat refine qb ?_); refine qa ?_
  repeat (first | refine zR ?_ | refine zK ?_ | refine zM ?_ | refine zB ?_ | refine zA ?_ | refine zS ?_ | refine zL ?_)
  refine qc ?_
  rw [List.length_map]
  (repeat refine qb ?_); refine qf rfl (fun hm => ?_) (fun hm => ?_)
  · (repeat refine qb ?_); refine qa ?_
    repeat (first | refine zR ?_ | refine zK ?_ | refine zM ?_ | refine zB ?_ | refine zA ?_ | refine zS ?_ | refine zL ?_)
    refine qc ?_
    (repeat refine qb ?_); refine qk ?_
    refine zg rfl ?_
    have h0 : manyS l.length ≠ 0 := by simpa using hm
    simp [allOfS, h0]
  · refine qm ?_
    have h0 : manyS l.length = 0 := by simpa using hm
    (repeat refine qb ?_); refine qa ?_
    repeat (first | refine zR ?_ | refine zK ?_ | refine zM ?_ | refine zB ?_ | refine zA ?_ | refine zS ?_ | refine zL ?_)
    refine qc ?_
    (repeat refine qb ?_); refine ql ?_
    refine SW.wk (qq [12, 13, 14] [] rfl rfl) ?_
    refine qO (fun n s => ∃ (k : Nat) (kk : Int), k ≤ l.length ∧ n = l.length - k ∧ kk = k ∧ (∀ x ∈ l.take k, (fun m => okE (matchS m)) x = 0) ∧ s = ⟨22, [(12, .p (matsP l)), (13, .p (pI (l.map Mat.pv).length)), (14, .p (pI kk))], []⟩) l.length ⟨0, 0, Nat.zero_le _, rfl, rfl, by simp, rfl⟩ ?_
    rintro n s ⟨k, _, hk, rfl, rfl, ha, rfl⟩
    (repeat refine qb ?_); refine qa ?_
    repeat (first | refine zR ?_ | refine zK ?_ | refine zM ?_ | refine zB ?_ | refine zA ?_ | refine zS ?_ | refine zL ?_)
    refine qc ?_
    (repeat refine qb ?_); refine qf rfl (fun hlt => ?_) (fun hlt => ?_)
    · refine qm ?_
      simp only [List.length_map, decide_eq_true_eq] at hlt
      have hlt' : k < l.length := by omega
      (repeat refine qb ?_); refine ql ?_
      (repeat refine qb ?_); refine qa ?_
      repeat (first | refine zR ?_ | refine zK ?_ | refine zM ?_ | refine zB ?_ | refine zA ?_ | refine zS ?_ | refine zL ?_)
      refine qw qe rfl rfl (by simp only [List.length_map]; omega) rfl ?_
      rw [qJ hlt']
      repeat (first | refine zR ?_ | refine zK ?_ | refine zM ?_ | refine zB ?_ | refine zA ?_ | refine zS ?_ | refine zL ?_)
      refine qc ?_
      (repeat refine qb ?_); refine qa ?_
      repeat (first | refine zR ?_ | refine zK ?_ | refine zM ?_ | refine zB ?_ | refine zA ?_ | refine zS ?_ | refine zL ?_)
      refine qn rfl (qg rfl rfl rfl rfl (match_h l[k] (hf _ (List.getElem_mem hlt'))) rfl rfl ?_)
      repeat (first | refine zR ?_ | refine zK ?_ | refine zM ?_ | refine zB ?_ | refine zA ?_ | refine zS ?_ | refine zL ?_)
      refine qc ?_
      (repeat refine qb ?_); refine qf rfl (fun hp => ?_) (fun hp => ?_)
      · (repeat refine qb ?_); refine qa ?_
        repeat (first | refine zR ?_ | refine zK ?_ | refine zM ?_ | refine zB ?_ | refine zA ?_ | refine zS ?_ | refine zL ?_)
        refine qc ?_
        (repeat refine qb ?_); refine qk ?_
        refine zg rfl ?_
        have hq : okE (matchS l[k]) = 1 := by simpa [okE] using hp
        rw [allOfS, if_pos h0, wV (f := fun m => okE (matchS m)) hlt' ha (by rw [hq]; decide), hq]
      · refine qm ?_
        (repeat refine qb ?_); refine qa ?_
        repeat (first | refine zR ?_ | refine zK ?_ | refine zM ?_ | refine zB ?_ | refine zA ?_ | refine zS ?_ | refine zL ?_)
        refine qc ?_
        refine ⟨_, _, ?_, qq [12, 13, 14] [] rfl rfl, k + 1, _, hlt', rfl, qz hlt' (by omega), take_ok hlt' ha (by simpa [okE] using hp), rfl⟩
        omega
    · refine qK ?_
      simp only [List.length_map, decide_eq_false_iff_not] at hlt
      have hkk : k = l.length := by omega
      subst hkk
      rw [List.take_length] at ha
      (repeat refine qb ?_); refine qa ?_
      repeat (first | refine zR ?_ | refine zK ?_ | refine zM ?_ | refine zB ?_ | refine zA ?_ | refine zS ?_ | refine zL ?_)
      refine qc ?_
      (repeat refine qb ?_); refine qk ?_
      refine zg rfl ?_
      simp [allOfS, h0, wT ha]
theorem anyOf_h (l : List (List Mat)) (hf : ∀ x ∈ l, ∀ m ∈ x, m.Fit) : Holds Tryz.prog 106 [anyP l] (.p (pI (anyOfS l))) [] := by
  refine qA (ts := [2]) Tryz.func106 (by kernel_rfl) rfl rfl rfl ?_
  refine sw_len (t := 0) (z := 1) (l := l.map (fun x => [matsP x])) rfl fun hlen => ?_
  rw [List.length_map] at hlen
  unfold reachBytes at hlen
  (repeat refine qb ?_); refine qa ?_
  repeat (first | refine zR ?_ | refine zK ?_ | refine zM ?_ | refine zB ?_ | refine zA ?_ | refine zS ?_ | refine zL ?_)
  refine qc ?_
  (repeat refine qb ?_); refine qa ?_
  repeat (first | refine zR ?_ | refine zK ?_ | refine zM ?_ | refine zB ?_ | refine zA ?_ | refine zS ?_ | refine zL ?_)
  refine qn rfl (qg rfl rfl rfl rfl (many_h (l.map (fun x => [matsP x])).length) rfl rfl ?_)
  repeat (first | refine zR ?_ | refine zK ?_ | refine zM ?_ | refine zB ?_ | refine zA ?_ | refine zS ?_ | refine zL ?_)
  refine qc ?_
  (repeat refine qb ?_); refine qa ?_
  repeat (first | refine zR ?_ | refine zK ?_ | refine zM ?_ | refine zB ?_ | refine zA ?_ | refine zS ?_ | refine zL ?_)
  refine qc ?_
  rw [List.length_map]
  (repeat refine qb ?_); refine qf rfl (fun hm => ?_) (fun hm => ?_)
  · (repeat refine qb ?_); refine qa ?_
    repeat (first | refine zR ?_ | refine zK ?_ | refine zM ?_ | refine zB ?_ | refine zA ?_ | refine zS ?_ | refine zL ?_)
    refine qc ?_
    (repeat refine qb ?_); refine qk ?_
    refine zg rfl ?_
    have h0 : manyS l.length ≠ 0 := by simpa using hm
    simp [anyOfS, h0]
  · refine qm ?_
    have h0 : manyS l.length = 0 := by simpa using hm
    (repeat refine qb ?_); refine qa ?_
    repeat (first | refine zR ?_ | refine zK ?_ | refine zM ?_ | refine zB ?_ | refine zA ?_ | refine zS ?_ | refine zL ?_)
    refine qc ?_
    (repeat refine qb ?_); refine ql ?_
    refine SW.wk (qq [13, 14, 15] [] rfl rfl) ?_
    refine qO (fun n s => ∃ (k : Nat) (kk : Int), k ≤ l.length ∧ n = l.length - k ∧ kk = k ∧ (∀ x ∈ l.take k, allOfS x = 0) ∧ s = ⟨25, [(13, .p (anyP l)), (14, .p (pI (l.map (fun x => [matsP x])).length)), (15, .p (pI kk))], []⟩) l.length ⟨0, 0, Nat.zero_le _, rfl, rfl, by simp, rfl⟩ ?_
    rintro n s ⟨k, _, hk, rfl, rfl, ha, rfl⟩
    (repeat refine qb ?_); refine qa ?_
    repeat (first | refine zR ?_ | refine zK ?_ | refine zM ?_ | refine zB ?_ | refine zA ?_ | refine zS ?_ | refine zL ?_)
    refine qc ?_
    (repeat refine qb ?_); refine qf rfl (fun hlt => ?_) (fun hlt => ?_)
    · refine qm ?_
      simp only [List.length_map, decide_eq_true_eq] at hlt
      have hlt' : k < l.length := by omega
      (repeat refine qb ?_); refine ql ?_
      (repeat refine qb ?_); refine qa ?_
      repeat (first | refine zR ?_ | refine zK ?_ | refine zM ?_ | refine zB ?_ | refine zA ?_ | refine zS ?_ | refine zL ?_)
      refine qw qe rfl rfl (by simp only [List.length_map]; omega) rfl ?_
      rw [qJ hlt']
      repeat (first | refine zR ?_ | refine zK ?_ | refine zM ?_ | refine zB ?_ | refine zA ?_ | refine zS ?_ | refine zL ?_)
      refine qc ?_
      (repeat refine qb ?_); refine qa ?_
      repeat (first | refine zR ?_ | refine zK ?_ | refine zM ?_ | refine zB ?_ | refine zA ?_ | refine zS ?_ | refine zL ?_)
      refine qn rfl (qg rfl rfl rfl rfl (allOf_h l[k] (hf _ (List.getElem_mem hlt'))) rfl rfl ?_)
      repeat (first | refine zR ?_ | refine zK ?_ | refine zM ?_ | refine zB ?_ | refine zA ?_ | refine zS ?_ | refine zL ?_)
      refine qc ?_
      (repeat refine qb ?_); refine qa ?_
      repeat (first | refine zR ?_ | refine zK ?_ | refine zM ?_ | refine zB ?_ | refine zA ?_ | refine zS ?_ | refine zL ?_)
      refine qc ?_
      (repeat refine qb ?_); refine qf rfl (fun hp => ?_) (fun hp => ?_)
      · (repeat refine qb ?_); refine qa ?_
        repeat (first | refine zR ?_ | refine zK ?_ | refine zM ?_ | refine zB ?_ | refine zA ?_ | refine zS ?_ | refine zL ?_)
        refine qc ?_
        (repeat refine qb ?_); refine qk ?_
        refine zg rfl ?_
        have hq : allOfS l[k] ≠ 0 := by simpa using hp
        rw [anyOfS, if_pos h0, wV hlt' ha hq]
      · refine qm ?_
        (repeat refine qb ?_); refine qa ?_
        repeat (first | refine zR ?_ | refine zK ?_ | refine zM ?_ | refine zB ?_ | refine zA ?_ | refine zS ?_ | refine zL ?_)
        refine qc ?_
        refine ⟨_, _, ?_, qq [13, 14, 15] [] rfl rfl, k + 1, _, hlt', rfl, qz hlt' (by omega), take_ok hlt' ha (by simpa using hp), rfl⟩
        omega
    · refine qK ?_
      simp only [List.length_map, decide_eq_false_iff_not] at hlt
      have hkk : k = l.length := by omega
      subst hkk
      rw [List.take_length] at ha
      (repeat refine qb ?_); refine qa ?_
      repeat (first | refine zR ?_ | refine zK ?_ | refine zM ?_ | refine zB ?_ | refine zA ?_ | refine zS ?_ | refine zL ?_)
      refine qc ?_
      (repeat refine qb ?_); refine qk ?_
      refine zg rfl ?_
      simp [anyOfS, h0, wT ha]
theorem target_h (l : List (List (List Mat))) (hf : ∀ x ∈ l, ∀ y ∈ x, ∀ m ∈ y, m.Fit) : Holds Tryz.prog 85 [tgtP l] (.p (pI (zI l))) [] := by
  refine qA (ts := [2]) Tryz.func85 (by kernel_rfl) rfl rfl rfl ?_
  refine sw_len (t := 0) (z := 1) (l := l.map (fun x => [anyP x])) rfl fun hlen => ?_
  rw [List.length_map] at hlen
  unfold reachBytes at hlen
  (repeat refine qb ?_); refine qa ?_
  repeat (first | refine zR ?_ | refine zK ?_ | refine zM ?_ | refine zB ?_ | refine zA ?_ | refine zS ?_ | refine zL ?_)
  refine qc ?_
  (repeat refine qb ?_); refine qa ?_
  repeat (first | refine zR ?_ | refine zK ?_ | refine zM ?_ | refine zB ?_ | refine zA ?_ | refine zS ?_ | refine zL ?_)
  refine qc ?_
  rw [List.length_map]
  (repeat refine qb ?_); refine qf rfl (fun hm => ?_) (fun hm => ?_)
  · (repeat refine qb ?_); refine qa ?_
    repeat (first | refine zR ?_ | refine zK ?_ | refine zM ?_ | refine zB ?_ | refine zA ?_ | refine zS ?_ | refine zL ?_)
    refine qc ?_
    (repeat refine qb ?_); refine qk ?_
    refine zg rfl ?_
    have h0 : 8 < l.length := by simp at hm; omega
    simp [zI, h0]
  · refine qm ?_
    have h0 : ¬ 8 < l.length := by simp at hm; omega
    (repeat refine qb ?_); refine qa ?_
    repeat (first | refine zR ?_ | refine zK ?_ | refine zM ?_ | refine zB ?_ | refine zA ?_ | refine zS ?_ | refine zL ?_)
    refine qc ?_
    (repeat refine qb ?_); refine ql ?_
    refine SW.wk (qq [9, 10, 11] [] rfl rfl) ?_
    refine qO (fun n s => ∃ (k : Nat) (kk : Int), k ≤ l.length ∧ n = l.length - k ∧ kk = k ∧ (∀ x ∈ l.take k, anyOfS x = 0) ∧ s = ⟨21, [(9, .p (tgtP l)), (10, .p (pI (l.map (fun x => [anyP x])).length)), (11, .p (pI kk))], []⟩) l.length ⟨0, 0, Nat.zero_le _, rfl, rfl, by simp, rfl⟩ ?_
    rintro n s ⟨k, _, hk, rfl, rfl, ha, rfl⟩
    (repeat refine qb ?_); refine qa ?_
    repeat (first | refine zR ?_ | refine zK ?_ | refine zM ?_ | refine zB ?_ | refine zA ?_ | refine zS ?_ | refine zL ?_)
    refine qc ?_
    (repeat refine qb ?_); refine qf rfl (fun hlt => ?_) (fun hlt => ?_)
    · refine qm ?_
      simp only [List.length_map, decide_eq_true_eq] at hlt
      have hlt' : k < l.length := by omega
      (repeat refine qb ?_); refine ql ?_
      (repeat refine qb ?_); refine qa ?_
      repeat (first | refine zR ?_ | refine zK ?_ | refine zM ?_ | refine zB ?_ | refine zA ?_ | refine zS ?_ | refine zL ?_)
      refine qw qe rfl rfl (by simp only [List.length_map]; omega) rfl ?_
      rw [qJ hlt']
      repeat (first | refine zR ?_ | refine zK ?_ | refine zM ?_ | refine zB ?_ | refine zA ?_ | refine zS ?_ | refine zL ?_)
      refine qc ?_
      (repeat refine qb ?_); refine qa ?_
      repeat (first | refine zR ?_ | refine zK ?_ | refine zM ?_ | refine zB ?_ | refine zA ?_ | refine zS ?_ | refine zL ?_)
      refine qn rfl (qg rfl rfl rfl rfl (anyOf_h l[k] (hf _ (List.getElem_mem hlt'))) rfl rfl ?_)
      repeat (first | refine zR ?_ | refine zK ?_ | refine zM ?_ | refine zB ?_ | refine zA ?_ | refine zS ?_ | refine zL ?_)
      refine qc ?_
      (repeat refine qb ?_); refine qa ?_
      repeat (first | refine zR ?_ | refine zK ?_ | refine zM ?_ | refine zB ?_ | refine zA ?_ | refine zS ?_ | refine zL ?_)
      refine qc ?_
      (repeat refine qb ?_); refine qf rfl (fun hp => ?_) (fun hp => ?_)
      · (repeat refine qb ?_); refine qa ?_
        repeat (first | refine zR ?_ | refine zK ?_ | refine zM ?_ | refine zB ?_ | refine zA ?_ | refine zS ?_ | refine zL ?_)
        refine qc ?_
        (repeat refine qb ?_); refine qk ?_
        refine zg rfl ?_
        have hq : anyOfS l[k] ≠ 0 := by simpa using hp
        rw [zI, if_neg h0, wV hlt' ha hq]
      · refine qm ?_
        (repeat refine qb ?_); refine qa ?_
        repeat (first | refine zR ?_ | refine zK ?_ | refine zM ?_ | refine zB ?_ | refine zA ?_ | refine zS ?_ | refine zL ?_)
        refine qc ?_
        refine ⟨_, _, ?_, qq [9, 10, 11] [] rfl rfl, k + 1, _, hlt', rfl, qz hlt' (by omega), take_ok hlt' ha (by simpa using hp), rfl⟩
        omega
    · refine qK ?_
      simp only [List.length_map, decide_eq_false_iff_not] at hlt
      have hkk : k = l.length := by omega
      subst hkk
      rw [List.take_length] at ha
      (repeat refine qb ?_); refine qa ?_
      repeat (first | refine zR ?_ | refine zK ?_ | refine zM ?_ | refine zB ?_ | refine zA ?_ | refine zS ?_ | refine zL ?_)
      refine qc ?_
      (repeat refine qb ?_); refine qk ?_
      refine zg rfl ?_
      simp [zI, h0, wT ha]
theorem oblS_eq (o : Obli) : (!oblS o) = (decide (o.on < 1) || decide (2 < o.on) || decide (o.kind < 1) || decide (4 < o.kind) || !wO o.arg) := by
  rw [Bool.eq_iff_iff]
  simp [oblS]
theorem obls_h (l : List Obli) (hf : ∀ x ∈ l, x.Fit) : Holds Tryz.prog 86 [zQ l] (.p (pI (oblsS l))) [] := by
  refine qA (ts := [2]) Tryz.func86 (by kernel_rfl) rfl rfl rfl ?_
  refine sw_len (t := 0) (z := 3) (l := l.map Obli.pv) rfl fun hlen => ?_
  rw [List.length_map] at hlen
  unfold reachBytes at hlen
  (repeat refine qb ?_); refine qa ?_
  repeat (first | refine zR ?_ | refine zK ?_ | refine zM ?_ | refine zB ?_ | refine zA ?_ | refine zS ?_ | refine zL ?_)
  refine qc ?_
  (repeat refine qb ?_); refine qa ?_
  repeat (first | refine zR ?_ | refine zK ?_ | refine zM ?_ | refine zB ?_ | refine zA ?_ | refine zS ?_ | refine zL ?_)
  refine qc ?_
  rw [List.length_map]
  (repeat refine qb ?_); refine qf rfl (fun hm => ?_) (fun hm => ?_)
  · (repeat refine qb ?_); refine qa ?_
    repeat (first | refine zR ?_ | refine zK ?_ | refine zM ?_ | refine zB ?_ | refine zA ?_ | refine zS ?_ | refine zL ?_)
    refine qc ?_
    (repeat refine qb ?_); refine qk ?_
    refine zg rfl ?_
    have h0 : 8 < l.length := by simp at hm; omega
    simp [oblsS, h0]
  · refine qm ?_
    have h0 : ¬ 8 < l.length := by simp at hm; omega
    (repeat refine qb ?_); refine qa ?_
    repeat (first | refine zR ?_ | refine zK ?_ | refine zM ?_ | refine zB ?_ | refine zA ?_ | refine zS ?_ | refine zL ?_)
    refine qc ?_
    (repeat refine qb ?_); refine ql ?_
    refine SW.wk (qq [8, 9, 10] [] rfl rfl) ?_
    refine qO (fun n s => ∃ (k : Nat) (kk : Int), k ≤ l.length ∧ n = l.length - k ∧ kk = k ∧ (∀ x ∈ l.take k, (fun m => okE (oblS m)) x = 0) ∧ s = ⟨39, [(8, .p (zQ l)), (9, .p (pI (l.map Obli.pv).length)), (10, .p (pI kk))], []⟩) l.length ⟨0, 0, Nat.zero_le _, rfl, rfl, by simp, rfl⟩ ?_
    rintro n s ⟨k, _, hk, rfl, rfl, ha, rfl⟩
    (repeat refine qb ?_); refine qa ?_
    repeat (first | refine zR ?_ | refine zK ?_ | refine zM ?_ | refine zB ?_ | refine zA ?_ | refine zS ?_ | refine zL ?_)
    refine qc ?_
    (repeat refine qb ?_); refine qf rfl (fun hlt => ?_) (fun hlt => ?_)
    · refine qm ?_
      simp only [List.length_map, decide_eq_true_eq] at hlt
      have hlt' : k < l.length := by omega
      (repeat refine qb ?_); refine ql ?_
      (repeat refine qb ?_); refine qa ?_
      repeat (first | refine zR ?_ | refine zK ?_ | refine zM ?_ | refine zB ?_ | refine zA ?_ | refine zS ?_ | refine zL ?_)
      refine qw qe rfl rfl (by simp only [List.length_map]; omega) rfl ?_
      rw [qJ hlt']
      repeat (first | refine zR ?_ | refine zK ?_ | refine zM ?_ | refine zB ?_ | refine zA ?_ | refine zS ?_ | refine zL ?_)
      refine qc ?_
      (repeat refine qb ?_); refine qs (by kernel_rfl) ?_
      repeat (refine qr qe rfl (by exact True.intro) rfl ?_)
      refine zj rfl rfl rfl rfl (name_h l[k].arg (hf _ (List.getElem_mem hlt')).arg) rfl rfl ?_
      repeat (refine qr qe rfl (by exact True.intro) rfl ?_)
      refine qQ ?_
      (repeat refine qb ?_); refine qf rfl (fun hp => ?_) (fun hp => ?_)
      · (repeat refine qb ?_); refine qa ?_
        repeat (first | refine zR ?_ | refine zK ?_ | refine zM ?_ | refine zB ?_ | refine zA ?_ | refine zS ?_ | refine zL ?_)
        refine qc ?_
        (repeat refine qb ?_); refine qk ?_
        refine zg rfl ?_
        have hq : okE (oblS l[k]) = 1 := by
          have := oblS_eq l[k]
          cases h1 : oblS l[k] with
          | false => rfl
          | true =>
            exfalso
            rw [h1] at this
            simp at this hp
            rcases hp with ((((h | h) | h) | h) | h) <;> first | omega | simp_all
        rw [oblsS, if_neg h0, wV (f := fun m => okE (oblS m)) hlt' ha (by rw [hq]; decide), hq]
      · refine qm ?_
        (repeat refine qb ?_); refine qa ?_
        repeat (first | refine zR ?_ | refine zK ?_ | refine zM ?_ | refine zB ?_ | refine zA ?_ | refine zS ?_ | refine zL ?_)
        refine qc ?_
        refine ⟨_, _, ?_, qq [8, 9, 10] [] rfl rfl, k + 1, _, hlt', rfl, qz hlt' (by omega), take_ok hlt' ha ?_, rfl⟩
        · omega
        · have := oblS_eq l[k]
          cases h1 : oblS l[k] with
          | true => simp [okE, h1]
          | false =>
            exfalso
            rw [h1] at this
            simp at this hp
            rcases this with ((((h | h) | h) | h) | h) <;> first | omega | simp_all
    · refine qK ?_
      simp only [List.length_map, decide_eq_false_iff_not] at hlt
      have hkk : k = l.length := by omega
      subst hkk
      rw [List.take_length] at ha
      (repeat refine qb ?_); refine qa ?_
      repeat (first | refine zR ?_ | refine zK ?_ | refine zM ?_ | refine zB ?_ | refine zA ?_ | refine zS ?_ | refine zL ?_)
      refine qc ?_
      (repeat refine qb ?_); refine qk ?_
      refine zg rfl ?_
      simp [oblsS, h0, wT ha]
theorem wk_nilp {st : St} (t d : Nat) (e : TypeId) (z : Nat) (ht : lk t st.fr = some (.p (.v (.slice none 0 0)))) (hd : lk d st.own = none) (hdl : Nat.blt d 1000000 = true := by rfl) : Wk st (St.frz ⟨st.n, (t, .row d) :: st.fr, (d, .row e z []) :: st.own⟩ d z []) :=
  (jP t d e z ht hd hdl).trans (zN (e := e) (by show lk d ((d, Box.row e z []) :: st.own) = _; rw [qE, if_pos rfl]))
theorem wants_h (op : Int) : Holds Tryz.prog 113 [pI op] (.tup [.p (.sl 1 (jA ((zu op).getD []))), .p (pB (zu op).isSome)]) [] := by
  refine qA (ts := [2,3]) Tryz.func113 (by kernel_rfl) rfl rfl rfl ?_
  (repeat refine qb ?_); refine qa ?_
  repeat (first | refine zR ?_ | refine zK ?_ | refine zM ?_ | refine zB ?_ | refine zA ?_ | refine zS ?_ | refine zL ?_)
  refine qc ?_
  (repeat refine qb ?_); refine ql ?_
  (repeat refine qb ?_); refine qs (by kernel_rfl) ?_
  repeat (refine qr qe rfl (by exact True.intro) rfl ?_)
  refine qQ ?_
  (repeat refine qb ?_); refine qf rfl (fun h => ?_) (fun h => ?_)
  · have e : zu op = some [] := by
      unfold zu; rw [if_pos (by simpa using h)]
    rw [e]
    (repeat refine qb ?_); refine qa ?_
    repeat (first | refine zR ?_ | refine zK ?_ | refine zM ?_ | refine zB ?_ | refine zA ?_ | refine zS ?_ | refine zL ?_)
    refine qc ?_
    (repeat refine qb ?_); refine qk ?_
    exact ⟨Or.inr rfl, _, _, [], wk_nilp 2 0 4 1 rfl rfl, rfl, rfl, rfl, rfl⟩
  · have n1 : ¬ (op = 1 ∨ op = 2) := by simpa using h
    (repeat refine qb ?_); refine qs (by kernel_rfl) ?_
    repeat (refine qr qe rfl (by exact True.intro) rfl ?_)
    refine qQ ?_
    (repeat refine qb ?_); refine qf rfl (fun h => ?_) (fun h => ?_)
    · have e : zu op = some [true] := by
        unfold zu; rw [if_neg n1, if_pos (by simpa using h)]
      rw [e]
      (repeat refine qb ?_); refine qa ?_
      repeat (first | refine zR ?_ | refine zK ?_ | refine zM ?_ | refine zB ?_ | refine zA ?_ | refine zS ?_ | refine zL ?_)
      refine qc ?_
      (repeat refine qb ?_); refine qk ?_
      exact ⟨Or.inr rfl, _, _, [], zN (k := 18) rfl, rfl, rfl, rfl, rfl⟩
    · have n2 : ¬ (op = 3 ∨ op = 4) := by simpa using h
      (repeat refine qb ?_); refine qa ?_
      repeat (first | refine zR ?_ | refine zK ?_ | refine zM ?_ | refine zB ?_ | refine zA ?_ | refine zS ?_ | refine zL ?_)
      refine qc ?_
      (repeat refine qb ?_); refine qf rfl (fun h => ?_) (fun h => ?_)
      · have e : zu op = some [true, false] := by
          unfold zu; rw [if_neg n1, if_neg n2, if_pos (by simpa using h)]
        rw [e]
        (repeat refine qb ?_); refine qa ?_
        repeat (first | refine zR ?_ | refine zK ?_ | refine zM ?_ | refine zB ?_ | refine zA ?_ | refine zS ?_ | refine zL ?_)
        refine qc ?_
        (repeat refine qb ?_); refine qk ?_
        exact ⟨Or.inr rfl, _, _, [], zN (k := 22) rfl, rfl, rfl, rfl, rfl⟩
      · have n3 : ¬ op = 5 := by simpa using h
        (repeat refine qb ?_); refine qa ?_
        repeat (first | refine zR ?_ | refine zK ?_ | refine zM ?_ | refine zB ?_ | refine zA ?_ | refine zS ?_ | refine zL ?_)
        refine qc ?_
        (repeat refine qb ?_); refine qf rfl (fun h => ?_) (fun h => ?_)
        · have e : zu op = some [false] := by
            unfold zu; rw [if_neg n1, if_neg n2, if_neg n3, if_pos (by simpa using h)]
          rw [e]
          (repeat refine qb ?_); refine qa ?_
          repeat (first | refine zR ?_ | refine zK ?_ | refine zM ?_ | refine zB ?_ | refine zA ?_ | refine zS ?_ | refine zL ?_)
          refine qc ?_
          (repeat refine qb ?_); refine qk ?_
          exact ⟨Or.inr rfl, _, _, [], zN (k := 26) rfl, rfl, rfl, rfl, rfl⟩
        · have n4 : ¬ op = 11 := by simpa using h
          (repeat refine qb ?_); refine qs (by kernel_rfl) ?_
          repeat (refine qr qe rfl (by exact True.intro) rfl ?_)
          refine qQ ?_
          (repeat refine qb ?_); refine qf rfl (fun h => ?_) (fun h => ?_)
          · have e : zu op = some [false, false] := by
              unfold zu; rw [if_neg n1, if_neg n2, if_neg n3, if_neg n4, if_pos (by simp at h; omega)]
            rw [e]
            (repeat refine qb ?_); refine qa ?_
            repeat (first | refine zR ?_ | refine zK ?_ | refine zM ?_ | refine zB ?_ | refine zA ?_ | refine zS ?_ | refine zL ?_)
            refine qc ?_
            (repeat refine qb ?_); refine qk ?_
            exact ⟨Or.inr rfl, _, _, [], zN (k := 34) rfl, rfl, rfl, rfl, rfl⟩
          · have e : zu op = none := by
              unfold zu; rw [if_neg n1, if_neg n2, if_neg n3, if_neg n4, if_neg (by simp at h; omega)]
            rw [e]
            refine qm ?_
            (repeat refine qb ?_); refine qa ?_
            repeat (first | refine zR ?_ | refine zK ?_ | refine zM ?_ | refine zB ?_ | refine zA ?_ | refine zS ?_ | refine zL ?_)
            refine qc ?_
            (repeat refine qb ?_); refine qk ?_
            exact ⟨Or.inr rfl, _, _, [], wk_nilp 2 0 4 1 rfl rfl, rfl, rfl, rfl, rfl⟩
theorem noVal_eq (v : Val) : (v.kind == 0 && (v.n == 0 && v.s.toList.isEmpty)) = isNoVal v := by
  rw [jg, Bool.eq_iff_iff]
  simp [isNoVal, and_assoc]
theorem noAtr_eq (a : Atr) : (a.cat == 0 && (a.name.toList.isEmpty && !a.must)) = isNoAtr a := by
  rw [jg, Bool.eq_iff_iff]
  simp [isNoAtr, and_assoc]
theorem fields_h (n : Nod) (hn : n.Fit) : Holds Tryz.prog 114 [.agg n.pv] (.p (pB (ji n))) [] := by
  refine qA (ts := [2]) Tryz.func114 (by kernel_rfl) rfl rfl rfl ?_
  (repeat refine qb ?_); refine qa ?_
  repeat (first | refine zR ?_ | refine zK ?_ | refine zM ?_ | refine zB ?_ | refine zA ?_ | refine zS ?_ | refine zL ?_)
  refine qc ?_
  (repeat refine qb ?_); refine qa ?_
  repeat (first | refine zR ?_ | refine zK ?_ | refine zM ?_ | refine zB ?_ | refine zA ?_ | refine zS ?_ | refine zL ?_)
  refine qc ?_
  (repeat refine qb ?_); refine ql ?_
  (repeat refine qb ?_); refine qa ?_
  repeat (first | refine zR ?_ | refine zK ?_ | refine zM ?_ | refine zB ?_ | refine zA ?_ | refine zS ?_ | refine zL ?_)
  refine qc ?_
  (repeat refine qb ?_); refine qf rfl (fun h => ?_) (fun h => ?_)
  · have h1 : n.op = 1 := by simpa using h
    (repeat refine qb ?_); refine qs (by kernel_rfl) ?_
    repeat (refine qr qe rfl (by exact True.intro) rfl ?_)
    refine zj rfl rfl rfl rfl (qad n.val hn.val.s) rfl rfl ?_
    repeat (refine qr qe rfl (by exact True.intro) rfl ?_)
    refine qr qe rfl (rfl) rfl ?_
    repeat (refine qr qe rfl (by exact True.intro) rfl ?_)
    refine qQ ?_
    (repeat refine qb ?_); refine qk ?_
    refine wS rfl ?_
    unfold ji
    rw [if_pos h1]
    cases n.val.right <;> simp [← noAtr_eq]
  · have n1 : ¬ n.op = 1 := by simpa using h
    (repeat refine qb ?_); refine qa ?_
    repeat (first | refine zR ?_ | refine zK ?_ | refine zM ?_ | refine zB ?_ | refine zA ?_ | refine zS ?_ | refine zL ?_)
    refine qc ?_
    (repeat refine qb ?_); refine qf rfl (fun h => ?_) (fun h => ?_)
    · have h2 : n.op = 2 := by simpa using h
      (repeat refine qb ?_); refine qs (by kernel_rfl) ?_
      repeat (refine qr qe rfl (by exact True.intro) rfl ?_)
      refine zj rfl rfl rfl rfl (attr_h n.attr hn.attr.name) rfl rfl ?_
      repeat (refine qr qe rfl (by exact True.intro) rfl ?_)
      refine qr qe rfl (rfl) rfl ?_
      repeat (refine qr qe rfl (by exact True.intro) rfl ?_)
      refine qQ ?_
      (repeat refine qb ?_); refine qk ?_
      refine wS rfl ?_
      unfold ji
      rw [if_neg n1, if_pos h2]
      cases attrS n.attr <;> simp [← noVal_eq]
    · have n2 : ¬ n.op = 2 := by simpa using h
      refine qm ?_
      (repeat refine qb ?_); refine qs (by kernel_rfl) ?_
      repeat (refine qr qe rfl (by exact True.intro) rfl ?_)
      refine qr qe rfl (rfl) rfl ?_
      repeat (refine qr qe rfl (by exact True.intro) rfl ?_)
      refine qr qe rfl (rfl) rfl ?_
      repeat (refine qr qe rfl (by exact True.intro) rfl ?_)
      refine qQ ?_
      (repeat refine qb ?_); refine qk ?_
      refine wS rfl ?_
      unfold ji
      rw [if_neg n1, if_neg n2]
      simp [← noVal_eq, ← noAtr_eq]
end Go.Proofs.YtppfcacnofjmdaaGreatDoor
namespace Go.Proofs.YtppfcacnofjmdaaGreatDoor
set_option linter.unusedVariables false
set_option linter.unusedSimpArgs false
open Go.RowKit
def isG (cat : Int) (name : ByteArray) (g : Giv) : Bool := decide (g.cat = cat) && decide (g.name = name)
def placeS (cat : Int) (name : ByteArray) (l : List Giv) : Int := if l.findIdx (isG cat name) < l.length then (l.findIdx (isG cat name) : Int) else -1
theorem placeS_at {cat : Int} {name : ByteArray} {l : List Giv} {k : Nat} (hk : k < l.length) (h : ∀ g ∈ l.take k, isG cat name g = false) (hg : isG cat name l[k] = true) : placeS cat name l = k := by
  have e : l.findIdx (isG cat name) = k := (List.findIdx_eq hk).2 ⟨hg, fun j hj => h _ (List.mem_take_iff_getElem.2 ⟨j, by omega, rfl⟩)⟩
  unfold placeS
  rw [e, if_pos hk]
theorem placeS_no {cat : Int} {name : ByteArray} {l : List Giv} (h : ∀ g ∈ l, isG cat name g = false) : placeS cat name l = -1 := by
  have e : l.findIdx (isG cat name) = l.length := List.findIdx_eq_length.2 h
  unfold placeS
  rw [e, if_neg (Nat.lt_irrefl _)]
theorem take_no {α : Type} {p : α → Bool} {l : List α} {k : Nat} (hk : k < l.length) (h : ∀ g ∈ l.take k, p g = false) (hg : p l[k] = false) : ∀ g ∈ l.take (k + 1), p g = false := by
  intro g hm
  rw [List.take_succ_eq_append_getElem hk, List.mem_append, List.mem_singleton] at hm
  rcases hm with hm | rfl
  · exact h g hm
  · exact hg
def bagS (cat : Int) (name : ByteArray) (l : List Giv) : List Val := match l.find? (isG cat name) with | some g => g.bag | none => []
def getS (a : Atr) (l : List Giv) : List Val × Int := if (bagS a.cat a.name l).isEmpty && a.must then ([], 4) else (bagS a.cat a.name l, 0)
theorem bagS_no {cat : Int} {name : ByteArray} {l : List Giv} (h : ∀ g ∈ l, isG cat name g = false) : bagS cat name l = [] := by
  have : l.find? (isG cat name) = none := List.find?_eq_none.2 fun g hg => by simp [h g hg]
  simp [bagS, this]
theorem bagS_at {cat : Int} {name : ByteArray} {l : List Giv} {k : Nat} (hk : k < l.length) (h : ∀ g ∈ l.take k, isG cat name g = false) (hg : isG cat name l[k] = true) : bagS cat name l = l[k].bag := by
  have e : l = l.take k ++ l[k] :: l.drop (k + 1) := by rw [← List.drop_eq_getElem_cons hk, List.take_append_drop]
  have : l.find? (isG cat name) = some l[k] := by
    conv => lhs; rw [e]
    rw [List.find?_append, List.find?_eq_none.2 fun g hm => by simp [h g hm], List.find?_cons, hg]
    rfl
  simp [bagS, this]
theorem place_cases (cat : Int) (name : ByteArray) (l : List Giv) : (placeS cat name l = -1 ∧ bagS cat name l = [] ∧ ∀ g ∈ l, isG cat name g = false) ∨ ∃ (k : Nat) (hk : k < l.length), placeS cat name l = k ∧ bagS cat name l = l[k].bag ∧ isG cat name l[k] = true ∧ ∀ g ∈ l.take k, isG cat name g = false := by
  by_cases h : l.findIdx (isG cat name) < l.length
  · right
    have h1 : isG cat name l[l.findIdx (isG cat name)] = true := List.findIdx_getElem (w := h)
    have h2 : ∀ g ∈ l.take (l.findIdx (isG cat name)), isG cat name g = false := by
      intro g hg
      obtain ⟨j, hj, rfl⟩ := List.mem_take_iff_getElem.1 hg
      exact List.not_of_lt_findIdx (by omega)
    exact ⟨_, h, placeS_at h h2 h1, bagS_at h h2 h1, h1, h2⟩
  · left
    have h1 : l.findIdx (isG cat name) = l.length := Nat.le_antisymm List.findIdx_le_length (by omega)
    have h2 := List.findIdx_eq_length.1 h1
    exact ⟨placeS_no h2, bagS_no h2, h2⟩
def withS (l : List Giv) (g : Giv) : List Giv := if l.findIdx (isG g.cat g.name) < l.length then l.set (l.findIdx (isG g.cat g.name)) g else l ++ [g]
theorem find_set {α : Type} (p : α → Bool) (x : α) : ∀ (l : List α) (k : Nat) (hk : k < l.length), p x = false → p l[k] = false → (l.set k x).find? p = l.find? p
  | [], k, hk, _, _ => absurd hk (by simp)
  | y :: l, 0, hk, hx, hy => by
    simp only [List.getElem_cons_zero] at hy
    rw [List.set_cons_zero, List.find?_cons, List.find?_cons, hx, hy]
  | y :: l, k + 1, hk, hx, hy => by
    rw [List.set_cons_succ, List.find?_cons, List.find?_cons]
    cases p y with
    | true => rfl
    | false => exact find_set p x l k (by simpa using hk) hx (by simpa using hy)
theorem isG_same {c c' : Int} {n n' : ByteArray} {g g' : Giv} (h : isG g.cat g.name g' = true) (hn : isG c n g = false) : isG c n g' = false := by
  simp only [isG, Bool.and_eq_true, decide_eq_true_eq] at h
  rw [← hn]
  unfold isG
  rw [h.1, h.2]
theorem bagS_with (c : Int) (n : ByteArray) (l : List Giv) (g : Giv) (h : isG c n g = false) : bagS c n (withS l g) = bagS c n l := by
  unfold bagS withS
  by_cases hlt : l.findIdx (isG g.cat g.name) < l.length
  · rw [if_pos hlt]
    have h1 : isG g.cat g.name l[l.findIdx (isG g.cat g.name)] = true := List.findIdx_getElem (w := hlt)
    rw [find_set _ g l _ hlt h (isG_same (c' := 0) (n' := n) h1 h)]
  · rw [if_neg hlt, List.find?_append]
    cases hf : l.find? (isG c n) with
    | some x => rfl
    | none => simp [List.find?_cons, h]
theorem getS_with (a : Atr) (l : List Giv) (g : Giv) (h : isG a.cat a.name g = false) : getS a (withS l g) = getS a l := by
  unfold getS
  rw [bagS_with _ _ _ _ h]
end Go.Proofs.YtppfcacnofjmdaaGreatDoor
namespace Go.Proofs.YtppfcacnofjmdaaGreatDoor
set_option linter.unusedVariables false
set_option linter.unusedSimpArgs false
def hasV (l : List Val) (v : Val) : Bool := l.any fun x => jh v x
end Go.Proofs.YtppfcacnofjmdaaGreatDoor
namespace Go.Proofs.YtppfcacnofjmdaaGreatDoor
set_option linter.unusedVariables false
set_option linter.unusedSimpArgs false
open Go.RowKit
theorem eStep_pre {p l l' : List Bool} {n : Nod} (h : zy l n = some l') : zy (p ++ l) n = some (p ++ l') := by
  unfold zy at h ⊢
  cases hw : zu n.op with
  | none => rw [hw] at h; cases h
  | some w =>
    rw [hw] at h
    simp only at h ⊢
    split at h
    · rename_i hc
      obtain ⟨h1, h2, h3⟩ := hc
      cases h
      have e1 : (p ++ l).length - w.length = p.length + (l.length - w.length) := by simp; omega
      rw [if_pos ⟨h1, by simp; omega, by rw [e1, List.drop_append, List.drop_of_length_le (by omega), List.nil_append, ← h3]; congr 1; simp; omega⟩, e1, List.take_append, List.take_of_length_le (by omega)]
      simp
    · cases h
theorem eSteps_pre {p : List Bool} : ∀ {r : List Nod} {l m : List Bool}, qW l r = some m → qW (p ++ l) r = some (p ++ m)
  | [], l, m, h => by cases h; rfl
  | n :: r, l, m, h => by
    rw [qW] at h ⊢
    cases hs : zy l n with
    | none => rw [hs] at h; cases h
    | some l' =>
      rw [hs] at h
      rw [eStep_pre hs]
      exact eSteps_pre h
theorem jw : ∀ {a b : List Nod} {l m : List Bool}, qW l a = some m → qW l (a ++ b) = qW m b
  | [], b, l, m, h => by cases h; rfl
  | n :: r, b, l, m, h => by
    rw [qW] at h
    rw [List.cons_append, qW]
    cases hs : zy l n with
    | none => rw [hs] at h; cases h
    | some l' => rw [hs] at h; exact jw h
theorem wd {a : List Nod} (h : zo a = 0) (hn : a ≠ []) : qW [] a = some [false] ∧ a.length ≤ 32 := by
  unfold zo at h
  split at h
  · cases h
  · cases hs : qW [] a with
    | none => rw [hs] at h; cases h
    | some m =>
      rw [hs] at h
      simp only at h
      split at h
      · rename_i hc
        rcases hc with hc | hc
        · exact absurd hc hn
        · subst hc; exact ⟨rfl, by omega⟩
      · cases h
structure Itm where
  bag : List Val
  v : Val
  e : Int
def Itm.pv (x : Itm) : List PV := [valsP x.bag, pI x.v.kind, pI x.v.n, pS x.v.s, pI x.e]
def noItm : Itm := ⟨[], noVal, 0⟩
def itmT (b : Bool) : Itm := ⟨[], jo b, 0⟩
def isT (v : Val) (n : Int) : Bool := jh v ⟨1, n, ⟨#[]⟩⟩
def Itm.is (x : Itm) (n : Int) : Bool := decide (x.e = 0) && isT x.v n
def qL (op : Int) : Nat := if op = 1 ∨ op = 2 then 0 else if op = 3 ∨ op = 4 ∨ op = 11 then 1 else 2
def decS (op : Int) (l : List Itm) : Bool := (decide (op = 12) || decide (op = 13)) && ((l.getD 0 noItm).is (op - 12) || (l.getD 1 noItm).is (op - 12))
def errS : List Itm → Int
  | [] => 0
  | x :: r => if x.e = 0 then errS r else x.e
def lastS (op : Int) (l : List Itm) : Itm :=
  if op = 3 then (if (l.getD 0 noItm).bag.length = 1 then ⟨[], (l.getD 0 noItm).bag.getD 0 noVal, 0⟩ else ⟨[], noVal, 4⟩)
  else if op = 4 then ⟨[], ⟨2, (l.getD 0 noItm).bag.length, ⟨#[]⟩⟩, 0⟩
  else if op = 5 then itmT (hasV (l.getD 0 noItm).bag (l.getD 1 noItm).v)
  else ⟨[], (qN op (l.map Itm.v)).1, (qN op (l.map Itm.v)).2⟩
def zc (n : Nod) (l : List Itm) (g : List Giv) : Itm :=
  if n.op = 1 then ⟨[], n.val, 0⟩
  else if n.op = 2 then ⟨(getS n.attr g).1, noVal, (getS n.attr g).2⟩
  else if decS n.op l then itmT (decide (n.op = 13))
  else if errS l ≠ 0 then ⟨[], noVal, errS l⟩
  else lastS n.op l
def zJ (g : List Giv) (s : List Itm) (n : Nod) : List Itm := s.take (s.length - qL n.op) ++ [zc n (s.drop (s.length - qL n.op)) g]
def jV (g : List Giv) (l : List Nod) : List Itm := l.foldl (zJ g) []
def zk (l : List Nod) (g : List Giv) : Val × Int :=
  if l = [] ∨ zo l ≠ 0 then (noVal, 1) else (((jV g l).getD 0 noItm).v, ((jV g l).getD 0 noItm).e)
def ww (x : Val × Int) : Int := if (Itm.mk [] x.1 x.2).is 1 then 2 else if (Itm.mk [] x.1 x.2).is 0 then 0 else 1
def qam (l : List Nod) (g : List Giv) : Int := if l = [] then 2 else ww (zk l g)
theorem operandsS_wants {op : Int} {w : List Bool} (h : zu op = some w) : w.length = qL op := by
  unfold zu at h
  unfold qL
  repeat' split at h
  all_goals (cases h; try (simp; try omega))
  all_goals (try (split <;> simp_all <;> omega))
theorem stepI_len {g : List Giv} {s : List Itm} {n : Nod} {l l' : List Bool} (hl : s.length = l.length) (h : zy l n = some l') : (zJ g s n).length = l'.length ∧ qL n.op ≤ s.length := by
  unfold zy at h
  split at h
  · cases h
  · rename_i w hw
    split at h
    · rename_i hc
      cases h
      have := operandsS_wants hw
      simp only [zJ, List.length_append, List.length_take, List.length_singleton]
      omega
    · cases h
theorem evalI_len {g : List Giv} : ∀ {r : List Nod} {s : List Itm} {l l' : List Bool}, s.length = l.length → qW l r = some l' → (r.foldl (zJ g) s).length = l'.length
  | [], s, l, l', hl, h => by cases h; exact hl
  | n :: r, s, l, l', hl, h => by
    rw [qW] at h
    cases hs : zy l n with
    | none => rw [hs] at h; cases h
    | some m =>
      rw [hs] at h
      rw [List.foldl_cons]
      exact evalI_len (s := zJ g s n) (l := m) (stepI_len (g := g) hl hs).1 h
theorem stepI_pre {g : List Giv} {p s : List Itm} {n : Nod} (h : qL n.op ≤ s.length) : zJ g (p ++ s) n = p ++ zJ g s n := by
  have e : (p ++ s).length - qL n.op = p.length + (s.length - qL n.op) := by simp; omega
  unfold zJ
  rw [e, List.take_append, List.drop_append, List.take_of_length_le (by omega), List.drop_of_length_le (by omega)]
  simp
theorem foldI_pre {g : List Giv} {p : List Itm} : ∀ {r : List Nod} {s : List Itm} {l l' : List Bool}, s.length = l.length → qW l r = some l' → r.foldl (zJ g) (p ++ s) = p ++ r.foldl (zJ g) s
  | [], s, l, l', hl, h => rfl
  | n :: r, s, l, l', hl, h => by
    rw [qW] at h
    cases hs : zy l n with
    | none => rw [hs] at h; cases h
    | some m =>
      rw [hs] at h
      have h1 := stepI_len (g := g) hl hs
      rw [List.foldl_cons, List.foldl_cons, stepI_pre h1.2]
      exact foldI_pre h1.1 h
theorem evalI_one {g : List Giv} {l : List Nod} (h : zo l = 0) (hn : l ≠ []) : ∃ x, jV g l = [x] := by
  have h1 := evalI_len (g := g) (s := []) (l := []) rfl (wd h hn).1
  exact List.length_eq_one_iff.1 h1
theorem zp {g : List Giv} {l : List Nod} {x : Itm} (h : zo l = 0) (hn : l ≠ []) (hx : jV g l = [x]) : zk l g = (x.v, x.e) := by
  unfold zk
  rw [if_neg (by simp [h, hn]), hx]; rfl
theorem evalI_two {g : List Giv} {a b : List Nod} {x y : Itm} (ha : zo a = 0) (na : a ≠ []) (hb : zo b = 0) (nb : b ≠ []) (hx : jV g a = [x]) (hy : jV g b = [y]) : jV g (a ++ b) = [x, y] := by
  unfold jV at hx hy ⊢
  rw [List.foldl_append, hx]
  have := foldI_pre (g := g) (p := [x]) (s := []) (l := []) rfl (wd hb nb).1
  rw [List.append_nil] at this
  rw [this, hy]; rfl
theorem evalI_op {g : List Giv} {a : List Nod} {s : List Itm} (n : Nod) (hs : jV g a = s) : jV g (a ++ [n]) = zJ g s n := by
  unfold jV at hs ⊢
  rw [List.foldl_append, hs]; rfl
def nOpE (n : Int) : Nod := ⟨n, noVal, ⟨0, ⟨#[]⟩, false⟩⟩
theorem exprS_not {a : List Nod} (ha : zo a = 0) (na : a ≠ []) (hl : a.length ≤ 31) : zo (a ++ [nOpE 11]) = 0 := by
  obtain ⟨h1, _⟩ := wd ha na
  have h5 : qW [] (a ++ [nOpE 11]) = some [false] := by rw [jw h1]; rfl
  unfold zo
  rw [h5, if_neg (by simp; omega)]; simp
theorem exprS_two {a b : List Nod} (ha : zo a = 0) (hb : zo b = 0) (na : a ≠ []) (nb : b ≠ []) (hl : a.length + b.length ≤ 31) {f : Int} (hf : f = 12 ∨ f = 13) : zo (a ++ b ++ [nOpE f]) = 0 := by
  obtain ⟨h1, _⟩ := wd ha na
  obtain ⟨h2, _⟩ := wd hb nb
  have h3 : qW [] (a ++ b) = some [false, false] := by rw [jw h1]; exact eSteps_pre (p := [false]) h2
  have h5 : qW [] (a ++ b ++ [nOpE f]) = some [false] := by
    rw [jw h3]
    rcases hf with rfl | rfl <;> rfl
  unfold zo
  rw [h5, if_neg (by simp; omega)]; simp
theorem isT_iff {v : Val} {n : Int} : isT v n = true ↔ v = ⟨1, n, ⟨#[]⟩⟩ := by
  cases v
  simp [isT, jh, and_assoc]
theorem call_truth {op : Int} {l : List Val} (ho : op = 11 ∨ op = 12 ∨ op = 13) (h : (qN op l).2 = 0) : ∀ v ∈ l, v = ⟨1, 0, ⟨#[]⟩⟩ ∨ v = ⟨1, 1, ⟨#[]⟩⟩ := by
  have key : mayS op l = true ∧ allS 1 l = true := by
    unfold qN at h
    cases hm : mayS op l with
    | false => rw [hm] at h; simp at h
    | true =>
      refine ⟨rfl, ?_⟩
      cases ha : allS 1 l with
      | true => rfl
      | false => rw [hm, ha] at h; rcases ho with rfl | rfl | rfl <;> simp at h
  intro v hv
  obtain ⟨h1, h2⟩ := key
  simp only [mayS, Bool.and_eq_true] at h1
  have hr := List.all_eq_true.1 h1.2 v hv
  have hk := of_decide_eq_true (List.all_eq_true.1 h2 v hv)
  obtain ⟨k, n, s⟩ := v
  simp only at hk
  subst hk
  simp only [Val.right, if_true, Bool.and_eq_true, Bool.or_eq_true, decide_eq_true_eq] at hr
  have : s = ⟨#[]⟩ := by have := hr.2; rw [← empty_size] at this; exact this
  subst this
  rcases hr.1 with rfl | rfl
  · exact .inl rfl
  · exact .inr rfl
theorem number_err {f : Int → Int → Int × Int} {a b : Val} (h : (qM f a b).2 ≠ 0) : (qM f a b).1 = noVal := by
  unfold qM at h ⊢
  by_cases h1 : a.kind ≠ 2 ∨ b.kind ≠ 2
  · rw [if_pos h1]
  · rw [if_neg h1] at h ⊢
    by_cases h2 : (f a.n b.n).2 ≠ 0
    · rw [if_pos h2]
    · rw [if_neg h2] at h; exact absurd rfl h
theorem call_err {op : Int} {l : List Val} (h : (qN op l).2 ≠ 0) : (qN op l).1 = noVal := by
  unfold qN at h ⊢
  cases hm : !mayS op l with
  | true => rfl
  | false =>
    rw [hm] at h
    simp only [Bool.false_eq_true, if_false] at h ⊢
    by_cases h6 : op = 6
    · rw [if_pos h6] at h ⊢
      by_cases hk : (l.getD 0 noVal).kind ≠ (l.getD 1 noVal).kind
      · rw [if_pos hk]
      · rw [if_neg hk] at h; exact absurd rfl h
    rw [if_neg h6] at h ⊢
    by_cases h7 : op = 7
    · rw [if_pos h7] at h ⊢
      by_cases hk : (wN (l.getD 0 noVal) (l.getD 1 noVal)).2 ≠ 0
      · rw [if_pos hk]
      · rw [if_neg hk] at h; exact absurd rfl h
    rw [if_neg h7] at h ⊢
    by_cases h8 : op = 8
    · rw [if_pos h8] at h ⊢; exact number_err h
    rw [if_neg h8] at h ⊢
    by_cases h9 : op = 9
    · rw [if_pos h9] at h ⊢; exact number_err h
    rw [if_neg h9] at h ⊢
    by_cases h10 : op = 10
    · rw [if_pos h10] at h ⊢; exact number_err h
    rw [if_neg h10] at h ⊢
    by_cases ha : (!allS 1 l) = true
    · rw [if_pos ha]
    rw [if_neg ha] at h ⊢
    by_cases h11 : op = 11
    · rw [if_pos h11] at h; exact absurd rfl h
    rw [if_neg h11] at h ⊢
    by_cases h12 : op = 12
    · rw [if_pos h12] at h; exact absurd rfl h
    · rw [if_neg h12] at h; exact absurd rfl h
theorem cond_is {x : Itm} : ww (x.v, x.e) = if x.is 1 then 2 else if x.is 0 then 0 else 1 := rfl
theorem is_mk {x : Itm} {n : Int} : x.is n = true ↔ x.e = 0 ∧ x.v = ⟨1, n, ⟨#[]⟩⟩ := by
  unfold Itm.is
  rw [Bool.and_eq_true, decide_eq_true_eq, isT_iff]
theorem is_ex {x : Itm} (h1 : x.is 1 = true) (h0 : x.is 0 = true) : False := by
  have := (is_mk.1 h1).2
  rw [(is_mk.1 h0).2] at this
  cases this
theorem cond_not (x : Itm) (g : List Giv) : (let y := zc (nOpE 11) [x] g; ww (y.v, y.e)) = 2 - ww (x.v, x.e) := by
  have e : zc (nOpE 11) [x] g = if x.e ≠ 0 then ⟨[], noVal, x.e⟩ else ⟨[], (qN 11 [x.v]).1, (qN 11 [x.v]).2⟩ := by
    unfold zc lastS decS errS errS nOpE
    simp only [Int.reduceEq, if_false, decide_false, Bool.or_self, Bool.false_and, Bool.false_eq_true]
    by_cases h : x.e = 0 <;> simp [h]
  simp only [e]
  by_cases h : x.e = 0
  · rw [if_neg (by simp [h])]
    by_cases hc : (qN 11 [x.v]).2 = 0
    · rcases call_truth (.inl rfl) hc x.v (by simp) with hv | hv
      · rw [hv, h]; rfl
      · rw [hv, h]; rfl
    · have h1 : x.is 1 = false := by
        cases hi : x.is 1 with
        | false => rfl
        | true => exfalso; apply hc; rw [(is_mk.1 hi).2]; rfl
      have h0 : x.is 0 = false := by
        cases hi : x.is 0 with
        | false => rfl
        | true => exfalso; apply hc; rw [(is_mk.1 hi).2]; rfl
      rw [cond_is (x := x), h1, h0]
      simp [ww, Itm.is, hc]
  · rw [if_pos h]
    simp [ww, Itm.is, h]
theorem cond_two (op : Int) (ho : op = 12 ∨ op = 13) (x y : Itm) (g : List Giv) : (let z := zc (nOpE op) [x, y] g; ww (z.v, z.e)) = if op = 12 then min (ww (x.v, x.e)) (ww (y.v, y.e)) else max (ww (x.v, x.e)) (ww (y.v, y.e)) := by
  have e : zc (nOpE op) [x, y] g = if x.is (op - 12) || y.is (op - 12) then itmT (decide (op = 13)) else if x.e ≠ 0 then ⟨[], noVal, x.e⟩ else if y.e ≠ 0 then ⟨[], noVal, y.e⟩ else ⟨[], (qN op [x.v, y.v]).1, (qN op [x.v, y.v]).2⟩ := by
    have h1 : ¬ op = 1 := by omega
    have h2 : ¬ op = 2 := by omega
    have h3 : ¬ op = 3 := by omega
    have h4 : ¬ op = 4 := by omega
    have h5 : ¬ op = 5 := by omega
    have hd : (decide (op = 12) || decide (op = 13)) = true := by rcases ho with rfl | rfl <;> rfl
    have hopn : (nOpE op).op = op := rfl
    have hx : errS [x, y] = if x.e = 0 then (if y.e = 0 then 0 else y.e) else x.e := rfl
    unfold zc lastS decS
    rw [hopn, hx, hd]
    simp only [h1, h2, h3, h4, h5, if_false, Bool.true_and, List.getD_cons_zero, List.getD_cons_succ, List.map_cons, List.map_nil]
    by_cases hxe : x.e = 0 <;> by_cases hye : y.e = 0 <;> simp [hxe, hye]
  simp only [e]
  have c3 : ∀ z : Itm, ww (z.v, z.e) = if z.is 1 then 2 else if z.is 0 then 0 else 1 := fun z => rfl
  have ce : ∀ z : Int, z ≠ 0 → ww (noVal, z) = 1 := fun z hz => by simp [ww, Itm.is, hz]
  have ct : ∀ b, ww ((itmT b).v, (itmT b).e) = if b then 2 else 0 := fun b => by cases b <;> rfl
  cases hx : x.is (op - 12) with
  | true =>
    rw [Bool.true_or, if_pos rfl, ct, c3 x, c3 y]
    rcases ho with rfl | rfl
    · have h1 : x.is 1 = false := by cases h : x.is 1 with | false => rfl | true => exact (is_ex h hx).elim
      rw [show x.is 0 = true from hx, h1]; simp; (repeat' split) <;> omega
    · rw [show x.is 1 = true from hx]; simp; (repeat' split) <;> omega
  | false =>
    cases hy : y.is (op - 12) with
    | true =>
      rw [Bool.false_or, if_pos rfl, ct, c3 x, c3 y]
      rcases ho with rfl | rfl
      · have h1 : y.is 1 = false := by cases h : y.is 1 with | false => rfl | true => exact (is_ex h hy).elim
        rw [show y.is 0 = true from hy, h1]; simp; (repeat' split) <;> omega
      · rw [show y.is 1 = true from hy]; simp; (repeat' split) <;> omega
    | false =>
      rw [Bool.false_or, if_neg (by simp)]
      have un : ∀ z : Itm, z.e ≠ 0 → z.is 1 = false ∧ z.is 0 = false := fun z hz => by simp [Itm.is, hz]
      by_cases hxe : x.e = 0
      · rw [if_neg (by simp [hxe])]
        by_cases hye : y.e = 0
        · rw [if_neg (by simp [hye])]
          by_cases hc : (qN op [x.v, y.v]).2 = 0
          · have ho' : op = 11 ∨ op = 12 ∨ op = 13 := .inr ho
            have hvx := call_truth ho' hc x.v (by simp)
            have hvy := call_truth ho' hc y.v (by simp)
            rcases ho with rfl | rfl
            · have hx : x.is 0 = false := hx
              have hy : y.is 0 = false := hy
              have hvx : x.v = ⟨1, 1, ⟨#[]⟩⟩ := hvx.resolve_left fun h => by rw [is_mk.2 ⟨hxe, h⟩] at hx; cases hx
              have hvy : y.v = ⟨1, 1, ⟨#[]⟩⟩ := hvy.resolve_left fun h => by rw [is_mk.2 ⟨hye, h⟩] at hy; cases hy
              rw [hvx, hvy, hxe, hye]; rfl
            · have hx : x.is 1 = false := hx
              have hy : y.is 1 = false := hy
              have hvx : x.v = ⟨1, 0, ⟨#[]⟩⟩ := hvx.resolve_right fun h => by rw [is_mk.2 ⟨hxe, h⟩] at hx; cases hx
              have hvy : y.v = ⟨1, 0, ⟨#[]⟩⟩ := hvy.resolve_right fun h => by rw [is_mk.2 ⟨hye, h⟩] at hy; cases hy
              rw [hvx, hvy, hxe, hye]; rfl
          · have hne : ¬ ((x.is 0 = true ∨ x.is 1 = true) ∧ (y.is 0 = true ∨ y.is 1 = true)) := by
              rintro ⟨h1, h2⟩
              apply hc
              have hvx : x.v = ⟨1, 0, ⟨#[]⟩⟩ ∨ x.v = ⟨1, 1, ⟨#[]⟩⟩ := h1.imp (fun h => (is_mk.1 h).2) (fun h => (is_mk.1 h).2)
              have hvy : y.v = ⟨1, 0, ⟨#[]⟩⟩ ∨ y.v = ⟨1, 1, ⟨#[]⟩⟩ := h2.imp (fun h => (is_mk.1 h).2) (fun h => (is_mk.1 h).2)
              rcases ho with rfl | rfl <;> rcases hvx with h | h <;> rcases hvy with h' | h' <;> rw [h, h'] <;> rfl
            rw [show ww ((Itm.mk [] (qN op [x.v, y.v]).1 (qN op [x.v, y.v]).2).v, (Itm.mk [] (qN op [x.v, y.v]).1 (qN op [x.v, y.v]).2).e) = 1 from by simp [ww, Itm.is, hc], c3 x, c3 y]
            rcases ho with rfl | rfl
            · have hx : x.is 0 = false := hx
              have hy : y.is 0 = false := hy
              rw [hx, hy] at hne ⊢
              cases h1 : x.is 1 <;> cases h2 : y.is 1 <;> (try simp_all) <;> (try omega)
            · have hx : x.is 1 = false := hx
              have hy : y.is 1 = false := hy
              rw [hx, hy] at hne ⊢
              cases h1 : x.is 0 <;> cases h2 : y.is 0 <;> (try simp_all) <;> (try omega)
        · rw [if_pos hye, ce _ hye, c3 x, c3 y, (un y hye).1, (un y hye).2]
          rcases ho with rfl | rfl
          · have hx : x.is 0 = false := hx
            rw [hx]; simp; split <;> omega
          · have hx : x.is 1 = false := hx
            rw [hx]; simp; split <;> omega
      · rw [if_pos hxe, ce _ hxe, c3 x, c3 y, (un x hxe).1, (un x hxe).2]
        rcases ho with rfl | rfl
        · have hy : y.is 0 = false := hy
          rw [hy]; simp; split <;> omega
        · have hy : y.is 1 = false := hy
          rw [hy]; simp; split <;> omega
theorem nodeS_same {n : Nod} {s : List Itm} {g g' : List Giv} (h : n.op = 2 → getS n.attr g = getS n.attr g') : zc n s g = zc n s g' := by
  unfold zc
  by_cases h2 : n.op = 2
  · rw [h h2]
  · simp only [h2, if_false]
theorem foldI_same {g g' : List Giv} : ∀ {l : List Nod} {s : List Itm} (_ : ∀ n ∈ l, n.op = 2 → getS n.attr g = getS n.attr g'), l.foldl (zJ g) s = l.foldl (zJ g') s
  | [], s, h => rfl
  | n :: r, s, h => by
    rw [List.foldl_cons, List.foldl_cons]
    have : zJ g s n = zJ g' s n := by unfold zJ; rw [nodeS_same (h n (by simp))]
    rw [this, foldI_same fun m hm => h m (List.mem_cons_of_mem _ hm)]
theorem valueS_same {g g' : List Giv} {l : List Nod} (h : ∀ n ∈ l, n.op = 2 → getS n.attr g = getS n.attr g') : zk l g = zk l g' := by
  unfold zk jV
  rw [foldI_same h]
theorem nodeS_err {n : Nod} {s : List Itm} {g : List Giv} (h : (zc n s g).e ≠ 0) : (zc n s g).v = noVal := by
  unfold zc at h ⊢
  by_cases h1 : n.op = 1
  · rw [if_pos h1] at h; exact absurd rfl h
  rw [if_neg h1] at h ⊢
  by_cases h2 : n.op = 2
  · rw [if_pos h2]
  rw [if_neg h2] at h ⊢
  by_cases h3 : decS n.op s = true
  · rw [if_pos h3] at h; exact absurd rfl h
  rw [if_neg h3] at h ⊢
  by_cases h4 : errS s ≠ 0
  · rw [if_pos h4]
  rw [if_neg h4] at h ⊢
  unfold lastS at h ⊢
  by_cases h5 : n.op = 3
  · rw [if_pos h5] at h ⊢
    by_cases h6 : (s.getD 0 noItm).bag.length = 1
    · rw [if_pos h6] at h; exact absurd rfl h
    · rw [if_neg h6]
  rw [if_neg h5] at h ⊢
  by_cases h6 : n.op = 4
  · rw [if_pos h6] at h; exact absurd rfl h
  rw [if_neg h6] at h ⊢
  by_cases h7 : n.op = 5
  · rw [if_pos h7] at h; exact absurd rfl h
  rw [if_neg h7] at h ⊢
  exact call_err h
theorem valueS_err {l : List Nod} {g : List Giv} (h : (zk l g).2 ≠ 0) : (zk l g).1 = noVal := by
  by_cases hc : l = [] ∨ zo l ≠ 0
  · unfold zk; rw [if_pos hc]
  · have h0 : zo l = 0 := Classical.byContradiction fun h => hc (.inr h)
    have hn : l ≠ [] := fun h => hc (.inl h)
    obtain ⟨x, hx⟩ := evalI_one (g := g) h0 hn
    rw [zp h0 hn hx] at h ⊢
    obtain ⟨r, n, rfl⟩ : ∃ r n, l = r ++ [n] := ⟨l.dropLast, l.getLast hn, (List.dropLast_concat_getLast hn).symm⟩
    have h1 := evalI_op (g := g) (a := r) n rfl
    rw [hx] at h1
    unfold zJ at h1
    have h2 := congrArg List.length h1
    simp only [List.length_singleton, List.length_append] at h2
    have h3 : (jV g r).take ((jV g r).length - qL n.op) = [] := List.length_eq_zero_iff.1 (by omega)
    rw [h3, List.nil_append] at h1
    have h4 : x = zc n ((jV g r).drop ((jV g r).length - qL n.op)) g := by simpa using h1
    rw [h4] at h ⊢
    exact nodeS_err h
theorem valueS_right {l : List Nod} {g : List Giv} (h : (zk l g).2 ≠ 1) : zo l = 0 ∧ l ≠ [] := by
  unfold zk at h
  by_cases hc : l = [] ∨ zo l ≠ 0
  · rw [if_pos hc] at h; exact absurd rfl h
  · exact ⟨Classical.byContradiction fun h => hc (.inr h), fun h => hc (.inl h)⟩
end Go.Proofs.YtppfcacnofjmdaaGreatDoor
namespace Go.Proofs.YtppfcacnofjmdaaGreatDoor
set_option linter.unusedVariables false
set_option linter.unusedSimpArgs false
open Go.RowKit
theorem condS_one {l : List Nod} {g : List Giv} {x : Itm} (h : zo l = 0) (hn : l ≠ []) (hx : jV g l = [x]) : qam l g = ww (x.v, x.e) := by
  unfold qam; rw [if_neg hn, zp h hn hx]
theorem condS_not {a : List Nod} {g : List Giv} (ha : zo a = 0) (na : a ≠ []) (hl : a.length ≤ 31) : qam (a ++ [nOpE 11]) g = 2 - qam a g := by
  obtain ⟨x, hx⟩ := evalI_one (g := g) ha na
  have h1 := evalI_op (g := g) (nOpE 11) hx
  have h2 : zJ g [x] (nOpE 11) = [zc (nOpE 11) [x] g] := rfl
  rw [h2] at h1
  rw [condS_one (exprS_not ha na hl) (by simp) h1, condS_one ha na hx]
  exact cond_not x g
theorem condS_two {a b : List Nod} {g : List Giv} {op : Int} (ho : op = 12 ∨ op = 13) (ha : zo a = 0) (na : a ≠ []) (hb : zo b = 0) (nb : b ≠ []) (hl : a.length + b.length ≤ 31) :
    qam (a ++ b ++ [nOpE op]) g = if op = 12 then min (qam a g) (qam b g) else max (qam a g) (qam b g) := by
  obtain ⟨x, hx⟩ := evalI_one (g := g) ha na
  obtain ⟨y, hy⟩ := evalI_one (g := g) hb nb
  have h0 := evalI_two ha na hb nb hx hy
  have h1 := evalI_op (g := g) (nOpE op) h0
  have h2 : zJ g [x, y] (nOpE op) = [zc (nOpE op) [x, y] g] := by rcases ho with rfl | rfl <;> rfl
  rw [h2] at h1
  rw [condS_one (exprS_two ha hb na nb hl ho) (by simp) h1, condS_one ha na hx, condS_one hb nb hy]
  exact cond_two op ho x y g
theorem condS_range (l : List Nod) (g : List Giv) : 0 ≤ qam l g ∧ qam l g ≤ 2 := by
  unfold qam ww
  repeat' split
  all_goals omega
def numV (n : Int) : Val := ⟨2, n, ⟨#[]⟩⟩
def litN (v : Val) : Nod := ⟨1, v, noAtr⟩
def atN (cat : Int) (s : ByteArray) : Nod := ⟨2, noVal, ⟨cat, s, false⟩⟩
def itV (v : Val) : Itm := ⟨[], v, 0⟩
theorem node_call {op : Int} (ho : 6 ≤ op ∧ op ≤ 10) {l : List Itm} (he : errS l = 0) (g : List Giv) : zc (nOpE op) l g = ⟨[], (qN op (l.map Itm.v)).1, (qN op (l.map Itm.v)).2⟩ := by
  have hop : (nOpE op).op = op := rfl
  have hd : decS op l = false := by
    unfold decS
    rw [decide_eq_false (by omega), decide_eq_false (by omega)]; rfl
  unfold zc lastS
  rw [hop, if_neg (by omega), if_neg (by omega), hd, if_neg (by simp), if_neg (by simp [he]), if_neg (by omega), if_neg (by omega), if_neg (by omega)]
theorem may_nums {op a b : Int} (ho : 6 ≤ op ∧ op ≤ 10) : mayS op [numV a, numV b] = true := by
  have h : (numV a).right = true ∧ (numV b).right = true := ⟨rfl, rfl⟩
  have h11 : ¬ op = 11 := by omega
  have h1 : op ≤ 13 := by omega
  simp [mayS, h.1, h.2, h11, ho.1, h1]
theorem callN_mul {a b : Int} (h : inI (a * b) = true) : qN 10 [numV a, numV b] = (numV (a * b), 0) := by
  unfold qN
  rw [may_nums (by omega)]
  simp [qM, mulS, numV, h]
theorem callN_over {a b : Int} (h : inI (a * b) = false) : qN 10 [numV a, numV b] = (noVal, 3) := by
  unfold qN
  rw [may_nums (by omega)]
  simp [qM, mulS, numV, h]
theorem callN_add {a b : Int} (h : inI (a + b) = true) : qN 8 [numV a, numV b] = (numV (a + b), 0) := by
  unfold qN
  rw [may_nums (by omega)]
  simp [qM, addS, numV, h]
theorem callN_sub {a b : Int} (h : inI (a - b) = true) : qN 9 [numV a, numV b] = (numV (a - b), 0) := by
  unfold qN
  rw [may_nums (by omega)]
  simp [qM, subS, numV, h]
theorem callN_eqn {a : Int} : qN 6 [numV a, numV a] = (jo true, 0) := by
  unfold qN
  rw [may_nums (by omega)]
  simp [numV, jh]
theorem node_two {op : Int} (ho : 6 ≤ op ∧ op ≤ 10) {a b : Val} {r : Val × Int} (h : qN op [a, b] = r) (g : List Giv) : zc (nOpE op) [itV a, itV b] g = ⟨[], r.1, r.2⟩ := by
  rw [node_call ho (by rfl)]
  show Itm.mk [] (qN op [a, b]).1 (qN op [a, b]).2 = _
  rw [h]
theorem qG {l l' : List Bool} {n : Nod} {r : List Nod} (h : zy l n = some l') : qW l (n :: r) = qW l' r := by rw [qW, h]
theorem lit_ok {v : Val} (hv : v.right = true) (l : List Bool) : zy l (litN v) = some (l ++ [false]) := by
  have hf : ji (litN v) = true := by
    unfold ji
    rw [if_pos (show (litN v).op = 1 from rfl), show isNoAtr (litN v).attr = true from rfl, show (litN v).val.right = true from hv]; rfl
  unfold zy
  rw [show zu (litN v).op = some [] from rfl]
  simp only
  rw [if_pos ⟨hf, Nat.zero_le _, by simp⟩]
  simp [litN]
theorem two_ok {op : Int} (ho : 6 ≤ op ∧ op ≤ 10) (l : List Bool) : zy (l ++ [false, false]) (nOpE op) = some (l ++ [false]) := by
  have hop : (nOpE op).op = op := rfl
  have hw : zu (nOpE op).op = some [false, false] := by
    rw [hop]; unfold zu
    rw [if_neg (by omega), if_neg (by omega), if_neg (by omega), if_neg (by omega), if_pos (by omega)]
  have hfd : ji (nOpE op) = true := by
    unfold ji
    rw [hop, if_neg (by omega), if_neg (by omega)]; rfl
  unfold zy
  rw [hw]
  simp only
  have e : (l ++ [false, false]).length - [false, false].length = l.length := by simp
  rw [e, if_pos ⟨hfd, by simp, by simp⟩, hop, decide_eq_false (by omega)]
  simp
theorem qai {l : List Nod} (h1 : l.length ≤ 32) (h : qW [] l = some [false]) : zo l = 0 := by
  unfold zo
  rw [if_neg (by omega), h]
  simp
theorem jL (g : List Giv) (s : List Itm) (v : Val) : zJ g s (litN v) = s ++ [itV v] := by
  unfold zJ
  rw [show qL (litN v).op = 0 from rfl, Nat.sub_zero, List.take_length]; rfl
theorem stepI_two (g : List Giv) (s : List Itm) (x y : Itm) {n : Nod} (h : qL n.op = 2) : zJ g (s ++ [x, y]) n = s ++ [zc n [x, y] g] := by
  have e : (s ++ [x, y]).length - 2 = s.length := by simp
  unfold zJ
  rw [h, e, List.take_left, List.drop_left]
theorem stepI_one (g : List Giv) (s : List Itm) (x : Itm) {n : Nod} (h : qL n.op = 1) : zJ g (s ++ [x]) n = s ++ [zc n [x] g] := by
  have e : (s ++ [x]).length - 1 = s.length := by simp
  unfold zJ
  rw [h, e, List.take_left, List.drop_left]
theorem stepI_at (g : List Giv) (s : List Itm) (cat : Int) (t : ByteArray) : zJ g s (atN cat t) = s ++ [zc (atN cat t) [] g] := by
  unfold zJ
  rw [show qL (atN cat t).op = 0 from rfl, Nat.sub_zero, List.take_length, List.drop_length]
theorem operands_two {op : Int} (ho : 6 ≤ op ∧ op ≤ 10) : qL (nOpE op).op = 2 := by
  show qL op = 2
  unfold qL
  rw [if_neg (by omega), if_neg (by omega)]
theorem qI (g : List Giv) (s : List Itm) (n : Nod) (r : List Nod) : (n :: r).foldl (zJ g) s = r.foldl (zJ g) (zJ g s n) := rfl
def sumL (a b c : Int) : List Nod := [litN (numV a), litN (numV b), nOpE 10, litN (numV c), nOpE 8]
def sumM (a b c : Int) : List Nod := sumL a b c ++ [litN (numV c), nOpE 9, litN (numV (a * b)), nOpE 6]
theorem wm (n : Int) : (numV n).right = true := rfl
theorem step_two (g : List Giv) {op : Int} (ho : 6 ≤ op ∧ op ≤ 10) {a b r : Val} (h : qN op [a, b] = (r, 0)) : zJ g [itV a, itV b] (nOpE op) = [itV r] := by
  have h1 := stepI_two g [] (itV a) (itV b) (operands_two ho)
  rw [List.nil_append, List.nil_append] at h1
  rw [h1, node_two ho h]; rfl
theorem sumL_ev {a b c : Int} (h1 : inI (a * b) = true) (h2 : inI (a * b + c) = true) : (sumL a b c).foldl (zJ []) [] = [itV (numV (a * b + c))] := by
  unfold sumL
  rw [qI, jL, qI, jL, qI]
  rw [show (([] : List Itm) ++ [itV (numV a)]) ++ [itV (numV b)] = [itV (numV a), itV (numV b)] from rfl, step_two [] (by omega) (callN_mul h1), qI, jL]
  rw [show [itV (numV (a * b))] ++ [itV (numV c)] = [itV (numV (a * b)), itV (numV c)] from rfl, qI, step_two [] (by omega) (callN_add h2)]
  rfl
theorem sumL_steps (a b c : Int) : qW [] (sumL a b c) = some [false] := by
  unfold sumL
  rw [qG (l' := [false]) (lit_ok (wm a) []), qG (l' := [false, false]) (lit_ok (wm b) [false]),
    qG (l := [false, false]) (l' := [false]) (two_ok (op := 10) (by omega) []), qG (l' := [false, false]) (lit_ok (wm c) [false]), qG (l := [false, false]) (l' := [false]) (two_ok (op := 8) (by omega) [])]
  rfl
theorem sumL_ok (a b c : Int) : zo (sumL a b c) = 0 := qai (by simp [sumL]) (sumL_steps a b c)
theorem sumM_ok (a b c : Int) : zo (sumM a b c) = 0 := by
  refine qai (by simp [sumM, sumL]) ?_
  unfold sumM
  rw [jw (sumL_steps a b c)]
  rw [qG (l' := [false, false]) (lit_ok (wm c) [false]), qG (l := [false, false]) (l' := [false]) (two_ok (op := 9) (by omega) []),
    qG (l' := [false, false]) (lit_ok (wm (a * b)) [false]), qG (l := [false, false]) (l' := [false]) (two_ok (op := 6) (by omega) [])]
  rfl
theorem sumL_value {a b c : Int} (h1 : inI (a * b) = true) (h2 : inI (a * b + c) = true) : zk (sumL a b c) [] = (numV (a * b + c), 0) :=
  zp (x := itV (numV (a * b + c))) (sumL_ok a b c) (by simp [sumL]) (sumL_ev h1 h2)
theorem sumM_value {a b c : Int} (h1 : inI (a * b) = true) (h2 : inI (a * b + c) = true) : zk (sumM a b c) [] = (jo true, 0) := by
  refine zp (x := itV (jo true)) (sumM_ok a b c) (by simp [sumM, sumL]) ?_
  have e : a * b + c - c = a * b := by omega
  unfold jV sumM
  rw [List.foldl_append, sumL_ev h1 h2, qI, jL]
  rw [show [itV (numV (a * b + c))] ++ [itV (numV c)] = [itV (numV (a * b + c)), itV (numV c)] from rfl, qI, step_two [] (by omega) (callN_sub (by rw [e]; exact h1)), e, qI, jL]
  rw [show [itV (numV (a * b))] ++ [itV (numV (a * b))] = [itV (numV (a * b)), itV (numV (a * b))] from rfl, qI, step_two [] (by omega) callN_eqn]
  rfl
def mulL (a b : Int) : List Nod := [litN (numV a), litN (numV b), nOpE 10]
theorem mulL_over {a b : Int} (h : inI (a * b) = false) : zk (mulL a b) [] = (noVal, 3) := by
  have hok : zo (mulL a b) = 0 := qai (by simp [mulL]) (by
    unfold mulL
    rw [qG (l' := [false]) (lit_ok (wm a) []), qG (l' := [false, false]) (lit_ok (wm b) [false]), qG (l := [false, false]) (l' := [false]) (two_ok (op := 10) (by omega) [])]; rfl)
  refine zp (x := ⟨[], noVal, 3⟩) hok (by simp [mulL]) ?_
  unfold jV mulL
  rw [qI, jL, qI, jL, qI]
  have h1 := stepI_two [] [] (itV (numV a)) (itV (numV b)) (operands_two (op := 10) (by omega))
  rw [show (([] : List Itm) ++ [itV (numV a)]) ++ [itV (numV b)] = [] ++ [itV (numV a), itV (numV b)] from rfl, h1, node_two (by omega) (callN_over h)]
  rfl
def bagItm (b : List Val) : Itm := ⟨b, noVal, 0⟩
def oneI (b : List Val) : Itm := if b.length = 1 then itV (b.getD 0 noVal) else ⟨[], noVal, 4⟩
theorem node_low {op : Int} (ho : 3 ≤ op ∧ op ≤ 11) {l : List Itm} (he : errS l = 0) (g : List Giv) : zc (nOpE op) l g = lastS op l := by
  have hop : (nOpE op).op = op := rfl
  have hd : decS op l = false := by
    unfold decS
    rw [decide_eq_false (by omega), decide_eq_false (by omega)]; rfl
  unfold zc
  rw [hop, if_neg (by omega), if_neg (by omega), hd, if_neg (by simp), if_neg (by simp [he])]
theorem node_one (b : List Val) (g : List Giv) : zc (nOpE 3) [bagItm b] g = oneI b := by rw [node_low (by omega) rfl]; rfl
theorem node_size (b : List Val) (g : List Giv) : zc (nOpE 4) [bagItm b] g = itV (numV b.length) := by rw [node_low (by omega) rfl]; rfl
theorem node_has (b : List Val) (v : Val) (g : List Giv) : zc (nOpE 5) [bagItm b, itV v] g = itV (jo (hasV b v)) := by rw [node_low (by omega) rfl]; rfl
def bagG (s : ByteArray) (b : List Val) : List Giv := [⟨4, s, b⟩]
theorem get_b (b : List Val) (s : ByteArray) : getS ⟨4, s, false⟩ (bagG s b) = (b, 0) := by
  simp [getS, bagS, isG, bagG]
theorem node_at {cat : Int} {s : ByteArray} {g : List Giv} {b : List Val} (h : getS ⟨cat, s, false⟩ g = (b, 0)) (l : List Itm) : zc (atN cat s) l g = bagItm b := by
  unfold zc
  rw [if_neg (show ¬ (atN cat s).op = 1 by show ¬ (2 : Int) = 1; omega), if_pos (show (atN cat s).op = 2 from rfl), show (atN cat s).attr = ⟨cat, s, false⟩ from rfl, h]; rfl
theorem low_ok {op : Int} {w : List Bool} (hw : zu op = some w) (h2 : ¬ op = 2) (h1 : ¬ op = 1) (l : List Bool) : zy (l ++ w) (nOpE op) = some (l ++ [false]) := by
  have hop : (nOpE op).op = op := rfl
  have hfd : ji (nOpE op) = true := by
    unfold ji
    rw [hop, if_neg h1, if_neg h2]; rfl
  have e : (l ++ w).length - w.length = l.length := by simp
  unfold zy
  rw [hop, hw]
  simp only
  rw [e, if_pos ⟨hfd, by simp, by simp⟩, decide_eq_false h2]
  simp
section
variable {s : ByteArray} (hs : wO s = true)
include hs
theorem at_ok {cat : Int} (hc : 1 ≤ cat ∧ cat ≤ 4) (l : List Bool) : zy l (atN cat s) = some (l ++ [true]) := by
  have hf : ji (atN cat s) = true := by
    unfold ji
    rw [if_neg (show ¬ (atN cat s).op = 1 by show ¬ (2 : Int) = 1; omega), if_pos (show (atN cat s).op = 2 from rfl), show isNoVal (atN cat s).val = true from rfl, Bool.and_true]
    simp [attrS, atN, hc.1, hc.2, hs]
  unfold zy
  rw [show zu (atN cat s).op = some [] from rfl]
  simp only
  rw [if_pos ⟨hf, Nat.zero_le _, by simp⟩]
  simp [atN]
theorem size_value (b : List Val) : zk [atN 4 s, nOpE 4] (bagG s b) = (numV b.length, 0) := by
  have h0 : zo [atN 4 s, nOpE 4] = 0 := qai (by simp) (by
    rw [qG (l' := [true]) (at_ok hs (by omega) []), qG (l := [true]) (l' := [false]) (low_ok (w := [true]) rfl (by omega) (by omega) [])]; rfl)
  refine zp (x := itV (numV b.length)) h0 (by simp) ?_
  unfold jV
  rw [qI, stepI_at, node_at (get_b b s), qI, stepI_one _ _ _ rfl, node_size]; rfl
theorem one_value (b : List Val) : zk [atN 4 s, nOpE 3] (bagG s b) = ((oneI b).v, (oneI b).e) := by
  have h0 : zo [atN 4 s, nOpE 3] = 0 := qai (by simp) (by
    rw [qG (l' := [true]) (at_ok hs (by omega) []), qG (l := [true]) (l' := [false]) (low_ok (w := [true]) rfl (by omega) (by omega) [])]; rfl)
  refine zp h0 (by simp) ?_
  unfold jV
  rw [qI, stepI_at, node_at (get_b b s), qI, stepI_one _ _ _ rfl, node_one]; rfl
theorem has_value (b : List Val) {v : Val} (hv : v.right = true) : zk [atN 4 s, litN v, nOpE 5] (bagG s b) = (jo (hasV b v), 0) := by
  have h0 : zo [atN 4 s, litN v, nOpE 5] = 0 := qai (by simp) (by
    rw [qG (l' := [true]) (at_ok hs (by omega) []), qG (l' := [true, false]) (lit_ok hv [true]), qG (l := [true, false]) (l' := [false]) (low_ok (w := [true, false]) rfl (by omega) (by omega) [])]; rfl)
  refine zp (x := itV (jo (hasV b v))) h0 (by simp) ?_
  unfold jV
  rw [qI, stepI_at, node_at (get_b b s), qI, jL, qI]
  rw [show (([] : List Itm) ++ [bagItm b]) ++ [itV v] = [] ++ [bagItm b, itV v] from rfl, stepI_two _ _ _ _ rfl, node_has]; rfl
end
def pairG (s t : ByteArray) (a b : List Val) : List Giv := [⟨3, s, a⟩, ⟨4, t, b⟩]
def pairL (s t : ByteArray) (op : Int) : List Nod := [atN 3 s, nOpE 3, atN 4 t, nOpE 3, nOpE op]
theorem get_p1 (s t : ByteArray) (a b : List Val) : getS ⟨3, s, false⟩ (pairG s t a b) = (a, 0) := by simp [getS, bagS, isG, pairG]
theorem get_p2 (s t : ByteArray) (a b : List Val) : getS ⟨4, t, false⟩ (pairG s t a b) = (b, 0) := by simp [getS, bagS, isG, pairG]
theorem pair_ok {s t : ByteArray} (hs : wO s = true) (ht : wO t = true) {op : Int} (ho : op = 6 ∨ op = 7) : zo (pairL s t op) = 0 := by
  refine qai (by simp [pairL]) ?_
  unfold pairL
  rw [qG (l' := [true]) (at_ok hs (by omega) []), qG (l := [true]) (l' := [false]) (low_ok (w := [true]) rfl (by omega) (by omega) []), qG (l' := [false, true]) (at_ok ht (by omega) [false]), qG (l := [false, true]) (l' := [false, false]) (low_ok (w := [true]) rfl (by omega) (by omega) [false]), qG (l := [false, false]) (l' := [false]) (two_ok (by omega) [])]; rfl
theorem pair_ev {s t : ByteArray} {op : Int} (ho : op = 6 ∨ op = 7) (a b : List Val) : jV (pairG s t a b) (pairL s t op) = [zc (nOpE op) [oneI a, oneI b] (pairG s t a b)] := by
  unfold jV pairL
  rw [qI, stepI_at, node_at (get_p1 s t a b), qI, stepI_one _ _ _ rfl, node_one, qI, stepI_at, node_at (get_p2 s t a b), qI, stepI_one _ _ _ rfl, node_one, qI]
  rw [show (([] : List Itm) ++ [oneI a]) ++ [oneI b] = [] ++ [oneI a, oneI b] from rfl, stepI_two _ _ _ _ (operands_two (by omega))]; rfl
theorem node_miss {op : Int} (ho : op = 6 ∨ op = 7) {x y : Itm} (h : errS [x, y] ≠ 0) (g : List Giv) : zc (nOpE op) [x, y] g = ⟨[], noVal, errS [x, y]⟩ := by
  have hop : (nOpE op).op = op := rfl
  have hd : decS op [x, y] = false := by
    unfold decS
    rw [decide_eq_false (by omega), decide_eq_false (by omega)]; rfl
  unfold zc
  rw [hop, if_neg (by omega), if_neg (by omega), hd, if_neg (by simp), if_pos h]
theorem pair_miss {s t : ByteArray} (hs : wO s = true) (ht : wO t = true) {op : Int} (ho : op = 6 ∨ op = 7) {a b : List Val} (h : ¬ (a.length = 1 ∧ b.length = 1)) : zk (pairL s t op) (pairG s t a b) = (noVal, 4) := by
  have e : errS [oneI a, oneI b] = 4 := by
    unfold oneI
    by_cases h1 : a.length = 1
    · have h2 : ¬ b.length = 1 := fun h2 => h ⟨h1, h2⟩
      rw [if_pos h1, if_neg h2]; rfl
    · rw [if_neg h1]; rfl
  have h1 := pair_ev (s := s) (t := t) ho a b
  rw [node_miss ho (by rw [e]; omega), e] at h1
  exact zp (pair_ok hs ht ho) (by simp [pairL]) h1
theorem pair_value {s t : ByteArray} (hs : wO s = true) (ht : wO t = true) {op : Int} (ho : op = 6 ∨ op = 7) (x y : Val) : zk (pairL s t op) (pairG s t [x] [y]) = qN op [x, y] := by
  have h1 := pair_ev (s := s) (t := t) ho [x] [y]
  have h2 := node_two (op := op) (by omega) (rfl : qN op [x, y] = qN op [x, y]) (pairG s t [x] [y])
  have h3 : [oneI [x], oneI [y]] = [itV x, itV y] := rfl
  rw [h3, h2] at h1
  exact zp (pair_ok hs ht ho) (by simp [pairL]) h1
theorem call_eq_kind {x y : Val} (hx : x.right = true) (hy : y.right = true) : qN 6 [x, y] = if x.kind ≠ y.kind then (noVal, 2) else (jo (jh x y), 0) := by
  have hm : mayS 6 [x, y] = true := by simp [mayS, hx, hy]
  unfold qN
  rw [hm]
  simp
theorem call_less_of {x y : Val} (hx : x.right = true) (hy : y.right = true) : qN 7 [x, y] = if (wN x y).2 ≠ 0 then (noVal, (wN x y).2) else (jo (wN x y).1, 0) := by
  have hm : mayS 7 [x, y] = true := by simp [mayS, hx, hy]
  unfold qN
  rw [hm]
  simp
theorem valueS_plain {l : List Nod} (g : List Giv) (h : ∀ n ∈ l, n.op ≠ 2) : zk l g = zk l [] := valueS_same fun n hn h2 => absurd h2 (h n hn)
theorem valueS_with {l : List Nod} (g : List Giv) (x : Giv) (h : ∀ n ∈ l, n.op = 2 → isG n.attr.cat n.attr.name x = false) : zk l (withS g x) = zk l g := valueS_same fun n hn h2 => getS_with n.attr g x (h n hn h2)
end Go.Proofs.YtppfcacnofjmdaaGreatDoor
namespace Go.Proofs.YtppfcacnofjmdaaGreatDoor
set_option linter.unusedVariables false
set_option linter.unusedSimpArgs false
open Go.RowKit
def againstT (m : Mat) (v : Val) : Bool × Int :=
  if m.op = 1 then (if v.kind ≠ m.val.kind then (false, 2) else (jh v m.val, 0)) else if m.op = 2 then wN v m.val else wN m.val v
def okT (m : Mat) (v : Val) : Bool := (againstT m v).1
def badT (m : Mat) (v : Val) : Bool := decide ((againstT m v).2 ≠ 0)
def matchT (m : Mat) (l : List Giv) : Int :=
  if (getS m.attr l).2 ≠ 0 then 1 else if (getS m.attr l).1.any (okT m) then 2 else if (getS m.attr l).1.any (badT m) then 1 else 0
def allTT (l : List Mat) (g : List Giv) : Int := l.foldl (fun o m => min o (matchT m g)) 2
def anyTT (l : List (List Mat)) (g : List Giv) : Int := l.foldl (fun o x => max o (allTT x g)) 0
def metT (t : Tar) (g : List Giv) : Int := t.foldl (fun o x => min o (anyTT x g)) 2
theorem matchT_range (m : Mat) (l : List Giv) : 0 ≤ matchT m l ∧ matchT m l ≤ 2 := by
  unfold matchT
  split
  · omega
  · split
    · omega
    · split <;> omega
theorem foldl_min {α : Type} {f : α → Int} (hf : ∀ x, 0 ≤ f x ∧ f x ≤ 2) : ∀ (l : List α) (o : Int), 0 ≤ o ∧ o ≤ 2 → 0 ≤ l.foldl (fun o x => min o (f x)) o ∧ l.foldl (fun o x => min o (f x)) o ≤ 2
  | [], o, h => h
  | x :: l, o, h => by
    rw [List.foldl_cons]
    have := hf x
    exact foldl_min hf l _ (by omega)
theorem foldl_max {α : Type} {f : α → Int} (hf : ∀ x, 0 ≤ f x ∧ f x ≤ 2) : ∀ (l : List α) (o : Int), 0 ≤ o ∧ o ≤ 2 → 0 ≤ l.foldl (fun o x => max o (f x)) o ∧ l.foldl (fun o x => max o (f x)) o ≤ 2
  | [], o, h => h
  | x :: l, o, h => by
    rw [List.foldl_cons]
    have := hf x
    exact foldl_max hf l _ (by omega)
theorem allTT_range (l : List Mat) (g : List Giv) : 0 ≤ allTT l g ∧ allTT l g ≤ 2 := foldl_min (fun m => matchT_range m g) l 2 (by omega)
theorem anyTT_range (l : List (List Mat)) (g : List Giv) : 0 ≤ anyTT l g ∧ anyTT l g ≤ 2 := foldl_max (fun m => allTT_range m g) l 0 (by omega)
theorem metT_range (t : Tar) (g : List Giv) : 0 ≤ metT t g ∧ metT t g ≤ 2 := foldl_min (fun m => anyTT_range m g) t 2 (by omega)
abbrev Mk := Nat × Nat
def permM : Mk := (2, 0)
def denyM : Mk := (0, 2)
def naM : Mk := (0, 0)
def mks : List Mk := [(0, 0), (2, 0), (0, 2), (1, 0), (0, 1), (1, 1)]
def joinM (a b : Mk) : Mk := (max a.1 b.1, max a.2 b.2)
def overM (j : Mk) : Mk := if j.2 = 2 then (0, 2) else if j.2 = 1 ∧ 1 ≤ j.1 then (1, 1) else if j.2 = 1 then (0, 1) else if j.1 = 2 then (2, 0) else if j.1 = 1 then (1, 0) else (0, 0)
def turnM (j : Mk) : Mk := (j.2, j.1)
def qat (m : Mk) : Mk := if m = (2, 0) then (1, 0) else if m = (0, 2) then (0, 1) else m
def joinL (l : List Mk) : Mk := l.foldl joinM (0, 0)
def wy : List Mk → Mk
  | [] => (0, 0)
  | m :: r => if m = (0, 0) then wy r else m
def sureM (m : Mk) : Bool := decide (m = (0, 0)) || decide (m = (2, 0)) || decide (m = (0, 2))
def stepJ (j m : Mk) : Mk := if j = (0, 0) then m else if m ≠ (0, 0) then (1, 1) else j
def onlyM : Mk → List Mk → Mk
  | j, [] => j
  | j, m :: r => if sureM m then onlyM (stepJ j m) r else (1, 1)
def zY (l : List Mk) (m other : Mk) : Mk := if other ∈ l then other else m
def allM (alg : Int) (l : List Mk) : Mk :=
  if alg = 1 then overM (joinL l) else if alg = 2 then turnM (overM (turnM (joinL l))) else if alg = 3 then wy l
  else if alg = 4 then onlyM (0, 0) l else if alg = 5 then zY l (0, 2) (2, 0) else if alg = 6 then zY l (2, 0) (0, 2) else (0, 0)
theorem overM_mem (j : Mk) : overM j ∈ mks := by
  unfold overM mks
  repeat' split
  all_goals simp
theorem turnM_mem {j : Mk} (h : j ∈ mks) : turnM j ∈ mks := by
  unfold mks at h ⊢
  simp only [List.mem_cons, List.not_mem_nil, or_false] at h
  rcases h with rfl | rfl | rfl | rfl | rfl | rfl <;> simp [turnM]
theorem qau {j : Mk} (h : j ∈ mks) : qat j ∈ mks := by
  unfold mks at h ⊢
  simp only [List.mem_cons, List.not_mem_nil, or_false] at h
  rcases h with rfl | rfl | rfl | rfl | rfl | rfl <;> simp [qat]
theorem firstM_mem : ∀ {l : List Mk}, (∀ m ∈ l, m ∈ mks) → wy l ∈ mks
  | [], _ => by simp [wy, mks]
  | m :: r, h => by
    rw [wy]
    split
    · exact firstM_mem fun x hx => h x (List.mem_cons_of_mem _ hx)
    · exact h m (by simp)
theorem onlyM_mem : ∀ {l : List Mk} {j : Mk}, j ∈ mks → (∀ m ∈ l, m ∈ mks) → onlyM j l ∈ mks
  | [], j, hj, _ => hj
  | m :: r, j, hj, h => by
    rw [onlyM]
    split
    · refine onlyM_mem ?_ fun x hx => h x (List.mem_cons_of_mem _ hx)
      unfold stepJ
      split
      · exact h m (by simp)
      · split
        · simp [mks]
        · exact hj
    · simp [mks]
theorem allM_mem {alg : Int} {l : List Mk} (h : ∀ m ∈ l, m ∈ mks) : allM alg l ∈ mks := by
  unfold allM zY
  repeat' split
  all_goals first | exact overM_mem _ | exact turnM_mem (overM_mem _) | exact firstM_mem h | exact onlyM_mem (by simp [mks]) h | (simp [mks])
structure Rs where
  m : Mk
  obls : List Obli
def noRs : Rs := ⟨(0, 0), []⟩
def dutyS (m : Mk) (o : Obli) : Bool := (decide (o.on = 1) && decide (m = (2, 0))) || (decide (o.on = 2) && decide (m = (0, 2)))
def jm (l : List Obli) (m : Mk) : List Obli := l.filter (dutyS m)
def effM (r : Rul) : Mk := if r.deny then (0, 2) else (2, 0)
def jW (r : Rul) (t c : Int) : Rs :=
  if t = 0 ∨ (t = 2 ∧ c = 0) then ⟨(0, 0), []⟩ else if t = 1 ∨ c = 1 then ⟨qat (effM r), []⟩ else ⟨effM r, jm r.obls (effM r)⟩
def qaw (g : List Giv) (r : Rul) : Rs := jW r (metT r.target g) (qam r.cond g)
def wF (alg : Int) (m : Mk) : List Rs → List Obli
  | [] => []
  | x :: r => if x.m = m then (if alg = 3 then x.obls else x.obls ++ wF alg m r) else wF alg m r
def wM (p : Pol) (t : Int) (parts : List Rs) : Rs :=
  if t = 0 then ⟨(0, 0), []⟩ else if t = 1 then ⟨qat (allM p.alg (parts.map Rs.m)), []⟩
  else if allM p.alg (parts.map Rs.m) ≠ (2, 0) ∧ allM p.alg (parts.map Rs.m) ≠ (0, 2) then ⟨allM p.alg (parts.map Rs.m), []⟩
  else ⟨allM p.alg (parts.map Rs.m), wF p.alg (allM p.alg (parts.map Rs.m)) parts ++ jm p.obls (allM p.alg (parts.map Rs.m))⟩
def qF (g : List Giv) : Nat → Pol → Rs
  | 0, _ => noRs
  | n + 1, p => if metT p.target g = 0 then noRs else wM p (metT p.target g) (p.rules.map (qaw g) ++ p.kids.map (qF g n))
def evalS (p : Pol) (g : List Giv) : Rs × Int := if zb p = 0 then (qF g 4 p, 0) else (noRs, 1)
theorem effM_mem (r : Rul) : effM r ∈ mks := by unfold effM mks; split <;> simp
theorem qan (r : Rul) (t c : Int) : (jW r t c).m ∈ mks := by
  unfold jW
  repeat' split
  · simp [mks]
  · exact qau (effM_mem r)
  · exact effM_mem r
theorem joinR_mem {p : Pol} {t : Int} {l : List Rs} (h : ∀ x ∈ l, x.m ∈ mks) : (wM p t l).m ∈ mks := by
  have h0 : allM p.alg (l.map Rs.m) ∈ mks := allM_mem fun m hm => by
    obtain ⟨x, hx, rfl⟩ := List.mem_map.1 hm
    exact h x hx
  unfold wM
  repeat' split
  · simp [mks]
  · exact qau h0
  · exact h0
  · exact h0
theorem qaa (g : List Giv) : ∀ (n : Nat) (p : Pol), (qF g n p).m ∈ mks
  | 0, _ => by simp [qF, noRs, mks]
  | n + 1, p => by
    rw [qF]
    split
    · simp [noRs, mks]
    · refine joinR_mem fun x hx => ?_
      rcases List.mem_append.1 hx with hx | hx
      · obtain ⟨r, _, rfl⟩ := List.mem_map.1 hx
        exact qan _ _ _
      · obtain ⟨k, _, rfl⟩ := List.mem_map.1 hx
        exact qaa g n k
def Rs.ok (x : Rs) : Prop := x.m ∈ mks ∧ (x.m ≠ (2, 0) → x.m ≠ (0, 2) → x.obls = [])
theorem effectS_ok (r : Rul) (t c : Int) : (jW r t c).ok := by
  refine ⟨qan r t c, ?_⟩
  unfold jW
  repeat' split
  · exact fun _ _ => rfl
  · exact fun _ _ => rfl
  · intro h1 h2
    exfalso
    unfold effM at h1 h2
    cases hd : r.deny <;> simp_all
theorem joinR_ok {p : Pol} {t : Int} {l : List Rs} (h : ∀ x ∈ l, x.m ∈ mks) : (wM p t l).ok := by
  refine ⟨joinR_mem h, ?_⟩
  unfold wM
  repeat' split
  · exact fun _ _ => rfl
  · exact fun _ _ => rfl
  · exact fun _ _ => rfl
  · rename_i hn
    intro h1 h2
    exact absurd ⟨h1, h2⟩ hn
theorem decideS_ok (g : List Giv) (n : Nat) (p : Pol) : (qF g n p).ok := by
  cases n with
  | zero => exact ⟨by simp [qF, noRs, mks], fun _ _ => rfl⟩
  | succ n =>
    rw [qF]
    split
    · exact ⟨by simp [noRs, mks], fun _ _ => rfl⟩
    · refine joinR_ok fun x hx => ?_
      rcases List.mem_append.1 hx with hx | hx
      · obtain ⟨r, _, rfl⟩ := List.mem_map.1 hx
        exact qan _ _ _
      · obtain ⟨k, _, rfl⟩ := List.mem_map.1 hx
        exact qaa g n k
end Go.Proofs.YtppfcacnofjmdaaGreatDoor
namespace Go.Proofs.YtppfcacnofjmdaaGreatDoor
set_option linter.unusedVariables false
set_option linter.unusedSimpArgs false
open Go.RowKit
set_option maxHeartbeats 4000000
def hb : Nat → Nat
  | 0 => 0
  | 1 => 4602678819172646912
  | _ => 4607182418800017408
def mkP (m : Mk) : PV := .v (.complex .f64 (hb m.1) (hb m.2))
def mkE (a b : Mk) : Bool := FloatKind.f64.format.order (hb a.1) (hb b.1) == some .eq && FloatKind.f64.format.order (hb a.2) (hb b.2) == some .eq
theorem hb_eq {a b : Nat} (ha : a ≤ 2) (hb' : b ≤ 2) : (FloatKind.f64.format.order (hb a) (hb b) == some .eq) = decide (a = b) := by
  have h1 : a = 0 ∨ a = 1 ∨ a = 2 := by omega
  have h2 : b = 0 ∨ b = 1 ∨ b = 2 := by omega
  rcases h1 with rfl | rfl | rfl <;> rcases h2 with rfl | rfl | rfl <;> decide +kernel
theorem mks_le {m : Mk} (h : m ∈ mks) : m.1 ≤ 2 ∧ m.2 ≤ 2 := by
  unfold mks at h
  simp only [List.mem_cons, List.not_mem_nil, or_false] at h
  rcases h with rfl | rfl | rfl | rfl | rfl | rfl <;> exact ⟨by decide, by decide⟩
theorem mkE_eq {a b : Mk} (ha : a ∈ mks) (hb' : b ∈ mks) : mkE a b = decide (a = b) := by
  obtain ⟨h1, h2⟩ := mks_le ha
  obtain ⟨h3, h4⟩ := mks_le hb'
  unfold mkE
  rw [hb_eq h1 h3, hb_eq h2 h4]
  obtain ⟨a1, a2⟩ := a
  obtain ⟨b1, b2⟩ := b
  rw [Bool.eq_iff_iff]
  simp
theorem mkRight_h (m : Mk) (hm : m ∈ mks) : Holds Tryz.prog 20 [mkP m] (.p (pB true)) [] := by
  unfold mks at hm; simp only [List.mem_cons, List.not_mem_nil, or_false] at hm; rcases hm with rfl | rfl | rfl | rfl | rfl | rfl <;> exact .ofW (zT (n := 500) qe (zU _) (wH ctab) (by kernel_rfl) (by kernel_rfl))
theorem qas (m : Mk) (hm : m ∈ mks) : Holds Tryz.prog 25 [mkP m] (.p (mkP (qat m))) [] := by
  unfold mks at hm; simp only [List.mem_cons, List.not_mem_nil, or_false] at hm; rcases hm with rfl | rfl | rfl | rfl | rfl | rfl <;> exact .ofW (zT (n := 500) qe (zU _) (wH ctab) (by kernel_rfl) (by kernel_rfl))
theorem applies_h (m : Mk) (hm : m ∈ mks) : Holds Tryz.prog 139 [mkP m] (.p (pB (decide (m ≠ (0, 0))))) [] := by
  unfold mks at hm; simp only [List.mem_cons, List.not_mem_nil, or_false] at hm; rcases hm with rfl | rfl | rfl | rfl | rfl | rfl <;> exact .ofW (zT (n := 500) qe (zU _) (wH ctab) (by kernel_rfl) (by kernel_rfl))
theorem sure_h (m : Mk) (hm : m ∈ mks) : Holds Tryz.prog 140 [mkP m] (.p (pB (sureM m))) [] := by
  unfold mks at hm; simp only [List.mem_cons, List.not_mem_nil, or_false] at hm; rcases hm with rfl | rfl | rfl | rfl | rfl | rfl <;> exact .ofW (zT (n := 500) qe (zU _) (wH ctab) (by kernel_rfl) (by kernel_rfl))
theorem step4_h (j m : Mk) (hj : j ∈ mks) (hm : m ∈ mks) : Holds Tryz.prog 141 [pI 4, mkP j, mkP m] (.p (mkP (stepJ j m))) [] := by
  unfold mks at hj
  simp only [List.mem_cons, List.not_mem_nil, or_false] at hj
  unfold mks at hm; simp only [List.mem_cons, List.not_mem_nil, or_false] at hm; rcases hm with rfl | rfl | rfl | rfl | rfl | rfl <;> rcases hj with rfl | rfl | rfl | rfl | rfl | rfl <;> exact .ofW (zT (n := 500) qe (zU _) (wH ctab) (by kernel_rfl) (by kernel_rfl))
theorem mkTurn_h (a b : Nat) (ha : a ≤ 2) (hb' : b ≤ 2) : Holds Tryz.prog 109 [mkP (a, b)] (.p (mkP (b, a))) [] := by
  have h1 : a = 0 ∨ a = 1 ∨ a = 2 := by omega
  have h2 : b = 0 ∨ b = 1 ∨ b = 2 := by omega
  rcases h1 with rfl | rfl | rfl <;> rcases h2 with rfl | rfl | rfl <;> exact .ofW (zT (n := 500) qe (zU _) (wH ctab) (by kernel_rfl) (by kernel_rfl))
theorem mkOver_h (a b : Nat) (ha : a ≤ 2) (hb' : b ≤ 2) : Holds Tryz.prog 108 [mkP (a, b)] (.p (mkP (overM (a, b)))) [] := by
  have h1 : a = 0 ∨ a = 1 ∨ a = 2 := by omega
  have h2 : b = 0 ∨ b = 1 ∨ b = 2 := by omega
  rcases h1 with rfl | rfl | rfl <;> rcases h2 with rfl | rfl | rfl <;> exact .ofW (zT (n := 500) qe (zU _) (wH ctab) (by kernel_rfl) (by kernel_rfl))
theorem mkJoin_h (j m : Mk) (hj : j.1 ≤ 2 ∧ j.2 ≤ 2) (hm : m ∈ mks) : Holds Tryz.prog 107 [mkP j, mkP m] (.p (mkP (joinM j m))) [] := by
  obtain ⟨a, b⟩ := j
  obtain ⟨h1, h2⟩ := hj
  simp only at h1 h2
  have h1 : a = 0 ∨ a = 1 ∨ a = 2 := by omega
  have h2 : b = 0 ∨ b = 1 ∨ b = 2 := by omega
  unfold mks at hm; simp only [List.mem_cons, List.not_mem_nil, or_false] at hm; rcases hm with rfl | rfl | rfl | rfl | rfl | rfl <;> rcases h1 with rfl | rfl | rfl <;> rcases h2 with rfl | rfl | rfl <;> exact .ofW (zT (n := 500) qe (zU _) (wH ctab) (by kernel_rfl) (by kernel_rfl))
theorem joinM_le {a b : Mk} (ha : a.1 ≤ 2 ∧ a.2 ≤ 2) (hb' : b.1 ≤ 2 ∧ b.2 ≤ 2) : (joinM a b).1 ≤ 2 ∧ (joinM a b).2 ≤ 2 := by
  unfold joinM
  simp only
  omega
end Go.Proofs.YtppfcacnofjmdaaGreatDoor
namespace Go.Proofs.YtppfcacnofjmdaaGreatDoor
set_option linter.unusedVariables false
set_option linter.unusedSimpArgs false
open Go.RowKit
set_option maxHeartbeats 4000000
def marksP (l : List Mk) : PV := .sl 1 (l.map fun m => [mkP m])
theorem indexMk_h (l : List Mk) (hn : l.length ≤ 1000000) (f : FuncId) (caps : List PV) (p : Mk → Bool) (hF : ∀ m ∈ l, Holds Tryz.prog f ([mkP m] ++ caps) (.p (pB (p m))) []) :
    Holds Tryz.prog 138 [marksP l, .fn f caps] (.p (pI (if l.findIdx p < l.length then (l.findIdx p : Int) else -1))) [] := by
  refine qA (ts := [4]) Tryz.func138 (by kernel_rfl) rfl rfl rfl ?_
  (repeat refine qb ?_); refine qa ?_
  repeat (first | refine zR ?_ | refine zK ?_ | refine zM ?_ | refine zB ?_ | refine zA ?_ | refine zS ?_ | refine zL ?_)
  refine qc ?_
  (repeat refine qb ?_); refine qa ?_
  repeat (first | refine zR ?_ | refine zK ?_ | refine zM ?_ | refine zB ?_ | refine zA ?_ | refine zS ?_ | refine zL ?_)
  refine qc ?_
  (repeat refine qb ?_); refine ql ?_
  refine SW.wk (qq [0, 1, 7, 8] [] rfl rfl) ?_
  refine qO (fun n s => ∃ (k : Nat) (kk : Int), k ≤ l.length ∧ n = l.length - k ∧ kk = k ∧ (∀ g ∈ l.take k, p g = false) ∧ s = ⟨19, [(0, .p (marksP l)), (1, .p (.fn f caps)), (7, .p (pI (l.map fun m => [mkP m]).length)), (8, .p (pI kk))], []⟩) l.length ⟨0, 0, Nat.zero_le _, rfl, rfl, by simp, rfl⟩ ?_
  rintro n s ⟨k, _, hk, rfl, rfl, ha, rfl⟩
  (repeat refine qb ?_); refine qa ?_
  repeat (first | refine zR ?_ | refine zK ?_ | refine zM ?_ | refine zB ?_ | refine zA ?_ | refine zS ?_ | refine zL ?_)
  refine qc ?_
  (repeat refine qb ?_); refine qf rfl (fun hlt => ?_) (fun hlt => ?_)
  · refine qm ?_
    simp only [List.length_map, decide_eq_true_eq] at hlt
    have hlt' : k < l.length := by omega
    (repeat refine qb ?_); refine ql ?_
    (repeat refine qb ?_); refine qa ?_
    repeat (first | refine zR ?_ | refine zK ?_ | refine zM ?_ | refine zB ?_ | refine zA ?_ | refine zS ?_ | refine zL ?_)
    refine qc ?_
    (repeat refine qb ?_); refine qa ?_
    repeat (first | refine zR ?_ | refine zK ?_ | refine zM ?_ | refine zB ?_ | refine zA ?_ | refine zS ?_ | refine zL ?_)
    refine qw qe rfl rfl (by simp only [List.length_map]; omega) rfl ?_
    rw [qJ hlt']
    repeat (first | refine zR ?_ | refine zK ?_ | refine zM ?_ | refine zB ?_ | refine zA ?_ | refine zS ?_ | refine zL ?_)
    refine qn rfl (qg rfl rfl rfl rfl (hF l[k] (List.getElem_mem hlt')) rfl rfl ?_)
    repeat (first | refine zR ?_ | refine zK ?_ | refine zM ?_ | refine zB ?_ | refine zA ?_ | refine zS ?_ | refine zL ?_)
    refine qc ?_
    (repeat refine qb ?_); refine qf rfl (fun hp => ?_) (fun hp => ?_)
    · (repeat refine qb ?_); refine qa ?_
      repeat (first | refine zR ?_ | refine zK ?_ | refine zM ?_ | refine zB ?_ | refine zA ?_ | refine zS ?_ | refine zL ?_)
      refine qc ?_
      (repeat refine qb ?_); refine qk ?_
      refine zg rfl ?_
      have e : l.findIdx p = k := (List.findIdx_eq hlt').2 ⟨hp, fun j hj => ha _ (List.mem_take_iff_getElem.2 ⟨j, by omega, rfl⟩)⟩
      rw [e, if_pos hlt']
    · refine qm ?_
      (repeat refine qb ?_); refine qa ?_
      repeat (first | refine zR ?_ | refine zK ?_ | refine zM ?_ | refine zB ?_ | refine zA ?_ | refine zS ?_ | refine zL ?_)
      refine qc ?_
      refine ⟨_, _, ?_, qq [0, 1, 7, 8] [] rfl rfl, k + 1, _, hlt', rfl, qz hlt' (by omega), ?_, rfl⟩
      · omega
      · intro g hg
        rw [List.take_succ_eq_append_getElem hlt', List.mem_append, List.mem_singleton] at hg
        rcases hg with hg | rfl
        · exact ha g hg
        · exact hp
  · refine qK ?_
    simp only [List.length_map, decide_eq_false_iff_not] at hlt
    have hkk : k = l.length := by omega
    subst hkk
    (repeat refine qb ?_); refine qa ?_
    repeat (first | refine zR ?_ | refine zK ?_ | refine zM ?_ | refine zB ?_ | refine zA ?_ | refine zS ?_ | refine zL ?_)
    refine qc ?_
    (repeat refine qb ?_); refine qk ?_
    refine zg rfl ?_
    rw [List.take_length] at ha
    rw [if_neg]
    have := List.findIdx_eq_length_of_false ha
    omega
theorem indexEq_h (l : List Mk) (hn : l.length ≤ 1000000) (hl : ∀ m ∈ l, m ∈ mks) (v : Mk) (hv : v ∈ mks) :
    Holds Tryz.prog 154 [marksP l, mkP v] (.p (pI (if l.findIdx (fun m => decide (v = m)) < l.length then (l.findIdx (fun m => decide (v = m)) : Int) else -1))) [] := by
  refine qA (ts := [4]) Tryz.func154 (by kernel_rfl) rfl rfl rfl ?_
  (repeat refine qb ?_); refine qa ?_
  repeat (first | refine zR ?_ | refine zK ?_ | refine zM ?_ | refine zB ?_ | refine zA ?_ | refine zS ?_ | refine zL ?_)
  refine qc ?_
  (repeat refine qb ?_); refine qa ?_
  repeat (first | refine zR ?_ | refine zK ?_ | refine zM ?_ | refine zB ?_ | refine zA ?_ | refine zS ?_ | refine zL ?_)
  refine qc ?_
  (repeat refine qb ?_); refine ql ?_
  refine SW.wk (qq [0, 1, 7, 8] [] rfl rfl) ?_
  refine qO (fun n s => ∃ (k : Nat) (kk : Int), k ≤ l.length ∧ n = l.length - k ∧ kk = k ∧ (∀ g ∈ l.take k, decide (v = g) = false) ∧ s = ⟨19, [(0, .p (marksP l)), (1, .p (mkP v)), (7, .p (pI (l.map fun m => [mkP m]).length)), (8, .p (pI kk))], []⟩) l.length ⟨0, 0, Nat.zero_le _, rfl, rfl, by simp, rfl⟩ ?_
  rintro n s ⟨k, _, hk, rfl, rfl, ha, rfl⟩
  (repeat refine qb ?_); refine qa ?_
  repeat (first | refine zR ?_ | refine zK ?_ | refine zM ?_ | refine zB ?_ | refine zA ?_ | refine zS ?_ | refine zL ?_)
  refine qc ?_
  (repeat refine qb ?_); refine qf rfl (fun hlt => ?_) (fun hlt => ?_)
  · refine qm ?_
    simp only [List.length_map, decide_eq_true_eq] at hlt
    have hlt' : k < l.length := by omega
    (repeat refine qb ?_); refine ql ?_
    (repeat refine qb ?_); refine qa ?_
    repeat (first | refine zR ?_ | refine zK ?_ | refine zM ?_ | refine zB ?_ | refine zA ?_ | refine zS ?_ | refine zL ?_)
    refine qc ?_
    (repeat refine qb ?_); refine qa ?_
    repeat (first | refine zR ?_ | refine zK ?_ | refine zM ?_ | refine zB ?_ | refine zA ?_ | refine zS ?_ | refine zL ?_)
    refine qw qe rfl rfl (by simp only [List.length_map]; omega) rfl ?_
    rw [qJ hlt']
    repeat (first | refine zR ?_ | refine zK ?_ | refine zM ?_ | refine zB ?_ | refine zA ?_ | refine zS ?_ | refine zL ?_)
    refine qc ?_
    (repeat refine qb ?_); refine qf rfl (fun hp => ?_) (fun hp => ?_)
    · (repeat refine qb ?_); refine qa ?_
      repeat (first | refine zR ?_ | refine zK ?_ | refine zM ?_ | refine zB ?_ | refine zA ?_ | refine zS ?_ | refine zL ?_)
      refine qc ?_
      (repeat refine qb ?_); refine qk ?_
      refine zg rfl ?_
      change mkE v l[k] = true at hp
      rw [mkE_eq hv (hl _ (List.getElem_mem hlt'))] at hp
      have e : l.findIdx (fun m => decide (v = m)) = k := (List.findIdx_eq hlt').2 ⟨hp, fun j hj => ha _ (List.mem_take_iff_getElem.2 ⟨j, by omega, rfl⟩)⟩
      rw [e, if_pos hlt']
    · change mkE v l[k] = false at hp
      rw [mkE_eq hv (hl _ (List.getElem_mem hlt'))] at hp
      refine qm ?_
      (repeat refine qb ?_); refine qa ?_
      repeat (first | refine zR ?_ | refine zK ?_ | refine zM ?_ | refine zB ?_ | refine zA ?_ | refine zS ?_ | refine zL ?_)
      refine qc ?_
      refine ⟨_, _, ?_, qq [0, 1, 7, 8] [] rfl rfl, k + 1, _, hlt', rfl, qz hlt' (by omega), ?_, rfl⟩
      · omega
      · intro g hg
        rw [List.take_succ_eq_append_getElem hlt', List.mem_append, List.mem_singleton] at hg
        rcases hg with hg | rfl
        · exact ha g hg
        · exact hp
  · refine qK ?_
    simp only [List.length_map, decide_eq_false_iff_not] at hlt
    have hkk : k = l.length := by omega
    subst hkk
    (repeat refine qb ?_); refine qa ?_
    repeat (first | refine zR ?_ | refine zK ?_ | refine zM ?_ | refine zB ?_ | refine zA ?_ | refine zS ?_ | refine zL ?_)
    refine qc ?_
    (repeat refine qb ?_); refine qk ?_
    refine zg rfl ?_
    rw [List.take_length] at ha
    rw [if_neg]
    have := List.findIdx_eq_length_of_false ha
    omega
theorem contMk_h (l : List Mk) (hn : l.length ≤ 1000000) (hl : ∀ m ∈ l, m ∈ mks) (v : Mk) (hv : v ∈ mks) :
    Holds Tryz.prog 142 [marksP l, mkP v] (.p (pB (decide (v ∈ l)))) [] := by
  refine qA (ts := [4]) Tryz.func142 (by kernel_rfl) rfl rfl rfl ?_
  (repeat refine qb ?_); refine qa ?_
  repeat (first | refine zR ?_ | refine zK ?_ | refine zM ?_ | refine zB ?_ | refine zA ?_ | refine zS ?_ | refine zL ?_)
  refine qc ?_
  (repeat refine qb ?_); refine qa ?_
  repeat (first | refine zR ?_ | refine zK ?_ | refine zM ?_ | refine zB ?_ | refine zA ?_ | refine zS ?_ | refine zL ?_)
  refine qn rfl (qg rfl rfl rfl rfl (indexEq_h l hn hl v hv) rfl rfl ?_)
  repeat (first | refine zR ?_ | refine zK ?_ | refine zM ?_ | refine zB ?_ | refine zA ?_ | refine zS ?_ | refine zL ?_)
  refine qc ?_
  (repeat refine qb ?_); refine qk ?_
  refine wS rfl ?_
  by_cases h : v ∈ l
  · have : l.findIdx (fun m => decide (v = m)) < l.length := List.findIdx_lt_length_of_exists ⟨v, h, by simp⟩
    rw [if_pos this]
    simp [h]
  · have : l.findIdx (fun m => decide (v = m)) = l.length := List.findIdx_eq_length_of_false fun x hx => by
      simp only [decide_eq_false_iff_not]
      exact fun e => h (e ▸ hx)
    rw [if_neg (by omega)]
    simp [h]
theorem unless_h (l : List Mk) (hn : l.length ≤ 1000000) (hl : ∀ m ∈ l, m ∈ mks) (m o : Mk) (ho : o ∈ mks) : Holds Tryz.prog 112 [marksP l, mkP m, mkP o] (.p (mkP (zY l m o))) [] := by
  unfold zY
  refine qA (ts := [6]) Tryz.func112 (by kernel_rfl) rfl rfl rfl ?_
  (repeat refine qb ?_); refine qa ?_
  repeat (first | refine zR ?_ | refine zK ?_ | refine zM ?_ | refine zB ?_ | refine zA ?_ | refine zS ?_ | refine zL ?_)
  refine qc ?_
  (repeat refine qb ?_); refine qa ?_
  repeat (first | refine zR ?_ | refine zK ?_ | refine zM ?_ | refine zB ?_ | refine zA ?_ | refine zS ?_ | refine zL ?_)
  refine qn rfl (qg rfl rfl rfl rfl (contMk_h l hn hl o ho) rfl rfl ?_)
  repeat (first | refine zR ?_ | refine zK ?_ | refine zM ?_ | refine zB ?_ | refine zA ?_ | refine zS ?_ | refine zL ?_)
  refine qc ?_
  (repeat refine qb ?_); refine qf rfl (fun hc => ?_) (fun hc => ?_)
  · (repeat refine qb ?_); refine qa ?_
    repeat (first | refine zR ?_ | refine zK ?_ | refine zM ?_ | refine zB ?_ | refine zA ?_ | refine zS ?_ | refine zL ?_)
    refine qc ?_
    (repeat refine qb ?_); refine qk ?_
    rw [if_pos (of_decide_eq_true hc)]
    exact ⟨Or.inr rfl, _, _, [], Wk.refl _, rfl, rfl, rfl, rfl⟩
  · refine qm ?_
    (repeat refine qb ?_); refine qa ?_
    repeat (first | refine zR ?_ | refine zK ?_ | refine zM ?_ | refine zB ?_ | refine zA ?_ | refine zS ?_ | refine zL ?_)
    refine qc ?_
    (repeat refine qb ?_); refine qk ?_
    rw [if_neg (of_decide_eq_false hc)]
    exact ⟨Or.inr rfl, _, _, [], Wk.refl _, rfl, rfl, rfl, rfl⟩
theorem firstM_idx : ∀ {l : List Mk} {k : Nat} (h : k < l.length), l.findIdx (fun m => decide (m ≠ (0, 0))) = k → wy l = l[k]
  | m :: l, k, h, e => by
    rw [List.findIdx_cons] at e
    rw [wy]
    by_cases hm : m = (0, 0)
    · rw [if_pos hm]
      rw [show decide (m ≠ (0, 0)) = false by simp [hm], cond_false] at e
      obtain ⟨j, rfl⟩ : ∃ j, k = j + 1 := ⟨k - 1, by omega⟩
      rw [List.getElem_cons_succ]
      exact firstM_idx (by simpa using h) (by omega)
    · rw [if_neg hm]
      rw [show decide (m ≠ (0, 0)) = true by simp [hm], cond_true] at e
      subst e; rfl
theorem firstM_none : ∀ {l : List Mk}, (∀ m ∈ l, m = (0, 0)) → wy l = (0, 0)
  | [], _ => rfl
  | m :: l, h => by rw [wy, if_pos (h m (by simp))]; exact firstM_none fun x hx => h x (List.mem_cons_of_mem _ hx)
theorem first_h (l : List Mk) (hn : l.length ≤ 1000000) (hl : ∀ m ∈ l, m ∈ mks) : Holds Tryz.prog 110 [marksP l] (.p (mkP (wy l))) [] := by
  refine qA (ts := [2]) Tryz.func110 (by kernel_rfl) rfl rfl rfl ?_
  (repeat refine qb ?_); refine qa ?_
  repeat (first | refine zR ?_ | refine zK ?_ | refine zM ?_ | refine zB ?_ | refine zA ?_ | refine zS ?_ | refine zL ?_)
  refine qc ?_
  (repeat refine qb ?_); refine qa ?_
  repeat (first | refine zR ?_ | refine zK ?_ | refine zM ?_ | refine zB ?_ | refine zA ?_ | refine zS ?_ | refine zL ?_)
  refine qn rfl (qg rfl rfl rfl rfl (indexMk_h l hn _ _ (fun m => decide (m ≠ (0, 0))) (fun m hm => applies_h m (hl m hm))) rfl rfl ?_)
  repeat (first | refine zR ?_ | refine zK ?_ | refine zM ?_ | refine zB ?_ | refine zA ?_ | refine zS ?_ | refine zL ?_)
  refine qc ?_
  by_cases hf : l.findIdx (fun m => decide (m ≠ (0, 0))) < l.length
  · obtain ⟨k, hk, e1, e⟩ : ∃ k, ∃ h : k < l.length, l.findIdx (fun m => decide (m ≠ (0, 0))) = k ∧ wy l = l[k] := ⟨_, hf, rfl, firstM_idx hf rfl⟩
    rw [if_pos hf, e1, e]
    clear e1 hf
    (repeat refine qb ?_); refine qa ?_
    repeat (first | refine zR ?_ | refine zK ?_ | refine zM ?_ | refine zB ?_ | refine zA ?_ | refine zS ?_ | refine zL ?_)
    refine qc ?_
    (repeat refine qb ?_); refine qf rfl (fun hc => ?_) (fun hc => ?_)
    · (repeat refine qb ?_); refine qa ?_
      repeat (first | refine zR ?_ | refine zK ?_ | refine zM ?_ | refine zB ?_ | refine zA ?_ | refine zS ?_ | refine zL ?_)
      refine qw qe rfl rfl (by simp only [List.length_map]; omega) rfl ?_
      rw [qJ hk]
      repeat (first | refine zR ?_ | refine zK ?_ | refine zM ?_ | refine zB ?_ | refine zA ?_ | refine zS ?_ | refine zL ?_)
      refine qc ?_
      (repeat refine qb ?_); refine qk ?_
      exact ⟨Or.inr rfl, _, _, [], Wk.refl _, rfl, rfl, rfl, rfl⟩
    · exfalso
      simp at hc
  · have e : wy l = (0, 0) := firstM_none fun m hm => Classical.byContradiction fun hne => hf (List.findIdx_lt_length_of_exists ⟨m, hm, by simp [hne]⟩)
    rw [if_neg hf, e]
    (repeat refine qb ?_); refine qa ?_
    repeat (first | refine zR ?_ | refine zK ?_ | refine zM ?_ | refine zB ?_ | refine zA ?_ | refine zS ?_ | refine zL ?_)
    refine qc ?_
    (repeat refine qb ?_); refine qf rfl (fun hc => ?_) (fun hc => ?_)
    · cases hc
    · refine qm ?_
      (repeat refine qb ?_); refine qa ?_
      repeat (first | refine zR ?_ | refine zK ?_ | refine zM ?_ | refine zB ?_ | refine zA ?_ | refine zS ?_ | refine zL ?_)
      refine qc ?_
      (repeat refine qb ?_); refine qk ?_
      exact ⟨Or.inr rfl, _, _, [], Wk.refl _, rfl, rfl, rfl, rfl⟩
theorem stepJ_mem {j m : Mk} (hj : j ∈ mks) (hm : m ∈ mks) : stepJ j m ∈ mks := by
  unfold stepJ
  repeat' split
  · exact hm
  · simp [mks]
  · exact hj
theorem only_h (l : List Mk) (hn : l.length ≤ 1000000) (hl : ∀ m ∈ l, m ∈ mks) : Holds Tryz.prog 111 [marksP l] (.p (mkP (onlyM (0, 0) l))) [] := by
  refine qA (ts := [2]) Tryz.func111 (by kernel_rfl) rfl rfl rfl ?_
  (repeat refine qb ?_); refine qa ?_
  repeat (first | refine zR ?_ | refine zK ?_ | refine zM ?_ | refine zB ?_ | refine zA ?_ | refine zS ?_ | refine zL ?_)
  refine qc ?_
  (repeat refine qb ?_); refine qa ?_
  repeat (first | refine zR ?_ | refine zK ?_ | refine zM ?_ | refine zB ?_ | refine zA ?_ | refine zS ?_ | refine zL ?_)
  refine qc ?_
  (repeat refine qb ?_); refine qa ?_
  repeat (first | refine zR ?_ | refine zK ?_ | refine zM ?_ | refine zB ?_ | refine zA ?_ | refine zS ?_ | refine zL ?_)
  refine qc ?_
  (repeat refine qb ?_); refine ql ?_
  refine SW.wk (qq [3, 6, 7, 8] [] rfl rfl) ?_
  refine qO (fun n s => ∃ (k : Nat) (kk : Int) (j : Mk), k ≤ l.length ∧ n = l.length - k ∧ kk = k ∧ j ∈ mks ∧ onlyM (0, 0) l = onlyM j (l.drop k) ∧ s = ⟨20, [(3, .p (mkP j)), (6, .p (marksP l)), (7, .p (pI (l.map fun m => [mkP m]).length)), (8, .p (pI kk))], []⟩) l.length ⟨0, 0, (0, 0), Nat.zero_le _, rfl, rfl, by simp [mks], rfl, rfl⟩ ?_
  rintro n s ⟨k, _, j, hk, rfl, rfl, hj, ha, rfl⟩
  (repeat refine qb ?_); refine qa ?_
  repeat (first | refine zR ?_ | refine zK ?_ | refine zM ?_ | refine zB ?_ | refine zA ?_ | refine zS ?_ | refine zL ?_)
  refine qc ?_
  (repeat refine qb ?_); refine qf rfl (fun hlt => ?_) (fun hlt => ?_)
  · refine qm ?_
    simp only [List.length_map, decide_eq_true_eq] at hlt
    have hlt' : k < l.length := by omega
    have hm := hl _ (List.getElem_mem hlt')
    rw [List.drop_eq_getElem_cons hlt', onlyM] at ha
    (repeat refine qb ?_); refine ql ?_
    (repeat refine qb ?_); refine qa ?_
    repeat (first | refine zR ?_ | refine zK ?_ | refine zM ?_ | refine zB ?_ | refine zA ?_ | refine zS ?_ | refine zL ?_)
    refine qw qe rfl rfl (by simp only [List.length_map]; omega) rfl ?_
    rw [qJ hlt']
    repeat (first | refine zR ?_ | refine zK ?_ | refine zM ?_ | refine zB ?_ | refine zA ?_ | refine zS ?_ | refine zL ?_)
    refine qc ?_
    (repeat refine qb ?_); refine qa ?_
    repeat (first | refine zR ?_ | refine zK ?_ | refine zM ?_ | refine zB ?_ | refine zA ?_ | refine zS ?_ | refine zL ?_)
    refine qn rfl (qg rfl rfl rfl rfl (sure_h l[k] hm) rfl rfl ?_)
    repeat (first | refine zR ?_ | refine zK ?_ | refine zM ?_ | refine zB ?_ | refine zA ?_ | refine zS ?_ | refine zL ?_)
    refine qc ?_
    cases hs : sureM l[k] with
    | false =>
      rw [hs, if_neg (by simp)] at ha
      (repeat refine qb ?_); refine qf rfl (fun hc => ?_) (fun hc => ?_)
      · (repeat refine qb ?_); refine qa ?_
        repeat (first | refine zR ?_ | refine zK ?_ | refine zM ?_ | refine zB ?_ | refine zA ?_ | refine zS ?_ | refine zL ?_)
        refine qc ?_
        (repeat refine qb ?_); refine qk ?_
        rw [ha]
        exact ⟨Or.inr rfl, _, _, [], Wk.refl _, rfl, rfl, rfl, rfl⟩
      · cases hc
    | true =>
      rw [hs, if_pos rfl] at ha
      (repeat refine qb ?_); refine qf rfl (fun hc => ?_) (fun hc => ?_)
      · cases hc
      refine qm ?_
      (repeat refine qb ?_); refine qa ?_
      repeat (first | refine zR ?_ | refine zK ?_ | refine zM ?_ | refine zB ?_ | refine zA ?_ | refine zS ?_ | refine zL ?_)
      refine qn rfl (qg rfl rfl rfl rfl (step4_h j l[k] hj hm) rfl rfl ?_)
      repeat (first | refine zR ?_ | refine zK ?_ | refine zM ?_ | refine zB ?_ | refine zA ?_ | refine zS ?_ | refine zL ?_)
      refine qc ?_
      (repeat refine qb ?_); refine qa ?_
      repeat (first | refine zR ?_ | refine zK ?_ | refine zM ?_ | refine zB ?_ | refine zA ?_ | refine zS ?_ | refine zL ?_)
      refine qc ?_
      refine ⟨_, _, ?_, qq [3, 6, 7, 8] [] rfl rfl, k + 1, _, stepJ j l[k], hlt', rfl, qz hlt' (by omega), stepJ_mem hj hm, ha, rfl⟩
      omega
  · refine qK ?_
    simp only [List.length_map, decide_eq_false_iff_not] at hlt
    have hkk : k = l.length := by omega
    subst hkk
    rw [List.drop_length] at ha
    rw [ha]
    (repeat refine qb ?_); refine qa ?_
    repeat (first | refine zR ?_ | refine zK ?_ | refine zM ?_ | refine zB ?_ | refine zA ?_ | refine zS ?_ | refine zL ?_)
    refine qc ?_
    (repeat refine qb ?_); refine qk ?_
    exact ⟨Or.inr rfl, _, _, [], Wk.refl _, rfl, rfl, rfl, rfl⟩
theorem joinL_take {l : List Mk} {k : Nat} (h : k < l.length) : joinM (joinL (l.take k)) l[k] = joinL (l.take (k + 1)) := by
  unfold joinL
  rw [List.take_succ_eq_append_getElem h, List.foldl_append]; rfl
theorem combAll_h (alg : Int) (l : List Mk) (hn : l.length ≤ 1000000) (hl : ∀ m ∈ l, m ∈ mks) : Holds Tryz.prog 87 [pI alg, marksP l] (.tup [.p (mkP (allM alg l)), .p (pI (if 1 ≤ alg ∧ alg ≤ 6 then 0 else 1))]) [] := by
  refine qA (ts := [4,5]) Tryz.func87 (by kernel_rfl) rfl rfl rfl ?_
  (repeat refine qb ?_); refine qa ?_
  repeat (first | refine zR ?_ | refine zK ?_ | refine zM ?_ | refine zB ?_ | refine zA ?_ | refine zS ?_ | refine zL ?_)
  refine qc ?_
  (repeat refine qb ?_); refine qa ?_
  repeat (first | refine zR ?_ | refine zK ?_ | refine zM ?_ | refine zB ?_ | refine zA ?_ | refine zS ?_ | refine zL ?_)
  refine qc ?_
  (repeat refine qb ?_); refine qa ?_
  repeat (first | refine zR ?_ | refine zK ?_ | refine zM ?_ | refine zB ?_ | refine zA ?_ | refine zS ?_ | refine zL ?_)
  refine qc ?_
  (repeat refine qb ?_); refine ql ?_
  refine SW.wk (qq [0, 1, 6, 9, 10, 11] [] rfl rfl) ?_
  refine qO (fun m s => ∃ (k : Nat) (kk : Int) (j : Mk), k ≤ l.length ∧ m = l.length - k ∧ kk = k ∧ j = joinL (l.take k) ∧ (j.1 ≤ 2 ∧ j.2 ≤ 2) ∧ s = ⟨49, [(0, .p (pI alg)), (1, .p (marksP l)), (6, .p (mkP j)), (9, .p (marksP l)), (10, .p (pI (l.map fun m => [mkP m]).length)), (11, .p (pI kk))], []⟩) l.length ⟨0, 0, (0, 0), Nat.zero_le _, rfl, rfl, rfl, ⟨by decide, by decide⟩, rfl⟩ ?_
  rintro m s ⟨k, _, j, hk, rfl, rfl, hj, hj2, rfl⟩
  (repeat refine qb ?_); refine qa ?_
  repeat (first | refine zR ?_ | refine zK ?_ | refine zM ?_ | refine zB ?_ | refine zA ?_ | refine zS ?_ | refine zL ?_)
  refine qc ?_
  (repeat refine qb ?_); refine qf rfl (fun hlt => ?_) (fun hlt => ?_)
  · refine qm ?_
    simp only [List.length_map, decide_eq_true_eq] at hlt
    have hlt' : k < l.length := by omega
    have hm := hl _ (List.getElem_mem hlt')
    (repeat refine qb ?_); refine ql ?_
    (repeat refine qb ?_); refine qa ?_
    repeat (first | refine zR ?_ | refine zK ?_ | refine zM ?_ | refine zB ?_ | refine zA ?_ | refine zS ?_ | refine zL ?_)
    refine qw qe rfl rfl (by simp only [List.length_map]; omega) rfl ?_
    rw [qJ hlt']
    repeat (first | refine zR ?_ | refine zK ?_ | refine zM ?_ | refine zB ?_ | refine zA ?_ | refine zS ?_ | refine zL ?_)
    refine qc ?_
    (repeat refine qb ?_); refine qa ?_
    repeat (first | refine zR ?_ | refine zK ?_ | refine zM ?_ | refine zB ?_ | refine zA ?_ | refine zS ?_ | refine zL ?_)
    refine qn rfl (qg rfl rfl rfl rfl (mkRight_h l[k] hm) rfl rfl ?_)
    repeat (first | refine zR ?_ | refine zK ?_ | refine zM ?_ | refine zB ?_ | refine zA ?_ | refine zS ?_ | refine zL ?_)
    refine qc ?_
    (repeat refine qb ?_); refine qf rfl (fun hc => ?_) (fun hc => ?_)
    · cases hc
    refine qm ?_
    (repeat refine qb ?_); refine qa ?_
    repeat (first | refine zR ?_ | refine zK ?_ | refine zM ?_ | refine zB ?_ | refine zA ?_ | refine zS ?_ | refine zL ?_)
    refine qn rfl (qg rfl rfl rfl rfl (mkJoin_h j l[k] hj2 hm) rfl rfl ?_)
    repeat (first | refine zR ?_ | refine zK ?_ | refine zM ?_ | refine zB ?_ | refine zA ?_ | refine zS ?_ | refine zL ?_)
    refine qc ?_
    (repeat refine qb ?_); refine qa ?_
    repeat (first | refine zR ?_ | refine zK ?_ | refine zM ?_ | refine zB ?_ | refine zA ?_ | refine zS ?_ | refine zL ?_)
    refine qc ?_
    refine ⟨_, _, ?_, qq [0, 1, 6, 9, 10, 11] [] rfl rfl, k + 1, _, joinM j l[k], hlt', rfl, qz hlt' (by omega), ?_, joinM_le hj2 (mks_le hm), rfl⟩
    · omega
    · rw [hj]; exact joinL_take hlt'
  · refine qK ?_
    simp only [List.length_map, decide_eq_false_iff_not] at hlt
    have hkk : k = l.length := by omega
    subst hkk
    rw [List.take_length] at hj
    obtain ⟨a, b⟩ := j
    obtain ⟨h1, h2⟩ := hj2
    simp only at h1 h2
    (repeat refine qb ?_); refine qa ?_
    repeat (first | refine zR ?_ | refine zK ?_ | refine zM ?_ | refine zB ?_ | refine zA ?_ | refine zS ?_ | refine zL ?_)
    refine qc ?_
    (repeat refine qb ?_); refine ql ?_
    (repeat refine qb ?_); refine qa ?_
    repeat (first | refine zR ?_ | refine zK ?_ | refine zM ?_ | refine zB ?_ | refine zA ?_ | refine zS ?_ | refine zL ?_)
    refine qc ?_
    (repeat refine qb ?_); refine qf rfl (fun c1 => ?_) (fun c1 => ?_)
    · have e : alg = 1 := by simpa using c1
      subst e
      have e : allM 1 l = overM (a, b) := by rw [hj]; rfl
      rw [e]
      (repeat refine qb ?_); refine qa ?_
      repeat (first | refine zR ?_ | refine zK ?_ | refine zM ?_ | refine zB ?_ | refine zA ?_ | refine zS ?_ | refine zL ?_)
      refine qn rfl (qg rfl rfl rfl rfl (mkOver_h a b h1 h2) rfl rfl ?_)
      repeat (first | refine zR ?_ | refine zK ?_ | refine zM ?_ | refine zB ?_ | refine zA ?_ | refine zS ?_ | refine zL ?_)
      refine qc ?_
      (repeat refine qb ?_); refine qk ?_
      exact ⟨Or.inr rfl, _, _, [], Wk.refl _, rfl, rfl, rfl, rfl⟩
    have n1 : ¬ alg = 1 := by simpa using c1
    (repeat refine qb ?_); refine qa ?_
    repeat (first | refine zR ?_ | refine zK ?_ | refine zM ?_ | refine zB ?_ | refine zA ?_ | refine zS ?_ | refine zL ?_)
    refine qc ?_
    (repeat refine qb ?_); refine qf rfl (fun c2 => ?_) (fun c2 => ?_)
    · have e : alg = 2 := by simpa using c2
      subst e
      have e : allM 2 l = turnM (overM (b, a)) := by
        show turnM (overM (turnM (joinL l))) = _
        rw [← hj]; rfl
      rw [e]
      obtain ⟨ho1, ho2⟩ := mks_le (overM_mem (b, a))
      have HO := mkOver_h b a h2 h1
      generalize overM (b, a) = o at *
      obtain ⟨x, y⟩ := o
      (repeat refine qb ?_); refine qa ?_
      repeat (first | refine zR ?_ | refine zK ?_ | refine zM ?_ | refine zB ?_ | refine zA ?_ | refine zS ?_ | refine zL ?_)
      refine qn rfl (qg rfl rfl rfl rfl (mkTurn_h a b h1 h2) rfl rfl ?_)
      repeat (first | refine zR ?_ | refine zK ?_ | refine zM ?_ | refine zB ?_ | refine zA ?_ | refine zS ?_ | refine zL ?_)
      refine qn rfl (qg rfl rfl rfl rfl (HO) rfl rfl ?_)
      repeat (first | refine zR ?_ | refine zK ?_ | refine zM ?_ | refine zB ?_ | refine zA ?_ | refine zS ?_ | refine zL ?_)
      refine qn rfl (qg rfl rfl rfl rfl (mkTurn_h x y ho1 ho2) rfl rfl ?_)
      repeat (first | refine zR ?_ | refine zK ?_ | refine zM ?_ | refine zB ?_ | refine zA ?_ | refine zS ?_ | refine zL ?_)
      refine qc ?_
      (repeat refine qb ?_); refine qk ?_
      exact ⟨Or.inr rfl, _, _, [], Wk.refl _, rfl, rfl, rfl, rfl⟩
    have n2 : ¬ alg = 2 := by simpa using c2
    (repeat refine qb ?_); refine qa ?_
    repeat (first | refine zR ?_ | refine zK ?_ | refine zM ?_ | refine zB ?_ | refine zA ?_ | refine zS ?_ | refine zL ?_)
    refine qc ?_
    (repeat refine qb ?_); refine qf rfl (fun c3 => ?_) (fun c3 => ?_)
    · have e : alg = 3 := by simpa using c3
      subst e
      rw [show allM 3 l = wy l from rfl]
      (repeat refine qb ?_); refine qa ?_
      repeat (first | refine zR ?_ | refine zK ?_ | refine zM ?_ | refine zB ?_ | refine zA ?_ | refine zS ?_ | refine zL ?_)
      refine qn rfl (qg rfl rfl rfl rfl (first_h l hn hl) rfl rfl ?_)
      repeat (first | refine zR ?_ | refine zK ?_ | refine zM ?_ | refine zB ?_ | refine zA ?_ | refine zS ?_ | refine zL ?_)
      refine qc ?_
      (repeat refine qb ?_); refine qk ?_
      exact ⟨Or.inr rfl, _, _, [], Wk.refl _, rfl, rfl, rfl, rfl⟩
    have n3 : ¬ alg = 3 := by simpa using c3
    (repeat refine qb ?_); refine qa ?_
    repeat (first | refine zR ?_ | refine zK ?_ | refine zM ?_ | refine zB ?_ | refine zA ?_ | refine zS ?_ | refine zL ?_)
    refine qc ?_
    (repeat refine qb ?_); refine qf rfl (fun c4 => ?_) (fun c4 => ?_)
    · have e : alg = 4 := by simpa using c4
      subst e
      rw [show allM 4 l = onlyM (0, 0) l from rfl]
      (repeat refine qb ?_); refine qa ?_
      repeat (first | refine zR ?_ | refine zK ?_ | refine zM ?_ | refine zB ?_ | refine zA ?_ | refine zS ?_ | refine zL ?_)
      refine qn rfl (qg rfl rfl rfl rfl (only_h l hn hl) rfl rfl ?_)
      repeat (first | refine zR ?_ | refine zK ?_ | refine zM ?_ | refine zB ?_ | refine zA ?_ | refine zS ?_ | refine zL ?_)
      refine qc ?_
      (repeat refine qb ?_); refine qk ?_
      exact ⟨Or.inr rfl, _, _, [], Wk.refl _, rfl, rfl, rfl, rfl⟩
    have n4 : ¬ alg = 4 := by simpa using c4
    (repeat refine qb ?_); refine qa ?_
    repeat (first | refine zR ?_ | refine zK ?_ | refine zM ?_ | refine zB ?_ | refine zA ?_ | refine zS ?_ | refine zL ?_)
    refine qc ?_
    (repeat refine qb ?_); refine qf rfl (fun c5 => ?_) (fun c5 => ?_)
    · have e : alg = 5 := by simpa using c5
      subst e
      rw [show allM 5 l = zY l (0, 2) (2, 0) from rfl]
      (repeat refine qb ?_); refine qa ?_
      repeat (first | refine zR ?_ | refine zK ?_ | refine zM ?_ | refine zB ?_ | refine zA ?_ | refine zS ?_ | refine zL ?_)
      refine qn rfl (qg rfl rfl rfl rfl (unless_h l hn hl (0, 2) (2, 0) (by simp [mks])) rfl rfl ?_)
      repeat (first | refine zR ?_ | refine zK ?_ | refine zM ?_ | refine zB ?_ | refine zA ?_ | refine zS ?_ | refine zL ?_)
      refine qc ?_
      (repeat refine qb ?_); refine qk ?_
      exact ⟨Or.inr rfl, _, _, [], Wk.refl _, rfl, rfl, rfl, rfl⟩
    have n5 : ¬ alg = 5 := by simpa using c5
    (repeat refine qb ?_); refine qa ?_
    repeat (first | refine zR ?_ | refine zK ?_ | refine zM ?_ | refine zB ?_ | refine zA ?_ | refine zS ?_ | refine zL ?_)
    refine qc ?_
    (repeat refine qb ?_); refine qf rfl (fun c6 => ?_) (fun c6 => ?_)
    · have e : alg = 6 := by simpa using c6
      subst e
      rw [show allM 6 l = zY l (2, 0) (0, 2) from rfl]
      (repeat refine qb ?_); refine qa ?_
      repeat (first | refine zR ?_ | refine zK ?_ | refine zM ?_ | refine zB ?_ | refine zA ?_ | refine zS ?_ | refine zL ?_)
      refine qn rfl (qg rfl rfl rfl rfl (unless_h l hn hl (2, 0) (0, 2) (by simp [mks])) rfl rfl ?_)
      repeat (first | refine zR ?_ | refine zK ?_ | refine zM ?_ | refine zB ?_ | refine zA ?_ | refine zS ?_ | refine zL ?_)
      refine qc ?_
      (repeat refine qb ?_); refine qk ?_
      exact ⟨Or.inr rfl, _, _, [], Wk.refl _, rfl, rfl, rfl, rfl⟩
    · have n6 : ¬ alg = 6 := by simpa using c6
      have e : allM alg l = (0, 0) := by unfold allM; rw [if_neg n1, if_neg n2, if_neg n3, if_neg n4, if_neg n5, if_neg n6]
      rw [e, if_neg (by omega)]
      refine qm ?_
      (repeat refine qb ?_); refine qa ?_
      repeat (first | refine zR ?_ | refine zK ?_ | refine zM ?_ | refine zB ?_ | refine zA ?_ | refine zS ?_ | refine zL ?_)
      refine qc ?_
      (repeat refine qb ?_); refine qk ?_
      exact ⟨Or.inr rfl, _, _, [], Wk.refl _, rfl, rfl, rfl, rfl⟩
end Go.Proofs.YtppfcacnofjmdaaGreatDoor
namespace Go.Proofs.YtppfcacnofjmdaaGreatDoor
set_option linter.unusedVariables false
set_option linter.unusedSimpArgs false
open Go.RowKit
set_option maxHeartbeats 1000000
theorem beq_bytes (a b : ByteArray) : (a.toList == b.toList) = decide (a = b) := by
  rw [Bool.eq_iff_iff]
  simp only [beq_iff_eq, decide_eq_true_eq]
  exact ⟨toList_inj, fun h => by rw [h]⟩
theorem cloneV_h (l : List Val) (hn : l.length ≤ 1000000) : Holds Tryz.prog 82 [valsP l] (.row 0) [(0, .row 52 3 (l.map Val.pv))] := by
  refine qA (ts := [2]) Tryz.func82 (by kernel_rfl) rfl rfl rfl ?_
  (repeat refine qb ?_); refine qa ?_
  repeat (first | refine zR ?_ | refine zK ?_ | refine zM ?_ | refine zB ?_ | refine zA ?_ | refine zS ?_ | refine zL ?_)
  refine qc ?_
  (repeat refine qb ?_); refine qa ?_
  repeat (first | refine zR ?_ | refine zK ?_ | refine zM ?_ | refine zB ?_ | refine zA ?_ | refine zS ?_ | refine zL ?_)
  refine qn rfl (act_nilcmp qe rfl rfl rfl rfl rfl rfl (fun b hb => ?_))
  refine qc ?_
  (repeat refine qb ?_); refine qf rfl (fun hc => ?_) (fun hc => ?_)
  · have hl := hb hc
    have hl' : l = [] := by simpa using hl
    subst hl'
    (repeat refine qb ?_); refine qa ?_
    repeat (first | refine zR ?_ | refine zK ?_ | refine zM ?_ | refine zB ?_ | refine zA ?_ | refine zS ?_ | refine zL ?_)
    refine qc ?_
    (repeat refine qb ?_); refine qk ?_
    exact ⟨Or.inr rfl, _, _, [(0, 0)], jP 2 0 52 3 rfl rfl, rfl, rfl, rfl, rfl⟩
  · refine qm ?_
    (repeat refine qb ?_); refine qa ?_
    repeat (first | refine zR ?_ | refine zK ?_ | refine zM ?_ | refine zB ?_ | refine zA ?_ | refine zS ?_ | refine zL ?_)
    refine qn rfl (qp qe rfl rfl rfl rfl rfl rfl rfl rfl rfl rfl rfl rfl rfl rfl rfl rfl (by simp [reachBytes]; omega) (by simp; omega) ?_)
    repeat (first | refine zR ?_ | refine zK ?_ | refine zM ?_ | refine zB ?_ | refine zA ?_ | refine zS ?_ | refine zL ?_)
    refine qc ?_
    (repeat refine qb ?_); refine qk ?_
    exact ⟨Or.inr rfl, _, _, [(7, 0)], Wk.refl _, rfl, rfl, rfl, rfl⟩
theorem place1_h (cat : Int) (name : ByteArray) (g : Giv) : Holds Tryz.prog 102 [.agg g.pv, .rp [pI cat], .rp [pS name]] (.p (pB (isG cat name g))) [] := by
  refine qA (ts := [4]) Tryz.func102 (by kernel_rfl) rfl rfl rfl ?_
  (repeat refine qb ?_); refine qa ?_
  repeat (first | refine zR ?_ | refine zK ?_ | refine zM ?_ | refine zB ?_ | refine zA ?_ | refine zS ?_ | refine zL ?_)
  refine qc ?_
  (repeat refine qb ?_); refine qs (by kernel_rfl) ?_
  repeat (refine qr qe rfl (by exact True.intro) rfl ?_)
  refine qQ ?_
  (repeat refine qb ?_); refine qk ?_
  refine wS rfl ?_
  unfold isG
  rw [beq_bytes]
  cases h : decide (g.cat = cat) <;> simp_all
theorem index_h (l : List Giv) (hn : l.length ≤ 1000000) (f : FuncId) (caps : List PV) (p : Giv → Bool) (hF : ∀ g, Holds Tryz.prog f ([.agg g.pv] ++ caps) (.p (pB (p g))) []) :
    Holds Tryz.prog 101 [zP l, .fn f caps] (.p (pI (if l.findIdx p < l.length then (l.findIdx p : Int) else -1))) [] := by
  refine qA (ts := [4]) Tryz.func101 (by kernel_rfl) rfl rfl rfl ?_
  (repeat refine qb ?_); refine qa ?_
  repeat (first | refine zR ?_ | refine zK ?_ | refine zM ?_ | refine zB ?_ | refine zA ?_ | refine zS ?_ | refine zL ?_)
  refine qc ?_
  (repeat refine qb ?_); refine qa ?_
  repeat (first | refine zR ?_ | refine zK ?_ | refine zM ?_ | refine zB ?_ | refine zA ?_ | refine zS ?_ | refine zL ?_)
  refine qc ?_
  (repeat refine qb ?_); refine ql ?_
  refine SW.wk (qq [0, 1, 7, 8] [] rfl rfl) ?_
  refine qO (fun n s => ∃ (k : Nat) (kk : Int), k ≤ l.length ∧ n = l.length - k ∧ kk = k ∧ (∀ g ∈ l.take k, p g = false) ∧ s = ⟨19, [(0, .p (zP l)), (1, .p (.fn f caps)), (7, .p (pI (l.map Giv.pv).length)), (8, .p (pI kk))], []⟩) l.length ⟨0, 0, Nat.zero_le _, rfl, rfl, by simp, rfl⟩ ?_
  rintro n s ⟨k, _, hk, rfl, rfl, ha, rfl⟩
  (repeat refine qb ?_); refine qa ?_
  repeat (first | refine zR ?_ | refine zK ?_ | refine zM ?_ | refine zB ?_ | refine zA ?_ | refine zS ?_ | refine zL ?_)
  refine qc ?_
  (repeat refine qb ?_); refine qf rfl (fun hlt => ?_) (fun hlt => ?_)
  · refine qm ?_
    simp only [List.length_map, decide_eq_true_eq] at hlt
    have hlt' : k < l.length := by omega
    (repeat refine qb ?_); refine ql ?_
    (repeat refine qb ?_); refine qa ?_
    repeat (first | refine zR ?_ | refine zK ?_ | refine zM ?_ | refine zB ?_ | refine zA ?_ | refine zS ?_ | refine zL ?_)
    refine qc ?_
    (repeat refine qb ?_); refine qa ?_
    repeat (first | refine zR ?_ | refine zK ?_ | refine zM ?_ | refine zB ?_ | refine zA ?_ | refine zS ?_ | refine zL ?_)
    refine qw qe rfl rfl (by simp only [List.length_map]; omega) rfl ?_
    rw [qJ hlt']
    repeat (first | refine zR ?_ | refine zK ?_ | refine zM ?_ | refine zB ?_ | refine zA ?_ | refine zS ?_ | refine zL ?_)
    refine qn rfl (qg rfl rfl rfl rfl (hF l[k]) rfl rfl ?_)
    repeat (first | refine zR ?_ | refine zK ?_ | refine zM ?_ | refine zB ?_ | refine zA ?_ | refine zS ?_ | refine zL ?_)
    refine qc ?_
    (repeat refine qb ?_); refine qf rfl (fun hp => ?_) (fun hp => ?_)
    · (repeat refine qb ?_); refine qa ?_
      repeat (first | refine zR ?_ | refine zK ?_ | refine zM ?_ | refine zB ?_ | refine zA ?_ | refine zS ?_ | refine zL ?_)
      refine qc ?_
      (repeat refine qb ?_); refine qk ?_
      refine zg rfl ?_
      have e : l.findIdx p = k := (List.findIdx_eq hlt').2 ⟨hp, fun j hj => ha _ (List.mem_take_iff_getElem.2 ⟨j, by omega, rfl⟩)⟩
      rw [e, if_pos hlt']
    · refine qm ?_
      (repeat refine qb ?_); refine qa ?_
      repeat (first | refine zR ?_ | refine zK ?_ | refine zM ?_ | refine zB ?_ | refine zA ?_ | refine zS ?_ | refine zL ?_)
      refine qc ?_
      refine ⟨_, _, ?_, qq [0, 1, 7, 8] [] rfl rfl, k + 1, _, hlt', rfl, qz hlt' (by omega), ?_, rfl⟩
      · omega
      · intro g hg
        rw [List.take_succ_eq_append_getElem hlt', List.mem_append, List.mem_singleton] at hg
        rcases hg with hg | rfl
        · exact ha g hg
        · exact hp
  · refine qK ?_
    simp only [List.length_map, decide_eq_false_iff_not] at hlt
    have hkk : k = l.length := by omega
    subst hkk
    (repeat refine qb ?_); refine qa ?_
    repeat (first | refine zR ?_ | refine zK ?_ | refine zM ?_ | refine zB ?_ | refine zA ?_ | refine zS ?_ | refine zL ?_)
    refine qc ?_
    (repeat refine qb ?_); refine qk ?_
    refine zg rfl ?_
    rw [List.take_length] at ha
    rw [if_neg]
    have := List.findIdx_eq_length_of_false ha
    omega
theorem place_h (cat : Int) (name : ByteArray) (l : List Giv) (hn : l.length ≤ 1000000) : Holds Tryz.prog 81 [zP l, pI cat, pS name] (.p (pI (placeS cat name l))) [] := by
  refine qA (ts := [6]) Tryz.func81 (by kernel_rfl) rfl rfl rfl ?_
  (repeat refine qb ?_); refine qa ?_
  repeat (first | refine zR ?_ | refine zK ?_ | refine zM ?_ | refine zB ?_ | refine zA ?_ | refine zS ?_ | refine zL ?_)
  refine qc ?_
  (repeat refine qb ?_); refine qa ?_
  repeat (first | refine zR ?_ | refine zK ?_ | refine zM ?_ | refine zB ?_ | refine zA ?_ | refine zS ?_ | refine zL ?_)
  refine qn rfl (qg rfl rfl rfl rfl (index_h l hn _ _ (isG cat name) (fun g => place1_h cat name g)) rfl rfl ?_)
  repeat (first | refine zR ?_ | refine zK ?_ | refine zM ?_ | refine zB ?_ | refine zA ?_ | refine zS ?_ | refine zL ?_)
  refine qc ?_
  (repeat refine qb ?_); refine qk ?_
  exact zg rfl rfl
theorem get_h (a : Atr) (l : List Giv) (hn : l.length ≤ 1000000) (hb : ∀ g ∈ l, g.bag.length ≤ 1000000) : Holds Tryz.prog 62 [zP l, .agg a.pv] (.tup [.p (valsP (getS a l).1), .p (pI (getS a l).2)]) [] := by
  refine qA (ts := [4,5]) Tryz.func62 (by kernel_rfl) rfl rfl rfl ?_
  (repeat refine qb ?_); refine qa ?_
  repeat (first | refine zR ?_ | refine zK ?_ | refine zM ?_ | refine zB ?_ | refine zA ?_ | refine zS ?_ | refine zL ?_)
  refine qc ?_
  (repeat refine qb ?_); refine qa ?_
  repeat (first | refine zR ?_ | refine zK ?_ | refine zM ?_ | refine zB ?_ | refine zA ?_ | refine zS ?_ | refine zL ?_)
  refine qc ?_
  (repeat refine qb ?_); refine qa ?_
  repeat (first | refine zR ?_ | refine zK ?_ | refine zM ?_ | refine zB ?_ | refine zA ?_ | refine zS ?_ | refine zL ?_)
  refine qn rfl (qg rfl rfl rfl rfl (place_h a.cat a.name l hn) rfl rfl ?_)
  repeat (first | refine zR ?_ | refine zK ?_ | refine zM ?_ | refine zB ?_ | refine zA ?_ | refine zS ?_ | refine zL ?_)
  refine qc ?_
  rcases place_cases a.cat a.name l with ⟨hp, hbag, _⟩ | ⟨k, hk, hp, hbag, _, _⟩
  · rw [hp]
    (repeat refine qb ?_); refine qa ?_
    repeat (first | refine zR ?_ | refine zK ?_ | refine zM ?_ | refine zB ?_ | refine zA ?_ | refine zS ?_ | refine zL ?_)
    refine qc ?_
    (repeat refine qb ?_); refine qf rfl (fun hc => ?_) (fun hc => ?_)
    · simp at hc
    · refine qm ?_
      (repeat refine qb ?_); refine qa ?_
      repeat (first | refine zR ?_ | refine zK ?_ | refine zM ?_ | refine zB ?_ | refine zA ?_ | refine zS ?_ | refine zL ?_)
      refine qc ?_
      (repeat refine qb ?_); refine qf rfl (fun hm => ?_) (fun hm => ?_)
      · replace hm : a.must = true := hm
        have e : getS a l = ([], 4) := by simp [getS, hbag, hm]
        rw [e]
        (repeat refine qb ?_); refine qa ?_
        repeat (first | refine zR ?_ | refine zK ?_ | refine zM ?_ | refine zB ?_ | refine zA ?_ | refine zS ?_ | refine zL ?_)
        refine qc ?_
        (repeat refine qb ?_); refine qk ?_
        exact ⟨Or.inr rfl, _, _, [], wk_nilp 4 900 52 3 rfl rfl, rfl, rfl, rfl, rfl⟩
      · replace hm : a.must = false := hm
        have e : getS a l = ([], 0) := by simp [getS, hbag, hm]
        rw [e]
        refine qm ?_
        (repeat refine qb ?_); refine qa ?_
        repeat (first | refine zR ?_ | refine zK ?_ | refine zM ?_ | refine zB ?_ | refine zA ?_ | refine zS ?_ | refine zL ?_)
        refine qc ?_
        (repeat refine qb ?_); refine qk ?_
        exact ⟨Or.inr rfl, _, _, [], wk_nilp 4 900 52 3 rfl rfl, rfl, rfl, rfl, rfl⟩
  · rw [hp]
    (repeat refine qb ?_); refine qa ?_
    repeat (first | refine zR ?_ | refine zK ?_ | refine zM ?_ | refine zB ?_ | refine zA ?_ | refine zS ?_ | refine zL ?_)
    refine qc ?_
    (repeat refine qb ?_); refine qf rfl (fun hc => ?_) (fun hc => ?_)
    · (repeat refine qb ?_); refine qa ?_
      repeat (first | refine zR ?_ | refine zK ?_ | refine zM ?_ | refine zB ?_ | refine zA ?_ | refine zS ?_ | refine zL ?_)
      refine qw qe rfl rfl (by simp only [List.length_map]; omega) rfl ?_
      rw [qJ hk]
      repeat (first | refine zR ?_ | refine zK ?_ | refine zM ?_ | refine zB ?_ | refine zA ?_ | refine zS ?_ | refine zL ?_)
      refine qn rfl (qD rfl rfl rfl rfl ((cloneV_h l[k].bag (hb _ (List.getElem_mem hk))).row_sl) rfl rfl rfl ?_)
      repeat (first | refine zR ?_ | refine zK ?_ | refine zM ?_ | refine zB ?_ | refine zA ?_ | refine zS ?_ | refine zL ?_)
      refine qc ?_
      generalize l[k].bag = b at *
      cases b with
      | nil =>
        (repeat refine qb ?_); refine qa ?_
        repeat (first | refine zR ?_ | refine zK ?_ | refine zM ?_ | refine zB ?_ | refine zA ?_ | refine zS ?_ | refine zL ?_)
        refine qc ?_
        (repeat refine qb ?_); refine qf rfl (fun hm => ?_) (fun hm => ?_)
        · replace hm : a.must = true := hm
          have e : getS a l = ([], 4) := by simp [getS, hbag, hm]
          rw [e]
          (repeat refine qb ?_); refine qa ?_
          repeat (first | refine zR ?_ | refine zK ?_ | refine zM ?_ | refine zB ?_ | refine zA ?_ | refine zS ?_ | refine zL ?_)
          refine qc ?_
          (repeat refine qb ?_); refine qk ?_
          exact ⟨Or.inr rfl, _, _, [], wk_nilp 4 900 52 3 rfl rfl, rfl, rfl, rfl, rfl⟩
        · replace hm : a.must = false := hm
          have e : getS a l = ([], 0) := by simp [getS, hbag, hm]
          rw [e]
          refine qm ?_
          (repeat refine qb ?_); refine qa ?_
          repeat (first | refine zR ?_ | refine zK ?_ | refine zM ?_ | refine zB ?_ | refine zA ?_ | refine zS ?_ | refine zL ?_)
          refine qc ?_
          (repeat refine qb ?_); refine qk ?_
          exact ⟨Or.inr rfl, _, _, [], Wk.refl _, rfl, rfl, rfl, rfl⟩
      | cons v r =>
        have e : getS a l = (v :: r, 0) := by simp [getS, hbag]
        rw [e]
        (repeat refine qb ?_); refine qa ?_
        repeat (first | refine zR ?_ | refine zK ?_ | refine zM ?_ | refine zB ?_ | refine zA ?_ | refine zS ?_ | refine zL ?_)
        rw [show ((((v :: r).map Val.pv).length : Int) == 0) = false by simp; omega]
        repeat (first | refine zR ?_ | refine zK ?_ | refine zM ?_ | refine zB ?_ | refine zA ?_ | refine zS ?_ | refine zL ?_)
        refine qc ?_
        (repeat refine qb ?_); refine qf rfl (fun hm => ?_) (fun hm => ?_)
        · cases hm
        · refine qm ?_
          (repeat refine qb ?_); refine qa ?_
          repeat (first | refine zR ?_ | refine zK ?_ | refine zM ?_ | refine zB ?_ | refine zA ?_ | refine zS ?_ | refine zL ?_)
          refine qc ?_
          (repeat refine qb ?_); refine qk ?_
          exact ⟨Or.inr rfl, _, _, [], Wk.refl _, rfl, rfl, rfl, rfl⟩
    · exfalso
      simp at hc
end Go.Proofs.YtppfcacnofjmdaaGreatDoor
namespace Go.Proofs.YtppfcacnofjmdaaGreatDoor
set_option linter.unusedVariables false
set_option linter.unusedSimpArgs false
open Go.RowKit
set_option maxHeartbeats 4000000
theorem texts_h (k : Int) : Holds Tryz.prog 104 [pI k] (.p (pB (textsS k))) [] := by
  refine qA (ts := [2]) Tryz.func104 (by kernel_rfl) rfl rfl rfl ?_
  (repeat refine qb ?_); refine qa ?_
  repeat (first | refine zR ?_ | refine zK ?_ | refine zM ?_ | refine zB ?_ | refine zA ?_ | refine zS ?_ | refine zL ?_)
  refine qc ?_
  (repeat refine qb ?_); refine qs (by kernel_rfl) ?_
  repeat (refine qr qe rfl (by exact True.intro) rfl ?_)
  refine qQ ?_
  (repeat refine qb ?_); refine qk ?_
  refine wS rfl ?_
  unfold textsS
  rw [Bool.eq_iff_iff]
  simp
theorem less_h (a b : Val) (ha : a.s.size ≤ reachBytes) (hb : b.s.size ≤ reachBytes) : Holds Tryz.prog 83 [.agg a.pv, .agg b.pv] (.tup [.p (pB (wN a b).1), .p (pI (wN a b).2)]) [] := by
  unfold wN
  cases hra : a.right with
  | false =>
    refine qA (ts := [4,5]) Tryz.func83 (by kernel_rfl) rfl rfl rfl ?_
    (repeat refine qb ?_); refine qa ?_
    repeat (first | refine zR ?_ | refine zK ?_ | refine zM ?_ | refine zB ?_ | refine zA ?_ | refine zS ?_ | refine zL ?_)
    refine qc ?_
    (repeat refine qb ?_); refine ql ?_
    (repeat refine qb ?_); refine qa ?_
    repeat (first | refine zR ?_ | refine zK ?_ | refine zM ?_ | refine zB ?_ | refine zA ?_ | refine zS ?_ | refine zL ?_)
    refine qn rfl (qg rfl rfl rfl rfl (qad a ha) rfl rfl ?_)
    repeat (first | refine zR ?_ | refine zK ?_ | refine zM ?_ | refine zB ?_ | refine zA ?_ | refine zS ?_ | refine zL ?_)
    rw [hra]
    repeat (first | refine zR ?_ | refine zK ?_ | refine zM ?_ | refine zB ?_ | refine zA ?_ | refine zS ?_ | refine zL ?_)
    refine qc ?_
    (repeat refine qb ?_); refine qf rfl (fun hc => ?_) (fun hc => ?_)
    · (repeat refine qb ?_); refine qa ?_
      repeat (first | refine zR ?_ | refine zK ?_ | refine zM ?_ | refine zB ?_ | refine zA ?_ | refine zS ?_ | refine zL ?_)
      refine qc ?_
      (repeat refine qb ?_); refine qk ?_
      exact ⟨Or.inr rfl, _, _, [], Wk.refl _, rfl, rfl, rfl, rfl⟩
    · cases hc
  | true =>
    cases hrb : b.right with
    | false =>
      refine qA (ts := [4,5]) Tryz.func83 (by kernel_rfl) rfl rfl rfl ?_
      (repeat refine qb ?_); refine qa ?_
      repeat (first | refine zR ?_ | refine zK ?_ | refine zM ?_ | refine zB ?_ | refine zA ?_ | refine zS ?_ | refine zL ?_)
      refine qc ?_
      (repeat refine qb ?_); refine ql ?_
      (repeat refine qb ?_); refine qa ?_
      repeat (first | refine zR ?_ | refine zK ?_ | refine zM ?_ | refine zB ?_ | refine zA ?_ | refine zS ?_ | refine zL ?_)
      refine qn rfl (qg rfl rfl rfl rfl (qad a ha) rfl rfl ?_)
      repeat (first | refine zR ?_ | refine zK ?_ | refine zM ?_ | refine zB ?_ | refine zA ?_ | refine zS ?_ | refine zL ?_)
      rw [hra]
      repeat (first | refine zR ?_ | refine zK ?_ | refine zM ?_ | refine zB ?_ | refine zA ?_ | refine zS ?_ | refine zL ?_)
      refine qn rfl (qg rfl rfl rfl rfl (qad b hb) rfl rfl ?_)
      repeat (first | refine zR ?_ | refine zK ?_ | refine zM ?_ | refine zB ?_ | refine zA ?_ | refine zS ?_ | refine zL ?_)
      rw [hrb]
      repeat (first | refine zR ?_ | refine zK ?_ | refine zM ?_ | refine zB ?_ | refine zA ?_ | refine zS ?_ | refine zL ?_)
      refine qc ?_
      (repeat refine qb ?_); refine qf rfl (fun hc => ?_) (fun hc => ?_)
      · (repeat refine qb ?_); refine qa ?_
        repeat (first | refine zR ?_ | refine zK ?_ | refine zM ?_ | refine zB ?_ | refine zA ?_ | refine zS ?_ | refine zL ?_)
        refine qc ?_
        (repeat refine qb ?_); refine qk ?_
        exact ⟨Or.inr rfl, _, _, [], Wk.refl _, rfl, rfl, rfl, rfl⟩
      · cases hc
    | true =>
      refine qA (ts := [4,5]) Tryz.func83 (by kernel_rfl) rfl rfl rfl ?_
      (repeat refine qb ?_); refine qa ?_
      repeat (first | refine zR ?_ | refine zK ?_ | refine zM ?_ | refine zB ?_ | refine zA ?_ | refine zS ?_ | refine zL ?_)
      refine qc ?_
      (repeat refine qb ?_); refine ql ?_
      (repeat refine qb ?_); refine qa ?_
      repeat (first | refine zR ?_ | refine zK ?_ | refine zM ?_ | refine zB ?_ | refine zA ?_ | refine zS ?_ | refine zL ?_)
      refine qn rfl (qg rfl rfl rfl rfl (qad a ha) rfl rfl ?_)
      repeat (first | refine zR ?_ | refine zK ?_ | refine zM ?_ | refine zB ?_ | refine zA ?_ | refine zS ?_ | refine zL ?_)
      rw [hra]
      repeat (first | refine zR ?_ | refine zK ?_ | refine zM ?_ | refine zB ?_ | refine zA ?_ | refine zS ?_ | refine zL ?_)
      refine qn rfl (qg rfl rfl rfl rfl (qad b hb) rfl rfl ?_)
      repeat (first | refine zR ?_ | refine zK ?_ | refine zM ?_ | refine zB ?_ | refine zA ?_ | refine zS ?_ | refine zL ?_)
      rw [hrb]
      repeat (first | refine zR ?_ | refine zK ?_ | refine zM ?_ | refine zB ?_ | refine zA ?_ | refine zS ?_ | refine zL ?_)
      refine qc ?_
      (repeat refine qb ?_); refine qf rfl (fun hc => ?_) (fun hc => ?_)
      · cases hc
      simp only [Bool.not_true, Bool.or_self, Bool.false_eq_true, if_false]
      (repeat refine qb ?_); refine qs (by kernel_rfl) ?_
      repeat (refine qr qe rfl (by exact True.intro) rfl ?_)
      refine qQ ?_
      (repeat refine qb ?_); refine qf rfl (fun hk => ?_) (fun hk => ?_)
      · rw [if_pos (by revert hk; by_cases h : a.kind = b.kind <;> simp [h])]
        (repeat refine qb ?_); refine qa ?_
        repeat (first | refine zR ?_ | refine zK ?_ | refine zM ?_ | refine zB ?_ | refine zA ?_ | refine zS ?_ | refine zL ?_)
        refine qc ?_
        (repeat refine qb ?_); refine qk ?_
        exact ⟨Or.inr rfl, _, _, [], Wk.refl _, rfl, rfl, rfl, rfl⟩
      · rw [if_neg (by revert hk; by_cases h : a.kind = b.kind <;> simp [h])]
        (repeat refine qb ?_); refine qa ?_
        repeat (first | refine zR ?_ | refine zK ?_ | refine zM ?_ | refine zB ?_ | refine zA ?_ | refine zS ?_ | refine zL ?_)
        refine qn rfl (qg rfl rfl rfl rfl (texts_h a.kind) rfl rfl ?_)
        repeat (first | refine zR ?_ | refine zK ?_ | refine zM ?_ | refine zB ?_ | refine zA ?_ | refine zS ?_ | refine zL ?_)
        refine qc ?_
        (repeat refine qb ?_); refine qf rfl (fun ht => ?_) (fun ht => ?_)
        · rw [if_pos ht]
          (repeat refine qb ?_); refine qa ?_
          repeat (first | refine zR ?_ | refine zK ?_ | refine zM ?_ | refine zB ?_ | refine zA ?_ | refine zS ?_ | refine zL ?_)
          refine qc ?_
          (repeat refine qb ?_); refine qk ?_
          exact ⟨Or.inr rfl, _, _, [], Wk.refl _, rfl, rfl, rfl, rfl⟩
        · rw [if_neg (by rw [ht]; simp)]
          refine qm ?_
          (repeat refine qb ?_); refine qa ?_
          repeat (first | refine zR ?_ | refine zK ?_ | refine zM ?_ | refine zB ?_ | refine zA ?_ | refine zS ?_ | refine zL ?_)
          refine qc ?_
          (repeat refine qb ?_); refine qk ?_
          exact ⟨Or.inr rfl, _, _, [], Wk.refl _, rfl, rfl, rfl, rfl⟩
end Go.Proofs.YtppfcacnofjmdaaGreatDoor
namespace Go.Proofs.YtppfcacnofjmdaaGreatDoor
open Go.RowKit
set_option linter.unusedSimpArgs false
set_option linter.unusedVariables false
attribute [local go_sem] ext_cell wi
attribute [local go_sem low] we jp
theorem add_any (a b : Int) (w : World) (ha : R64 a) (hb : R64 b) :
    Calls Tryz.prog 119 #[.int .i64 a, .int .i64 b] w fun e w' => e = .returned (.tuple #[.int .i64 (addS a b).1, .int .i64 (addS a b).2]) ∧ w = w' := by
  obtain ⟨ha, ha'⟩ := ha
  obtain ⟨hb, hb'⟩ := hb
  go_enter Tryz.func119, Tryz.ntmps119
  go_wp2
  all_goals
    go_ret2
    refine ⟨ret_ii ?_, rfl⟩
    go_light
    unfold addS inI
    first | rw [if_pos (by simp; omega)] | rw [if_neg (by simp; omega)]
theorem sub_any (a b : Int) (w : World) (ha : R64 a) (hb : R64 b) :
    Calls Tryz.prog 120 #[.int .i64 a, .int .i64 b] w fun e w' => e = .returned (.tuple #[.int .i64 (subS a b).1, .int .i64 (subS a b).2]) ∧ w = w' := by
  obtain ⟨ha, ha'⟩ := ha
  obtain ⟨hb, hb'⟩ := hb
  go_enter Tryz.func120, Tryz.ntmps120
  go_wp2
  all_goals
    go_ret2
    refine ⟨ret_ii ?_, rfl⟩
    go_light
    unfold subS inI
    first | rw [if_pos (by simp; omega)] | rw [if_neg (by simp; omega)]
theorem mul_any (a b : Int) (w : World) (ha : R64 a) (hb : R64 b) :
    Calls Tryz.prog 121 #[.int .i64 a, .int .i64 b] w fun e w' => e = .returned (.tuple #[.int .i64 (mulS a b).1, .int .i64 (mulS a b).2]) ∧ w = w' := by
  obtain ⟨ha, ha'⟩ := ha
  obtain ⟨hb, hb'⟩ := hb
  by_cases h0 : a = 0
  · subst h0
    go_enter Tryz.func121, Tryz.ntmps121
    go_wp2
    all_goals
      go_ret2
      refine ⟨ret_ii ?_, rfl⟩
      simp [mulS, inI]
  · have H := hide (mul_over ha ha' hb hb' h0)
    go_enter Tryz.func121, Tryz.ntmps121
    go_upto_region 2 with (fail)
    refine wp_spec (by kernel_rfl) ?_
    repeat (refine qH ?_; intro K hK; go_big_quiet_op; go_big_quiet_on)
    refine zx ?_
    intro us
    simp only [junk, Act.put, List.setIfInBounds_toArray, List.set_cons_zero, List.set_cons_succ]
    go_wp2
    · go_ret2
      refine ⟨ret_ii ?_, rfl⟩
      go_light
      unfold mulS
      rw [H.out.1 (by simp_all)]
      rfl
    · go_ret2
      refine ⟨ret_ii ?_, rfl⟩
      go_light
      have hin : inI (a * b) = true := by
        cases hc : inI (a * b) with
        | true => rfl
        | false =>
          exfalso
          have := H.out.2 hc
          simp_all
          first | omega | (rcases this with h | h <;> simp_all)
      unfold mulS
      rw [hin]
      simp only [inI, Bool.and_eq_true, decide_eq_true_eq] at hin
      have : wrap64 (a * b) = a * b := by unfold wrap64; omega
      rw [this]; rfl
theorem truth_any (b : Bool) (w : World) :
    Calls Tryz.prog 117 #[.bool b] w fun e w' => e = .returned (.agg #[.int .i64 1, .int .i64 (bitI b), .string ⟨#[]⟩]) ∧ Below w.heap.size w w' := by
  cases b
  · go_enter Tryz.func117, Tryz.ntmps117
    go_wp2
    refine bodyPost_ret (v := .agg #[.int .i64 1, .int .i64 0, .string ⟨#[]⟩]) (by simp [results, Tryz.results117, go_sem, ↓IntWalk.iteOmega]) rfl ?_
    exact ⟨rfl, (by repeat (first | exact Below.refl _ _ | assumption | refine Below.alloc1 ?_ _ | refine Below.drew ?_ | refine qt ?_ | refine Below.setCell ?_ (by first | exact Nat.le_refl _ | (simp; done) | omega | (simp; omega)) _ | refine Below.lift ?_ (by assumption)))⟩
  · go_enter Tryz.func117, Tryz.ntmps117
    go_wp2
    refine bodyPost_ret (v := .agg #[.int .i64 1, .int .i64 1, .string ⟨#[]⟩]) (by simp [results, Tryz.results117, go_sem, ↓IntWalk.iteOmega]) rfl ?_
    exact ⟨rfl, (by repeat (first | exact Below.refl _ _ | assumption | refine Below.alloc1 ?_ _ | refine Below.drew ?_ | refine qt ?_ | refine Below.setCell ?_ (by first | exact Nat.le_refl _ | (simp; done) | omega | (simp; omega)) _ | refine Below.lift ?_ (by assumption)))⟩
theorem all_any (kind : Int) (l : List Val) (A : Option Addr) (c : Nat) (w : World) (hn : l.length ≤ reachBytes) (h : SlAt rVal 3 w A l) :
    Calls Tryz.prog 122 #[.int .i64 kind, .slice A l.length c] w fun e w' => e = .returned (.bool (allS kind l)) ∧ Below w.heap.size w w' := by
  unfold reachBytes at hn
  go_enter Tryz.func122, Tryz.ntmps122
  go_wp2
  go_loopw [6, 9] (fun _ i wr => ∃ k : Nat, k ≤ l.length ∧ i = .int .i64 k ∧ Below w.heap.size w wr ∧ Hid (allS kind (l.take k) = true)) (fun _ i _ => l.length - (intOf i).toNat)
  case atStart => exact ⟨0, Nat.zero_le _, rfl, Below.refl _ _, rfl⟩
  case round =>
    obtain ⟨k, hk, rfl, hB, hall⟩ := hrel
    by_cases hlt : k < l.length
    · obtain ⟨b, o, rfl, hb, c0, c1, c2, hf⟩ := (h.keep qS hB).val hlt
      have H := hide h
      clear h
      go_wp2
      · go_ret
        refine ⟨wc (all_no hlt ?_).symm, (by repeat (first | exact Below.refl _ _ | assumption | refine Below.alloc1 ?_ _ | refine Below.drew ?_ | refine qt ?_ | refine Below.setCell ?_ (by first | exact Nat.le_refl _ | (simp; done) | omega | (simp; omega)) _ | refine Below.lift ?_ (by assumption)))⟩
        go_light
        simp_all
      · go_roundw
        case rel =>
          refine ⟨k + 1, by omega, by go_num, (by repeat (first | exact Below.refl _ _ | assumption | refine Below.alloc1 ?_ _ | refine Below.drew ?_ | refine qt ?_ | refine Below.setCell ?_ (by first | exact Nat.le_refl _ | (simp; done) | omega | (simp; omega)) _ | refine Below.lift ?_ (by assumption))), all_step hlt hall.out ?_⟩
          go_light
          simp_all
        case measure => simp [intOf]; omega
    · obtain rfl : k = l.length := by omega
      have e := hall.out
      rw [take_all] at e
      have E := hide e
      clear e hall
      go_wp2
      go_ret
      exact ⟨wc E.out.symm, (by repeat (first | exact Below.refl _ _ | assumption | refine Below.alloc1 ?_ _ | refine Below.drew ?_ | refine qt ?_ | refine Below.setCell ?_ (by first | exact Nat.le_refl _ | (simp; done) | omega | (simp; omega)) _ | refine Below.lift ?_ (by assumption)))⟩
theorem wY (op : Int) (l : List Val) (A : Option Addr) (c : Nat) (w : World) (hn : l.length ≤ reachBytes) (h : SlAt rVal 3 w A l) :
    Calls Tryz.prog 116 #[.int .i64 op, .slice A l.length c] w fun e w' => e = .returned (.bool (mayS op l)) ∧ Below w.heap.size w w' := by
  unfold reachBytes at hn
  have H := hide h
  clear h
  rcases Bool.eq_false_or_eq_true (op == 11) with h11 | h11
  all_goals
    have g : mayS op l = (decide (6 ≤ op) && decide (op ≤ 13) && decide ((l.length : Int) = if op == 11 then 1 else 2) && l.all Val.right) := by unfold mayS; simp
    rw [h11] at g
    replace g := hide g
    go_enter Tryz.func116, Tryz.ntmps116
    go_upto_region 4 with (fail)
    refine wp_spec (by kernel_rfl) ?_
    repeat (refine qH ?_; intro K hK; go_big_quiet_op; go_big_quiet_on)
    refine zx ?_
    intro us
    simp only [junk, Act.put, List.setIfInBounds_toArray, List.set_cons_zero, List.set_cons_succ]
    go_upto_region 6 with (fail)
    · go_ret
      refine ⟨wc ?_, (by repeat (first | exact Below.refl _ _ | assumption | refine Below.alloc1 ?_ _ | refine Below.drew ?_ | refine qt ?_ | refine Below.setCell ?_ (by first | exact Nat.le_refl _ | (simp; done) | omega | (simp; omega)) _ | refine Below.lift ?_ (by assumption)))⟩
      rw [g.out]
      go_light
      simp_all
      try omega
    · have hl := g.out
      have hl2 : mayS op l = l.all Val.right := by
        rw [hl]
        clear hl
        go_light
        simp_all
      have G := hide hl2
      rename _ ∧ _ => ht
      replace ht := hide ht
      clear hl hl2 g
      go_wp2
      go_loopw [7, 24] (fun _ i wr => ∃ k : Nat, k ≤ l.length ∧ i = .int .i64 k ∧ Below w.heap.size w wr ∧ Hid ((l.take k).all Val.right = true)) (fun _ i _ => l.length - (intOf i).toNat)
      case atStart => exact ⟨0, Nat.zero_le _, rfl, (by repeat (first | exact Below.refl _ _ | assumption | refine Below.alloc1 ?_ _ | refine Below.drew ?_ | refine qt ?_ | refine Below.setCell ?_ (by first | exact Nat.le_refl _ | (simp; done) | omega | (simp; omega)) _ | refine Below.lift ?_ (by assumption))), rfl⟩
      case round =>
        obtain ⟨k, hk, rfl, hB, hall⟩ := hrel
        by_cases hlt : k < l.length
        · obtain ⟨b, o, rfl, hb, c0, c1, c2, hf⟩ := (H.out.keep qS hB).val hlt
          go_wp2_with (go_at_call 103; refine (right_any _ _ _ _ hf.s).mono ?_; rintro e w2 ⟨rfl, hB2⟩)
          · go_ret
            refine ⟨wc ?_, (by repeat (first | exact Below.refl _ _ | assumption | refine Below.alloc1 ?_ _ | refine Below.drew ?_ | refine qt ?_ | refine Below.setCell ?_ (by first | exact Nat.le_refl _ | (simp; done) | omega | (simp; omega)) _ | refine Below.lift ?_ (by assumption)))⟩
            rw [G.out]
            refine (all_no hlt ?_).symm
            go_light
            simp_all
          · go_roundw
            case rel =>
              refine ⟨k + 1, by omega, by go_num, (by repeat (first | exact Below.refl _ _ | assumption | refine Below.alloc1 ?_ _ | refine Below.drew ?_ | refine qt ?_ | refine Below.setCell ?_ (by first | exact Nat.le_refl _ | (simp; done) | omega | (simp; omega)) _ | refine Below.lift ?_ (by assumption))), all_step hlt hall.out ?_⟩
              go_light
              simp_all
            case measure => simp [intOf]; omega
        · obtain rfl : k = l.length := by omega
          have e := hall.out
          rw [take_all] at e
          have E := hide e
          clear e hall
          go_wp2
          go_ret
          exact ⟨wc (by rw [G.out, E.out]), (by repeat (first | exact Below.refl _ _ | assumption | refine Below.alloc1 ?_ _ | refine Below.drew ?_ | refine qt ?_ | refine Below.setCell ?_ (by first | exact Nat.le_refl _ | (simp; done) | omega | (simp; omega)) _ | refine Below.lift ?_ (by assumption)))⟩
theorem number_any (f : FuncId) (hcf : ∀ args w, (callFunc f args).run Tryz.prog w = .ok (.enter f args) w) (F : Int → Int → Int × Int) (hF : ∀ a b w, R64 a → R64 b → Calls Tryz.prog f #[.int .i64 a, .int .i64 b] w fun e w' => e = .returned (.tuple #[.int .i64 (F a b).1, .int .i64 (F a b).2]) ∧ w = w')
    (x y : Val) (A : Option Addr) (c : Nat) (w : World) (h : SlAt rVal 3 w A [x, y]) :
    Calls Tryz.prog 118 #[.func (.func f) #[] #[], .slice A 2 c] w fun e w' => e = .returned (.tuple #[.agg #[.int .i64 ((qM F x y).1).kind, .int .i64 ((qM F x y).1).n, .string ((qM F x y).1).s], .int .i64 (qM F x y).2]) ∧ Below w.heap.size w w' := by
  have H := hide h
  have HF := hide hF
  obtain ⟨b, o, rfl, hb, ⟨c0, c1, c2⟩, ⟨d0, d1, d2⟩, hx, hy⟩ := h.pair
  clear hF h
  go_enter Tryz.func118, Tryz.ntmps118
  go_wp2_with (go_at_call 122; refine (all_any 2 [x, y] _ _ _ (by simp [reachBytes]) (H.out.keep qS ?_)).mono ?_; rotate_left; rintro e w2 ⟨rfl, hB2⟩; obtain ⟨hc2, hf2⟩ := jF hB2; have hz2 := hB2.size; try simp only [World.size_alloc, World.size_drew] at hc2 hf2 hz2)
  · have e : qM F x y = (noVal, 2) := by
      go_light
      simp_all [qM, allS]
    refine bodyPost_ret (v := .tuple #[.agg #[.int .i64 0, .int .i64 0, .string ⟨#[]⟩], .int .i64 2]) (by simp [results, Tryz.results118, go_sem, ↓IntWalk.iteOmega, hc2]) rfl ?_
    exact ⟨by rw [e]; rfl, (by repeat (first | exact Below.refl _ _ | assumption | refine Below.alloc1 ?_ _ | refine Below.drew ?_ | refine qt ?_ | refine Below.setCell ?_ (by first | exact Nat.le_refl _ | (simp; done) | omega | (simp; omega)) _ | refine Below.lift ?_ (by assumption)))⟩
  · rename _ = false => ht
    replace ht := hide ht
    refine wI (by kernel_rfl) (by kernel_rfl) (by kernel_rfl) ?_
    repeat (refine qH ?_; intro K hK; go_big_quiet_op; go_big_quiet_on)
    refine qH ?_; intro K hK; go_big_quiet_op
    refine ⟨_, fun _ => quiet_eq (HF.out _ _ _ hx.n hy.n), ?_⟩
    go_big_quiet_on
    repeat (refine qH ?_; intro K hK; go_big_quiet_op; go_big_quiet_on)
    refine zx ?_
    intro us w3 hB3
    simp only [junk, Act.put, List.setIfInBounds_toArray, List.set_cons_zero, List.set_cons_succ]
    obtain ⟨hc3, hf3⟩ := jF hB3; have hz3 := hB3.size; try simp only [World.size_alloc, World.size_drew] at hc3 hf3 hz3
    have hk := ht.out
    have hkk : x.kind = 2 ∧ y.kind = 2 := by
      clear ht
      go_light
      simp_all [allS]
    have HK := hide hkk
    clear hk hkk
    go_wp2
    · refine bodyPost_ret (v := .tuple #[.agg #[.int .i64 0, .int .i64 0, .string ⟨#[]⟩], .int .i64 (F x.n y.n).2]) (by simp [results, Tryz.results118, go_sem, ↓IntWalk.iteOmega, hc2, hc3]) rfl ?_
      refine ⟨?_, (by repeat (first | exact Below.refl _ _ | assumption | refine Below.alloc1 ?_ _ | refine Below.drew ?_ | refine qt ?_ | refine Below.setCell ?_ (by first | exact Nat.le_refl _ | (simp; done) | omega | (simp; omega)) _ | refine Below.lift ?_ (by assumption)))⟩
      have : qM F x y = (noVal, (F x.n y.n).2) := by
        have := HK.out
        go_light
        simp_all [qM]
      rw [this]; rfl
    · refine bodyPost_ret (v := .tuple #[.agg #[.int .i64 2, .int .i64 (F x.n y.n).1, .string ⟨#[]⟩], .int .i64 0]) (by simp [results, Tryz.results118, go_sem, ↓IntWalk.iteOmega, hc2, hc3]) rfl ?_
      refine ⟨?_, (by repeat (first | exact Below.refl _ _ | assumption | refine Below.alloc1 ?_ _ | refine Below.drew ?_ | refine qt ?_ | refine Below.setCell ?_ (by first | exact Nat.le_refl _ | (simp; done) | omega | (simp; omega)) _ | refine Below.lift ?_ (by assumption)))⟩
      have : qM F x y = (⟨2, (F x.n y.n).1, ⟨#[]⟩⟩, 0) := by
        have := HK.out
        go_light
        simp_all [qM]
      rw [this]
  · exact (by repeat (first | exact Below.refl _ _ | assumption | refine Below.alloc1 ?_ _ | refine Below.drew ?_ | refine qt ?_ | refine Below.setCell ?_ (by first | exact Nat.le_refl _ | (simp; done) | omega | (simp; omega)) _ | refine Below.lift ?_ (by assumption)))
end Go.Proofs.YtppfcacnofjmdaaGreatDoor
namespace Go.Proofs.YtppfcacnofjmdaaGreatDoor
open Go.RowKit
set_option linter.unusedSimpArgs false
set_option linter.unusedVariables false
attribute [local go_sem] ext_cell wi
attribute [local go_sem low] we jp
attribute [local go_sem ↓] eql_val
abbrev jK (op : Int) (l : List Val) (w : World) : Ending → World → Prop := fun e w' => e = .returned (.tuple #[.agg #[.int .i64 ((qN op l).1).kind, .int .i64 ((qN op l).1).n, .string ((qN op l).1).s], .int .i64 (qN op l).2]) ∧ Below w.heap.size w w'
theorem call_no (op : Int) (l : List Val) (A : Option Addr) (c : Nat) (w : World) (hn : l.length ≤ reachBytes) (h : SlAt rVal 3 w A l) (hm : mayS op l = false) :
    Calls Tryz.prog 92 #[.int .i64 op, .slice A l.length c] w (jK op l w) := by
  have H := hide h
  clear h
  have hr : qN op l = (noVal, 1) := by simp [qN, hm]
  go_enter Tryz.func92, Tryz.ntmps92
  go_wp2_with (go_at_call 116; refine (wY _ _ _ _ _ hn (H.out.keep qS (by repeat (first | exact Below.refl _ _ | assumption | refine Below.alloc1 ?_ _ | refine Below.drew ?_ | refine qt ?_ | refine Below.setCell ?_ (by first | exact Nat.le_refl _ | (simp; done) | omega | (simp; omega)) _ | refine Below.lift ?_ (by assumption))))).mono ?_; rintro e w2 ⟨rfl, hB2⟩; obtain ⟨hc2, hf2⟩ := jF hB2; have hz2 := hB2.size; try simp only [World.size_alloc, World.size_drew] at hc2 hf2 hz2)
  refine bodyPost_ret (v := .tuple #[.agg #[.int .i64 0, .int .i64 0, .string ⟨#[]⟩], .int .i64 1]) (by simp [results, Tryz.results92, go_sem, ↓IntWalk.iteOmega, hc2]) rfl ?_
  exact ⟨by rw [hr]; rfl, (by repeat (first | exact Below.refl _ _ | assumption | refine Below.alloc1 ?_ _ | refine Below.drew ?_ | refine qt ?_ | refine Below.setCell ?_ (by first | exact Nat.le_refl _ | (simp; done) | omega | (simp; omega)) _ | refine Below.lift ?_ (by assumption)))⟩
theorem call_eq (x y : Val) (A : Option Addr) (c : Nat) (w : World) (h : SlAt rVal 3 w A [x, y]) (hm : mayS 6 [x, y] = true) :
    Calls Tryz.prog 92 #[.int .i64 6, .slice A 2 c] w (jK 6 [x, y] w) := by
  have H := hide h
  have hr : Hid (qN 6 [x, y] = if x.kind ≠ y.kind then (noVal, 2) else (jo (jh x y), 0)) := by show _ = _; simp [qN, hm]
  obtain ⟨b, o, rfl, hb, ⟨c0, c1, c2⟩, ⟨d0, d1, d2⟩, hx, hy⟩ := h.pair
  clear h
  go_enter Tryz.func92, Tryz.ntmps92
  go_wp2_with (go_at_call 116; refine (wY 6 [x, y] _ _ _ (by simp [reachBytes]) (H.out.keep qS (by repeat (first | exact Below.refl _ _ | assumption | refine Below.alloc1 ?_ _ | refine Below.drew ?_ | refine qt ?_ | refine Below.setCell ?_ (by first | exact Nat.le_refl _ | (simp; done) | omega | (simp; omega)) _ | refine Below.lift ?_ (by assumption))))).mono ?_; rintro e w2 ⟨rfl, hB2⟩; obtain ⟨hc2, hf2⟩ := jF hB2; have hz2 := hB2.size; try simp only [World.size_alloc, World.size_drew] at hc2 hf2 hz2)
  refine wI (by kernel_rfl) (by kernel_rfl) (by kernel_rfl) ?_
  repeat (refine qH ?_; intro K hK; go_big_quiet_op; go_big_quiet_on)
  refine zx ?_
  intro us w5 hB5
  simp only [junk, Act.put, List.setIfInBounds_toArray, List.set_cons_zero, List.set_cons_succ]
  obtain ⟨hc5, hf5⟩ := jF hB5; have hz5 := hB5.size; try simp only [World.size_alloc, World.size_drew] at hc5 hf5 hz5
  go_upto_region 7 with (fail)
  · refine bodyPost_ret (v := .tuple #[.agg #[.int .i64 0, .int .i64 0, .string ⟨#[]⟩], .int .i64 2]) (by simp [results, Tryz.results92, go_sem, ↓IntWalk.iteOmega, hc2, hc5]) rfl ?_
    refine ⟨?_, (by repeat (first | exact Below.refl _ _ | assumption | refine Below.alloc1 ?_ _ | refine Below.drew ?_ | refine qt ?_ | refine Below.setCell ?_ (by first | exact Nat.le_refl _ | (simp; done) | omega | (simp; omega)) _ | refine Below.lift ?_ (by assumption)))⟩
    rw [hr.out, if_pos (by go_light; simp_all)]; rfl
  · rename _ = false => ht
    replace ht := hide ht
    refine wp_spec_draw_tail 8 (by kernel_rfl) (by kernel_rfl) (by kernel_rfl) ?_
    simp only [List.take_succ_cons, List.take_zero, List.drop_succ_cons, List.drop_zero]
    repeat (refine qH ?_; intro K hK; go_big_quiet_op; go_big_quiet_on)
    refine qH ?_; intro K hK; go_big_quiet_op
    refine ⟨_, fun _ => wQ (truth_any _ _), ?_⟩
    go_big_quiet_on
    repeat (refine qH ?_; intro K hK; go_big_quiet_op; go_big_quiet_on)
    refine zx ?_
    intro us w7 hB7
    simp only [junk, Act.put, List.setIfInBounds_toArray, List.set_cons_zero, List.set_cons_succ]
    obtain ⟨hc7, hf7⟩ := jF hB7; have hz7 := hB7.size; try simp only [World.size_alloc, World.size_drew] at hc7 hf7 hz7
    go_wp2
    refine bodyPost_ret (v := .tuple #[.agg #[.int .i64 1, .int .i64 (bitI (jh x y)), .string ⟨#[]⟩], .int .i64 0]) (by simp [results, Tryz.results92, go_sem, ↓IntWalk.iteOmega, hc2, hc5, hc7]) rfl ?_
    refine ⟨?_, (by repeat (first | exact Below.refl _ _ | assumption | refine Below.alloc1 ?_ _ | refine Below.drew ?_ | refine qt ?_ | refine Below.setCell ?_ (by first | exact Nat.le_refl _ | (simp; done) | omega | (simp; omega)) _ | refine Below.lift ?_ (by assumption)))⟩
    rw [hr.out, if_neg (by have := ht.out; clear ht; go_light; simp_all)]; rfl
theorem call_less (x y : Val) (A : Option Addr) (c : Nat) (w : World) (h : SlAt rVal 3 w A [x, y]) (hm : mayS 7 [x, y] = true) :
    Calls Tryz.prog 92 #[.int .i64 7, .slice A 2 c] w (jK 7 [x, y] w) := by
  have H := hide h
  have hr : Hid (qN 7 [x, y] = if (wN x y).2 ≠ 0 then (noVal, (wN x y).2) else (jo (wN x y).1, 0)) := by show _ = _; simp [qN, hm]
  obtain ⟨b, o, rfl, hb, ⟨c0, c1, c2⟩, ⟨d0, d1, d2⟩, hx, hy⟩ := h.pair
  clear h
  go_enter Tryz.func92, Tryz.ntmps92
  go_wp2_with (go_at_call 116; refine (wY 7 [x, y] _ _ _ (by simp [reachBytes]) (H.out.keep qS (by repeat (first | exact Below.refl _ _ | assumption | refine Below.alloc1 ?_ _ | refine Below.drew ?_ | refine qt ?_ | refine Below.setCell ?_ (by first | exact Nat.le_refl _ | (simp; done) | omega | (simp; omega)) _ | refine Below.lift ?_ (by assumption))))).mono ?_; rintro e w2 ⟨rfl, hB2⟩; obtain ⟨hc2, hf2⟩ := jF hB2; have hz2 := hB2.size; try simp only [World.size_alloc, World.size_drew] at hc2 hf2 hz2)
  refine wI (by kernel_rfl) (by kernel_rfl) (by kernel_rfl) ?_
  repeat (refine qH ?_; intro K hK; go_big_quiet_op; go_big_quiet_on)
  refine qH ?_; intro K hK; go_big_quiet_op
  refine ⟨_, fun _ => wQ (less_any _ _ _ _ _ _ _ hx.s hy.s), ?_⟩
  go_big_quiet_on
  repeat (refine qH ?_; intro K hK; go_big_quiet_op; go_big_quiet_on)
  refine zx ?_
  intro us w9 hB9
  simp only [junk, Act.put, List.setIfInBounds_toArray, List.set_cons_zero, List.set_cons_succ]
  obtain ⟨hc9, hf9⟩ := jF hB9; have hz9 := hB9.size; try simp only [World.size_alloc, World.size_drew] at hc9 hf9 hz9
  go_wp2_with (go_at_call 117; refine (truth_any _ _).mono ?_; rintro e w3 ⟨rfl, hB3⟩; obtain ⟨hc3, hf3⟩ := jF hB3; have hz3 := hB3.size; try simp only [World.size_alloc, World.size_drew] at hc3 hf3 hz3)
  · refine bodyPost_ret (v := .tuple #[.agg #[.int .i64 0, .int .i64 0, .string ⟨#[]⟩], .int .i64 (wN x y).2]) (by simp [results, Tryz.results92, go_sem, ↓IntWalk.iteOmega, hc2, hc9]) rfl ?_
    refine ⟨?_, (by repeat (first | exact Below.refl _ _ | assumption | refine Below.alloc1 ?_ _ | refine Below.drew ?_ | refine qt ?_ | refine Below.setCell ?_ (by first | exact Nat.le_refl _ | (simp; done) | omega | (simp; omega)) _ | refine Below.lift ?_ (by assumption)))⟩
    rw [hr.out, if_pos (by go_light; simp_all)]; rfl
  · refine bodyPost_ret (v := .tuple #[.agg #[.int .i64 1, .int .i64 (bitI (wN x y).1), .string ⟨#[]⟩], .int .i64 0]) (by simp [results, Tryz.results92, go_sem, ↓IntWalk.iteOmega, hc2, hc9, hc3]) rfl ?_
    refine ⟨?_, (by repeat (first | exact Below.refl _ _ | assumption | refine Below.alloc1 ?_ _ | refine Below.drew ?_ | refine qt ?_ | refine Below.setCell ?_ (by first | exact Nat.le_refl _ | (simp; done) | omega | (simp; omega)) _ | refine Below.lift ?_ (by assumption)))⟩
    rw [hr.out, if_neg (by go_light; simp_all)]; rfl
theorem call_add (x y : Val) (A : Option Addr) (c : Nat) (w : World) (h : SlAt rVal 3 w A [x, y]) (hm : mayS 8 [x, y] = true) :
    Calls Tryz.prog 92 #[.int .i64 8, .slice A 2 c] w (jK 8 [x, y] w) := by
  have H := hide h
  have hr : Hid (qN 8 [x, y] = qM addS x y) := by show _ = _; simp [qN, hm]
  clear h
  go_enter Tryz.func92, Tryz.ntmps92
  go_wp2_with (first | (go_at_call 116; refine (wY 8 [x, y] _ _ _ (by simp [reachBytes]) (H.out.keep qS (by repeat (first | exact Below.refl _ _ | assumption | refine Below.alloc1 ?_ _ | refine Below.drew ?_ | refine qt ?_ | refine Below.setCell ?_ (by first | exact Nat.le_refl _ | (simp; done) | omega | (simp; omega)) _ | refine Below.lift ?_ (by assumption))))).mono ?_; rintro e w2 ⟨rfl, hB2⟩; obtain ⟨hc2, hf2⟩ := jF hB2; have hz2 := hB2.size; try simp only [World.size_alloc, World.size_drew] at hc2 hf2 hz2) | (go_at_call 118; refine (number_any 119 (wz Tryz.func119 (by kernel_rfl) (by kernel_rfl)) addS add_any x y _ _ _ (H.out.keep qS (by repeat (first | exact Below.refl _ _ | assumption | refine Below.alloc1 ?_ _ | refine Below.drew ?_ | refine qt ?_ | refine Below.setCell ?_ (by first | exact Nat.le_refl _ | (simp; done) | omega | (simp; omega)) _ | refine Below.lift ?_ (by assumption))))).mono ?_; rintro e w3 ⟨rfl, hB3⟩; obtain ⟨hc3, hf3⟩ := jF hB3; have hz3 := hB3.size; try simp only [World.size_alloc, World.size_drew] at hc3 hf3 hz3))
  refine bodyPost_ret (v := .tuple #[.agg #[.int .i64 ((qM addS x y).1).kind, .int .i64 ((qM addS x y).1).n, .string ((qM addS x y).1).s], .int .i64 (qM addS x y).2]) (by simp [results, Tryz.results92, go_sem, ↓IntWalk.iteOmega, hc2, hc3]) rfl ?_
  exact ⟨by rw [hr.out], (by repeat (first | exact Below.refl _ _ | assumption | refine Below.alloc1 ?_ _ | refine Below.drew ?_ | refine qt ?_ | refine Below.setCell ?_ (by first | exact Nat.le_refl _ | (simp; done) | omega | (simp; omega)) _ | refine Below.lift ?_ (by assumption)))⟩
theorem call_sub (x y : Val) (A : Option Addr) (c : Nat) (w : World) (h : SlAt rVal 3 w A [x, y]) (hm : mayS 9 [x, y] = true) :
    Calls Tryz.prog 92 #[.int .i64 9, .slice A 2 c] w (jK 9 [x, y] w) := by
  have H := hide h
  have hr : Hid (qN 9 [x, y] = qM subS x y) := by show _ = _; simp [qN, hm]
  clear h
  go_enter Tryz.func92, Tryz.ntmps92
  go_wp2_with (first | (go_at_call 116; refine (wY 9 [x, y] _ _ _ (by simp [reachBytes]) (H.out.keep qS (by repeat (first | exact Below.refl _ _ | assumption | refine Below.alloc1 ?_ _ | refine Below.drew ?_ | refine qt ?_ | refine Below.setCell ?_ (by first | exact Nat.le_refl _ | (simp; done) | omega | (simp; omega)) _ | refine Below.lift ?_ (by assumption))))).mono ?_; rintro e w2 ⟨rfl, hB2⟩; obtain ⟨hc2, hf2⟩ := jF hB2; have hz2 := hB2.size; try simp only [World.size_alloc, World.size_drew] at hc2 hf2 hz2) | (go_at_call 118; refine (number_any 120 (wz Tryz.func120 (by kernel_rfl) (by kernel_rfl)) subS sub_any x y _ _ _ (H.out.keep qS (by repeat (first | exact Below.refl _ _ | assumption | refine Below.alloc1 ?_ _ | refine Below.drew ?_ | refine qt ?_ | refine Below.setCell ?_ (by first | exact Nat.le_refl _ | (simp; done) | omega | (simp; omega)) _ | refine Below.lift ?_ (by assumption))))).mono ?_; rintro e w3 ⟨rfl, hB3⟩; obtain ⟨hc3, hf3⟩ := jF hB3; have hz3 := hB3.size; try simp only [World.size_alloc, World.size_drew] at hc3 hf3 hz3))
  refine bodyPost_ret (v := .tuple #[.agg #[.int .i64 ((qM subS x y).1).kind, .int .i64 ((qM subS x y).1).n, .string ((qM subS x y).1).s], .int .i64 (qM subS x y).2]) (by simp [results, Tryz.results92, go_sem, ↓IntWalk.iteOmega, hc2, hc3]) rfl ?_
  exact ⟨by rw [hr.out], (by repeat (first | exact Below.refl _ _ | assumption | refine Below.alloc1 ?_ _ | refine Below.drew ?_ | refine qt ?_ | refine Below.setCell ?_ (by first | exact Nat.le_refl _ | (simp; done) | omega | (simp; omega)) _ | refine Below.lift ?_ (by assumption)))⟩
theorem call_mul (x y : Val) (A : Option Addr) (c : Nat) (w : World) (h : SlAt rVal 3 w A [x, y]) (hm : mayS 10 [x, y] = true) :
    Calls Tryz.prog 92 #[.int .i64 10, .slice A 2 c] w (jK 10 [x, y] w) := by
  have H := hide h
  have hr : Hid (qN 10 [x, y] = qM mulS x y) := by show _ = _; simp [qN, hm]
  clear h
  go_enter Tryz.func92, Tryz.ntmps92
  go_wp2_with (first | (go_at_call 116; refine (wY 10 [x, y] _ _ _ (by simp [reachBytes]) (H.out.keep qS (by repeat (first | exact Below.refl _ _ | assumption | refine Below.alloc1 ?_ _ | refine Below.drew ?_ | refine qt ?_ | refine Below.setCell ?_ (by first | exact Nat.le_refl _ | (simp; done) | omega | (simp; omega)) _ | refine Below.lift ?_ (by assumption))))).mono ?_; rintro e w2 ⟨rfl, hB2⟩; obtain ⟨hc2, hf2⟩ := jF hB2; have hz2 := hB2.size; try simp only [World.size_alloc, World.size_drew] at hc2 hf2 hz2) | (go_at_call 118; refine (number_any 121 (wz Tryz.func121 (by kernel_rfl) (by kernel_rfl)) mulS mul_any x y _ _ _ (H.out.keep qS (by repeat (first | exact Below.refl _ _ | assumption | refine Below.alloc1 ?_ _ | refine Below.drew ?_ | refine qt ?_ | refine Below.setCell ?_ (by first | exact Nat.le_refl _ | (simp; done) | omega | (simp; omega)) _ | refine Below.lift ?_ (by assumption))))).mono ?_; rintro e w3 ⟨rfl, hB3⟩; obtain ⟨hc3, hf3⟩ := jF hB3; have hz3 := hB3.size; try simp only [World.size_alloc, World.size_drew] at hc3 hf3 hz3))
  refine bodyPost_ret (v := .tuple #[.agg #[.int .i64 ((qM mulS x y).1).kind, .int .i64 ((qM mulS x y).1).n, .string ((qM mulS x y).1).s], .int .i64 (qM mulS x y).2]) (by simp [results, Tryz.results92, go_sem, ↓IntWalk.iteOmega, hc2, hc3]) rfl ?_
  exact ⟨by rw [hr.out], (by repeat (first | exact Below.refl _ _ | assumption | refine Below.alloc1 ?_ _ | refine Below.drew ?_ | refine qt ?_ | refine Below.setCell ?_ (by first | exact Nat.le_refl _ | (simp; done) | omega | (simp; omega)) _ | refine Below.lift ?_ (by assumption)))⟩
end Go.Proofs.YtppfcacnofjmdaaGreatDoor
namespace Go.Proofs.YtppfcacnofjmdaaGreatDoor
open Go.RowKit
set_option linter.unusedSimpArgs false
set_option linter.unusedVariables false
attribute [local go_sem] ext_cell wi
attribute [local go_sem low] we jp
attribute [local go_sem ↓] eql_val
theorem call_not (x : Val) (A : Option Addr) (c : Nat) (w : World) (h : SlAt rVal 3 w A [x]) (hm : mayS 11 [x] = true) :
    Calls Tryz.prog 92 #[.int .i64 11, .slice A 1 c] w (jK 11 [x] w) := by
  have H := hide h
  have hr : Hid (qN 11 [x] = if allS 1 [x] then (jo (x.n == 0), 0) else (noVal, 2)) := by show _ = _; simp [qN, hm]; cases allS 1 _ <;> rfl
  obtain ⟨b, o, rfl, hb, ⟨c0, c1, c2⟩, hx⟩ := h.lone
  clear h
  go_enter Tryz.func92, Tryz.ntmps92
  go_wp2_with (first | (go_at_call 116; refine (wY 11 [x] _ _ _ (by simp [reachBytes]) (H.out.keep qS (by repeat (first | exact Below.refl _ _ | assumption | refine Below.alloc1 ?_ _ | refine Below.drew ?_ | refine qt ?_ | refine Below.setCell ?_ (by first | exact Nat.le_refl _ | (simp; done) | omega | (simp; omega)) _ | refine Below.lift ?_ (by assumption))))).mono ?_; rintro e w2 ⟨rfl, hB2⟩; obtain ⟨hc2, hf2⟩ := jF hB2; have hz2 := hB2.size; try simp only [World.size_alloc, World.size_drew] at hc2 hf2 hz2) | (go_at_call 122; refine (all_any 1 [x] _ _ _ (by simp [reachBytes]) (H.out.keep qS (by repeat (first | exact Below.refl _ _ | assumption | refine Below.alloc1 ?_ _ | refine Below.drew ?_ | refine qt ?_ | refine Below.setCell ?_ (by first | exact Nat.le_refl _ | (simp; done) | omega | (simp; omega)) _ | refine Below.lift ?_ (by assumption))))).mono ?_; rintro e w4 ⟨rfl, hB4⟩; obtain ⟨hc4, hf4⟩ := jF hB4; have hz4 := hB4.size; try simp only [World.size_alloc, World.size_drew] at hc4 hf4 hz4) | (go_at_call 117; refine (truth_any _ _).mono ?_; rintro e w3 ⟨rfl, hB3⟩; obtain ⟨hc3, hf3⟩ := jF hB3; have hz3 := hB3.size; try simp only [World.size_alloc, World.size_drew] at hc3 hf3 hz3))
  · refine bodyPost_ret (v := .tuple #[.agg #[.int .i64 0, .int .i64 0, .string ⟨#[]⟩], .int .i64 2]) (by simp [results, Tryz.results92, go_sem, ↓IntWalk.iteOmega, hc2, hc4]) rfl ?_
    refine ⟨?_, (by repeat (first | exact Below.refl _ _ | assumption | refine Below.alloc1 ?_ _ | refine Below.drew ?_ | refine qt ?_ | refine Below.setCell ?_ (by first | exact Nat.le_refl _ | (simp; done) | omega | (simp; omega)) _ | refine Below.lift ?_ (by assumption)))⟩
    rw [hr.out, if_neg (by go_light; simp_all)]; rfl
  · refine bodyPost_ret (v := .tuple #[.agg #[.int .i64 1, .int .i64 (bitI (x.n == 0)), .string ⟨#[]⟩], .int .i64 0]) (by simp [results, Tryz.results92, go_sem, ↓IntWalk.iteOmega, hc2, hc4, hc3]) rfl ?_
    refine ⟨?_, (by repeat (first | exact Below.refl _ _ | assumption | refine Below.alloc1 ?_ _ | refine Below.drew ?_ | refine qt ?_ | refine Below.setCell ?_ (by first | exact Nat.le_refl _ | (simp; done) | omega | (simp; omega)) _ | refine Below.lift ?_ (by assumption)))⟩
    rw [hr.out, if_pos (by go_light; simp_all)]; rfl
theorem call_and (x y : Val) (A : Option Addr) (c : Nat) (w : World) (h : SlAt rVal 3 w A [x, y]) (hm : mayS 12 [x, y] = true) :
    Calls Tryz.prog 92 #[.int .i64 12, .slice A 2 c] w (jK 12 [x, y] w) := by
  have H := hide h
  have hr : Hid (qN 12 [x, y] = if allS 1 [x, y] then (jo (x.n == 1 && y.n == 1), 0) else (noVal, 2)) := by show _ = _; simp [qN, hm]; cases allS 1 _ <;> rfl
  obtain ⟨b, o, rfl, hb, ⟨c0, c1, c2⟩, ⟨d0, d1, d2⟩, hx, hy⟩ := h.pair
  clear h
  go_enter Tryz.func92, Tryz.ntmps92
  go_upto_region 25 with (first | (go_at_call 116; refine (wY 12 [x, y] _ _ _ (by simp [reachBytes]) (H.out.keep qS (by repeat (first | exact Below.refl _ _ | assumption | refine Below.alloc1 ?_ _ | refine Below.drew ?_ | refine qt ?_ | refine Below.setCell ?_ (by first | exact Nat.le_refl _ | (simp; done) | omega | (simp; omega)) _ | refine Below.lift ?_ (by assumption))))).mono ?_; rintro e w2 ⟨rfl, hB2⟩; obtain ⟨hc2, hf2⟩ := jF hB2; have hz2 := hB2.size; try simp only [World.size_alloc, World.size_drew] at hc2 hf2 hz2) | (go_at_call 122; refine (all_any 1 [x, y] _ _ _ (by simp [reachBytes]) (H.out.keep qS (by repeat (first | exact Below.refl _ _ | assumption | refine Below.alloc1 ?_ _ | refine Below.drew ?_ | refine qt ?_ | refine Below.setCell ?_ (by first | exact Nat.le_refl _ | (simp; done) | omega | (simp; omega)) _ | refine Below.lift ?_ (by assumption))))).mono ?_; rintro e w4 ⟨rfl, hB4⟩; obtain ⟨hc4, hf4⟩ := jF hB4; have hz4 := hB4.size; try simp only [World.size_alloc, World.size_drew] at hc4 hf4 hz4))
  · refine bodyPost_ret (v := .tuple #[.agg #[.int .i64 0, .int .i64 0, .string ⟨#[]⟩], .int .i64 2]) (by simp [results, Tryz.results92, go_sem, ↓IntWalk.iteOmega, hc2, hc4]) rfl ?_
    refine ⟨?_, (by repeat (first | exact Below.refl _ _ | assumption | refine Below.alloc1 ?_ _ | refine Below.drew ?_ | refine qt ?_ | refine Below.setCell ?_ (by first | exact Nat.le_refl _ | (simp; done) | omega | (simp; omega)) _ | refine Below.lift ?_ (by assumption)))⟩
    rw [hr.out, if_neg (by go_light; simp_all)]; rfl
  · skip
    refine wp_spec_tail 13 (by kernel_rfl) ?_
    simp only [List.take_succ_cons, List.take_zero, List.drop_succ_cons, List.drop_zero]
    repeat (refine qH ?_; intro K hK; go_big_quiet_op; go_big_quiet_on)
    refine qH ?_; intro K hK; go_big_quiet_op
    refine ⟨_, fun _ => wQ (truth_any _ _), ?_⟩
    go_big_quiet_on
    repeat (refine qH ?_; intro K hK; go_big_quiet_op; go_big_quiet_on)
    refine zx ?_
    intro us w25 hB25
    simp only [junk, Act.put, List.setIfInBounds_toArray, List.set_cons_zero, List.set_cons_succ]
    obtain ⟨hc25, hf25⟩ := jF hB25; have hz25 := hB25.size; try simp only [World.size_alloc, World.size_drew] at hc25 hf25 hz25
    go_wp2
    refine bodyPost_ret (v := .tuple #[.agg #[.int .i64 1, .int .i64 (bitI (x.n == 1 && y.n == 1)), .string ⟨#[]⟩], .int .i64 0]) (by simp [results, Tryz.results92, go_sem, ↓IntWalk.iteOmega, hc2, hc4, hc25]) rfl ?_
    refine ⟨?_, (by repeat (first | exact Below.refl _ _ | assumption | refine Below.alloc1 ?_ _ | refine Below.drew ?_ | refine qt ?_ | refine Below.setCell ?_ (by first | exact Nat.le_refl _ | (simp; done) | omega | (simp; omega)) _ | refine Below.lift ?_ (by assumption)))⟩
    rw [hr.out, if_pos (by go_light; simp_all)]; rfl
theorem call_or (x y : Val) (A : Option Addr) (c : Nat) (w : World) (h : SlAt rVal 3 w A [x, y]) (hm : mayS 13 [x, y] = true) :
    Calls Tryz.prog 92 #[.int .i64 13, .slice A 2 c] w (jK 13 [x, y] w) := by
  have H := hide h
  have hr : Hid (qN 13 [x, y] = if allS 1 [x, y] then (jo (x.n == 1 || y.n == 1), 0) else (noVal, 2)) := by show _ = _; simp [qN, hm]; cases allS 1 _ <;> rfl
  obtain ⟨b, o, rfl, hb, ⟨c0, c1, c2⟩, ⟨d0, d1, d2⟩, hx, hy⟩ := h.pair
  clear h
  go_enter Tryz.func92, Tryz.ntmps92
  go_upto_region 26 with (first | (go_at_call 116; refine (wY 13 [x, y] _ _ _ (by simp [reachBytes]) (H.out.keep qS (by repeat (first | exact Below.refl _ _ | assumption | refine Below.alloc1 ?_ _ | refine Below.drew ?_ | refine qt ?_ | refine Below.setCell ?_ (by first | exact Nat.le_refl _ | (simp; done) | omega | (simp; omega)) _ | refine Below.lift ?_ (by assumption))))).mono ?_; rintro e w2 ⟨rfl, hB2⟩; obtain ⟨hc2, hf2⟩ := jF hB2; have hz2 := hB2.size; try simp only [World.size_alloc, World.size_drew] at hc2 hf2 hz2) | (go_at_call 122; refine (all_any 1 [x, y] _ _ _ (by simp [reachBytes]) (H.out.keep qS (by repeat (first | exact Below.refl _ _ | assumption | refine Below.alloc1 ?_ _ | refine Below.drew ?_ | refine qt ?_ | refine Below.setCell ?_ (by first | exact Nat.le_refl _ | (simp; done) | omega | (simp; omega)) _ | refine Below.lift ?_ (by assumption))))).mono ?_; rintro e w4 ⟨rfl, hB4⟩; obtain ⟨hc4, hf4⟩ := jF hB4; have hz4 := hB4.size; try simp only [World.size_alloc, World.size_drew] at hc4 hf4 hz4))
  · refine bodyPost_ret (v := .tuple #[.agg #[.int .i64 0, .int .i64 0, .string ⟨#[]⟩], .int .i64 2]) (by simp [results, Tryz.results92, go_sem, ↓IntWalk.iteOmega, hc2, hc4]) rfl ?_
    refine ⟨?_, (by repeat (first | exact Below.refl _ _ | assumption | refine Below.alloc1 ?_ _ | refine Below.drew ?_ | refine qt ?_ | refine Below.setCell ?_ (by first | exact Nat.le_refl _ | (simp; done) | omega | (simp; omega)) _ | refine Below.lift ?_ (by assumption)))⟩
    rw [hr.out, if_neg (by go_light; simp_all)]; rfl
  · skip
    refine wp_spec_tail 13 (by kernel_rfl) ?_
    simp only [List.take_succ_cons, List.take_zero, List.drop_succ_cons, List.drop_zero]
    repeat (refine qH ?_; intro K hK; go_big_quiet_op; go_big_quiet_on)
    refine qH ?_; intro K hK; go_big_quiet_op
    refine ⟨_, fun _ => wQ (truth_any _ _), ?_⟩
    go_big_quiet_on
    repeat (refine qH ?_; intro K hK; go_big_quiet_op; go_big_quiet_on)
    refine zx ?_
    intro us w26 hB26
    simp only [junk, Act.put, List.setIfInBounds_toArray, List.set_cons_zero, List.set_cons_succ]
    obtain ⟨hc26, hf26⟩ := jF hB26; have hz26 := hB26.size; try simp only [World.size_alloc, World.size_drew] at hc26 hf26 hz26
    go_wp2
    refine bodyPost_ret (v := .tuple #[.agg #[.int .i64 1, .int .i64 (bitI (x.n == 1 || y.n == 1)), .string ⟨#[]⟩], .int .i64 0]) (by simp [results, Tryz.results92, go_sem, ↓IntWalk.iteOmega, hc2, hc4, hc26]) rfl ?_
    refine ⟨?_, (by repeat (first | exact Below.refl _ _ | assumption | refine Below.alloc1 ?_ _ | refine Below.drew ?_ | refine qt ?_ | refine Below.setCell ?_ (by first | exact Nat.le_refl _ | (simp; done) | omega | (simp; omega)) _ | refine Below.lift ?_ (by assumption)))⟩
    rw [hr.out, if_pos (by go_light; simp_all)]; rfl
theorem call_any (op : Int) (l : List Val) (A : Option Addr) (c : Nat) (w : World) (hn : l.length ≤ reachBytes) (h : SlAt rVal 3 w A l) :
    Calls Tryz.prog 92 #[.int .i64 op, .slice A l.length c] w (jK op l w) := by
  cases hm : mayS op l with
  | false => exact call_no op l A c w hn h hm
  | true =>
    have hm' := hm
    simp only [mayS, Bool.and_eq_true, decide_eq_true_eq] at hm'
    obtain ⟨⟨⟨h1, h2⟩, h3⟩, _⟩ := hm'
    rcases (show op = 6 ∨ op = 7 ∨ op = 8 ∨ op = 9 ∨ op = 10 ∨ op = 11 ∨ op = 12 ∨ op = 13 by omega) with rfl | rfl | rfl | rfl | rfl | rfl | rfl | rfl
    all_goals
      simp only [Int.reduceEq, if_true, if_false] at h3
      match l, h3 with
      | [x], h3 => first | exact call_not x A c w h hm | (simp at h3)
      | [x, y], h3 => first | exact call_eq x y A c w h hm | exact call_less x y A c w h hm | exact call_add x y A c w h hm | exact call_sub x y A c w h hm | exact call_mul x y A c w h hm | exact call_and x y A c w h hm | exact call_or x y A c w h hm | (simp at h3)
      | [], h3 => simp at h3
      | _ :: _ :: _ :: _, h3 => simp at h3; omega
end Go.Proofs.YtppfcacnofjmdaaGreatDoor
namespace Go.Proofs.YtppfcacnofjmdaaGreatDoor
set_option linter.unusedVariables false
set_option linter.unusedSimpArgs false
open Go.RowKit
structure Itm.Fit (x : Itm) : Prop where
  bag : ∀ v ∈ x.bag, v.Fit
  v : x.v.Fit
  len : x.bag.length ≤ 1000000
theorem jR : noVal.Fit := ⟨⟨by decide, by decide⟩, ⟨by decide, by decide⟩, by decide⟩
theorem truthS_fit (b : Bool) : (jo b).Fit := by cases b <;> exact ⟨⟨by decide, by decide⟩, ⟨by decide, by decide⟩, by decide⟩
theorem num_fit {n : Int} (h : R64 n) : (⟨2, n, ⟨#[]⟩⟩ : Val).Fit := ⟨⟨by show _ ≤ (2 : Int); omega, by show (2 : Int) ≤ _; omega⟩, h, by show (⟨#[]⟩ : ByteArray).size ≤ reachBytes; decide⟩
theorem inI_r64 {n : Int} (h : inI n = true) : R64 n := by
  simp only [inI, Bool.and_eq_true, decide_eq_true_eq] at h
  exact ⟨by omega, by omega⟩
theorem number_fit {f : Int → Int → Int × Int} (hf : ∀ a b, (f a b).2 = 0 → R64 (f a b).1) (x y : Val) : (qM f x y).1.Fit := by
  unfold qM
  split
  · exact jR
  · split
    · exact jR
    · rename_i h
      exact num_fit (hf _ _ (Classical.byContradiction h))
theorem add_fit (a b : Int) : (addS a b).2 = 0 → R64 (addS a b).1 := by
  unfold addS
  split
  · rename_i h; exact fun _ => inI_r64 h
  · intro h; cases h
theorem sub_fit (a b : Int) : (subS a b).2 = 0 → R64 (subS a b).1 := by
  unfold subS
  split
  · rename_i h; exact fun _ => inI_r64 h
  · intro h; cases h
theorem mul_fit (a b : Int) : (mulS a b).2 = 0 → R64 (mulS a b).1 := by
  unfold mulS
  split
  · rename_i h; exact fun _ => inI_r64 h
  · intro h; cases h
theorem callS_fit (op : Int) (l : List Val) : (qN op l).1.Fit := by
  unfold qN
  split
  · exact jR
  · simp only
    repeat' split
    all_goals first | exact jR | exact truthS_fit _ | exact number_fit add_fit _ _ | exact number_fit sub_fit _ _ | exact number_fit mul_fit _ _
theorem bagS_mem {cat : Int} {name : ByteArray} {g : List Giv} {Q : List Val → Prop} (h0 : Q []) (h : ∀ x ∈ g, Q x.bag) : Q (bagS cat name g) := by
  rcases place_cases cat name g with ⟨_, hb, _⟩ | ⟨k, hk, _, hb, _⟩
  · rw [hb]; exact h0
  · rw [hb]; exact h _ (List.getElem_mem hk)
theorem getS_mem {a : Atr} {g : List Giv} {Q : List Val → Prop} (h0 : Q []) (h : ∀ x ∈ g, Q x.bag) : Q (getS a g).1 := by
  unfold getS
  split
  · exact h0
  · exact bagS_mem h0 h
theorem nodeS_fit {n : Nod} (hn : n.Fit) {l : List Itm} (hl : ∀ x ∈ l, x.Fit) {g : List Giv} (hg : ∀ x ∈ g, x.Fit) (hb : ∀ x ∈ g, x.bag.length ≤ 1000000) : (zc n l g).Fit := by
  have e0 : ∀ v ∈ ([] : List Val), v.Fit := fun v hv => by simp at hv
  have d0 : (l.getD 0 noItm).Fit := by
    cases l with
    | nil => exact ⟨e0, jR, Nat.zero_le _⟩
    | cons x r => exact hl x (by simp)
  have sz : ∀ {v : Val}, v.Fit → (Itm.mk [] v 0).Fit := fun h => ⟨e0, h, Nat.zero_le _⟩
  have sz' : ∀ {v : Val} (e : Int), v.Fit → (Itm.mk [] v e).Fit := fun _ h => ⟨e0, h, Nat.zero_le _⟩
  unfold zc
  split
  · exact sz hn.val
  · split
    · exact ⟨getS_mem (Q := fun b => ∀ v ∈ b, v.Fit) e0 fun x hx => (hg x hx).bag, jR, getS_mem (Q := fun b => b.length ≤ 1000000) (Nat.zero_le _) hb⟩
    · split
      · exact sz (truthS_fit _)
      · split
        · exact sz' _ jR
        · unfold lastS
          repeat' split
          · refine sz ?_
            rename_i h1
            match hb : (l.getD 0 noItm).bag, h1 with
            | [v], _ => exact d0.bag v (by rw [hb]; simp)
          · exact sz' _ jR
          · have := d0.len
            exact sz (num_fit ⟨by omega, by omega⟩)
          · exact sz (truthS_fit _)
          · exact sz' _ (callS_fit _ _)
theorem rel_val {ok : Nat → Prop} {w : World} (x : Val) : RelP ok w (.agg x.pv) x.v := by
  refine .agg rfl fun i s u hs hu => ?_
  match i, hs, hu with
  | 0, hs, hu => cases hs; cases hu; exact .v rfl
  | 1, hs, hu => cases hs; cases hu; exact .v rfl
  | 2, hs, hu => cases hs; cases hu; exact .v rfl
theorem rel_two {ok : Nat → Prop} {H : Nat → Option Value} {w : World} {p q : PV} {u v : Value} (h : RelP ok w p u) (k : RelP ok w q v) : RelS ok H w (.tup [.p p, .p q]) (.tuple #[u, v]) := by
  refine .tup rfl fun i s x hs hx => ?_
  match i, hs, hx with
  | 0, hs, hx => cases hs; cases hx; exact .p h
  | 1, hs, hx => cases hs; cases hx; exact .p k
theorem call_h (op : Int) (l : List Val) (hf : ∀ x ∈ l, x.Fit) : Holds Tryz.prog 92 [pI op, valsP l] (.tup [.p (.agg (qN op l).1.pv), .p (pI (qN op l).2)]) [] :=
  .of_calls Tryz.func92 (by kernel_rfl) rfl (fun w vs hl hr => by
    obtain ⟨u, v, rfl⟩ : ∃ u v, vs = [u, v] := by
      match vs, hl with
      | [u, v], _ => exact ⟨u, v, rfl⟩
    have h := zX (hr 0 _ u rfl rfl) rfl
    subst h
    obtain ⟨A, c, rfl, h1, h2, h3⟩ := vals_typed (hr 1 _ v rfl rfl) hf
    exact call_any op l A c w h2.1 h3) rfl fun w => rel_two (rel_val _) (.v rfl)
end Go.Proofs.YtppfcacnofjmdaaGreatDoor
namespace Go.Proofs.YtppfcacnofjmdaaGreatDoor
set_option linter.unusedVariables false
set_option linter.unusedSimpArgs false
open Go.RowKit
set_option maxHeartbeats 4000000
theorem against_h (m : Mat) (v : Val) (hm : m.val.s.size ≤ reachBytes) (hv : v.s.size ≤ reachBytes) : Holds Tryz.prog 63 [.agg m.pv, .agg v.pv] (.tup [.p (pB (againstT m v).1), .p (pI (againstT m v).2)]) [] := by
  obtain ⟨a, op, val⟩ := m
  unfold againstT
  simp only at hm ⊢
  by_cases h1 : op = 1
  · subst h1
    rw [if_pos rfl]
    refine qA (ts := [4,5]) Tryz.func63 (by kernel_rfl) rfl rfl rfl ?_
    (repeat refine qb ?_); refine qa ?_
    repeat (first | refine zR ?_ | refine zK ?_ | refine zM ?_ | refine zB ?_ | refine zA ?_ | refine zS ?_ | refine zL ?_)
    refine qc ?_
    (repeat refine qb ?_); refine ql ?_
    (repeat refine qb ?_); refine qs (by kernel_rfl) ?_
    repeat (refine qr qe rfl (by exact True.intro) rfl ?_)
    refine qQ ?_
    (repeat refine qb ?_); refine qf rfl (fun hk => ?_) (fun hk => ?_)
    · have hk' : v.kind ≠ val.kind := by simpa using hk
      rw [if_pos hk']
      (repeat refine qb ?_); refine qa ?_
      repeat (first | refine zR ?_ | refine zK ?_ | refine zM ?_ | refine zB ?_ | refine zA ?_ | refine zS ?_ | refine zL ?_)
      refine qc ?_
      (repeat refine qb ?_); refine qk ?_
      exact ⟨Or.inr rfl, _, _, [], Wk.refl _, rfl, rfl, rfl, rfl⟩
    · have hk' : ¬ v.kind ≠ val.kind := by simpa using hk
      rw [if_neg hk']
      (repeat refine qb ?_); refine qa ?_
      repeat (first | refine zR ?_ | refine zK ?_ | refine zM ?_ | refine zB ?_ | refine zA ?_ | refine zS ?_ | refine zL ?_)
      refine qc ?_
      (repeat refine qb ?_); refine qf rfl (fun h3 => ?_) (fun h3 => ?_)
      · (repeat refine qb ?_); refine qa ?_
        repeat (first | refine zR ?_ | refine zK ?_ | refine zM ?_ | refine zB ?_ | refine zA ?_ | refine zS ?_ | refine zL ?_)
        refine qw qe rfl (opR_eqV v val rfl rfl rfl rfl) rfl rfl ?_
        repeat (first | refine zR ?_ | refine zK ?_ | refine zM ?_ | refine zB ?_ | refine zA ?_ | refine zS ?_ | refine zL ?_)
        refine qc ?_
        (repeat refine qb ?_); refine qk ?_
        exact ⟨Or.inr rfl, _, _, [], Wk.refl _, rfl, rfl, rfl, rfl⟩
      · cases h3
  · have hn1 : (op == 1) = false := by simpa using h1
    rw [if_neg h1]
    refine qA (ts := [4,5]) Tryz.func63 (by kernel_rfl) rfl rfl rfl ?_
    (repeat refine qb ?_); refine qa ?_
    repeat (first | refine zR ?_ | refine zK ?_ | refine zM ?_ | refine zB ?_ | refine zA ?_ | refine zS ?_ | refine zL ?_)
    refine qc ?_
    (repeat refine qb ?_); refine ql ?_
    (repeat refine qb ?_); refine qs (by kernel_rfl) ?_
    repeat (refine qr qe rfl (by exact True.intro) rfl ?_)
    rw [hn1]
    repeat (refine qr qe rfl (by exact True.intro) rfl ?_)
    refine qQ ?_
    (repeat refine qb ?_); refine qf rfl (fun hk => ?_) (fun hk => ?_)
    · cases hk
    (repeat refine qb ?_); refine qa ?_
    repeat (first | refine zR ?_ | refine zK ?_ | refine zM ?_ | refine zB ?_ | refine zA ?_ | refine zS ?_ | refine zL ?_)
    refine qc ?_
    rw [hn1]
    (repeat refine qb ?_); refine qf rfl (fun h3 => ?_) (fun h3 => ?_)
    · cases h3
    by_cases h2 : op = 2
    · rw [if_pos h2]
      (repeat refine qb ?_); refine qa ?_
      repeat (first | refine zR ?_ | refine zK ?_ | refine zM ?_ | refine zB ?_ | refine zA ?_ | refine zS ?_ | refine zL ?_)
      refine qc ?_
      (repeat refine qb ?_); refine qf rfl (fun h4 => ?_) (fun h4 => ?_)
      · (repeat refine qb ?_); refine qa ?_
        repeat (first | refine zR ?_ | refine zK ?_ | refine zM ?_ | refine zB ?_ | refine zA ?_ | refine zS ?_ | refine zL ?_)
        refine qn rfl (qg rfl rfl rfl rfl (less_h v val hv hm) rfl rfl ?_)
        repeat (first | refine zR ?_ | refine zK ?_ | refine zM ?_ | refine zB ?_ | refine zA ?_ | refine zS ?_ | refine zL ?_)
        refine qc ?_
        (repeat refine qb ?_); refine qk ?_
        exact ⟨Or.inr rfl, _, _, [], Wk.refl _, rfl, rfl, rfl, rfl⟩
      · simp [h2] at h4
    · rw [if_neg h2]
      (repeat refine qb ?_); refine qa ?_
      repeat (first | refine zR ?_ | refine zK ?_ | refine zM ?_ | refine zB ?_ | refine zA ?_ | refine zS ?_ | refine zL ?_)
      refine qc ?_
      (repeat refine qb ?_); refine qf rfl (fun h4 => ?_) (fun h4 => ?_)
      · simp [h2] at h4
      refine qm ?_
      (repeat refine qb ?_); refine qa ?_
      repeat (first | refine zR ?_ | refine zK ?_ | refine zM ?_ | refine zB ?_ | refine zA ?_ | refine zS ?_ | refine zL ?_)
      refine qn rfl (qg rfl rfl rfl rfl (less_h val v hm hv) rfl rfl ?_)
      repeat (first | refine zR ?_ | refine zK ?_ | refine zM ?_ | refine zB ?_ | refine zA ?_ | refine zS ?_ | refine zL ?_)
      refine qc ?_
      (repeat refine qb ?_); refine qk ?_
      exact ⟨Or.inr rfl, _, _, [], Wk.refl _, rfl, rfl, rfl, rfl⟩
theorem any_take {α : Type} {p : α → Bool} {l : List α} {k : Nat} (h : k < l.length) : (l.take (k + 1)).any p = ((l.take k).any p || p l[k]) := by
  rw [List.take_succ_eq_append_getElem h, List.any_append]
  simp
theorem match2_h (m : Mat) (l : List Giv) (hm : m.Fit) (hf : ∀ x ∈ l, x.Fit) (hn : l.length ≤ 1000000) (hb : ∀ x ∈ l, x.bag.length ≤ 1000000) : Holds Tryz.prog 37 [.agg m.pv, zP l] (.p (pI (matchT m l))) [] := by
  have H := get_h m.attr l hn hb
  have hbag := getS_mem (a := m.attr) (g := l) (Q := fun b => b.length ≤ 1000000) (Nat.zero_le _) hb
  have hfit := getS_mem (a := m.attr) (g := l) (Q := fun b => ∀ v ∈ b, v.Fit) (fun v hv => by cases hv) fun x hx => (hf x hx).bag
  unfold matchT
  generalize getS m.attr l = r at *
  obtain ⟨bag, e⟩ := r
  simp only at H hbag hfit ⊢
  have lb : (bag.map Val.pv).length = bag.length := by simp
  refine qA (ts := [4]) Tryz.func37 (by kernel_rfl) rfl rfl rfl ?_
  (repeat refine qb ?_); refine qa ?_
  repeat (first | refine zR ?_ | refine zK ?_ | refine zM ?_ | refine zB ?_ | refine zA ?_ | refine zS ?_ | refine zL ?_)
  refine qc ?_
  (repeat refine qb ?_); refine qa ?_
  repeat (first | refine zR ?_ | refine zK ?_ | refine zM ?_ | refine zB ?_ | refine zA ?_ | refine zS ?_ | refine zL ?_)
  refine qn rfl (qD rfl rfl rfl rfl (H) rfl rfl rfl ?_)
  repeat (first | refine zR ?_ | refine zK ?_ | refine zM ?_ | refine zB ?_ | refine zA ?_ | refine zS ?_ | refine zL ?_)
  refine qc ?_
  (repeat refine qb ?_); refine qa ?_
  repeat (first | refine zR ?_ | refine zK ?_ | refine zM ?_ | refine zB ?_ | refine zA ?_ | refine zS ?_ | refine zL ?_)
  refine qc ?_
  (repeat refine qb ?_); refine qf rfl (fun he => ?_) (fun he => ?_)
  · have he' : e ≠ 0 := by simpa using he
    rw [if_pos he']
    (repeat refine qb ?_); refine qa ?_
    repeat (first | refine zR ?_ | refine zK ?_ | refine zM ?_ | refine zB ?_ | refine zA ?_ | refine zS ?_ | refine zL ?_)
    refine qc ?_
    (repeat refine qb ?_); refine qk ?_
    exact zg rfl rfl
  have he' : ¬ e ≠ 0 := by simpa using he
  rw [if_neg he']
  refine qm ?_
  (repeat refine qb ?_); refine qa ?_
  repeat (first | refine zR ?_ | refine zK ?_ | refine zM ?_ | refine zB ?_ | refine zA ?_ | refine zS ?_ | refine zL ?_)
  refine qc ?_
  (repeat refine qb ?_); refine qa ?_
  repeat (first | refine zR ?_ | refine zK ?_ | refine zM ?_ | refine zB ?_ | refine zA ?_ | refine zS ?_ | refine zL ?_)
  refine qc ?_
  (repeat refine qb ?_); refine ql ?_
  refine SW.wk (qq [2, 7, 21, 22, 23] [(2, 2)] rfl rfl) ?_
  refine qO (fun n s => ∃ (k : Nat) (kk o : Int), k ≤ bag.length ∧ n = bag.length - k ∧ kk = k ∧ o = (if (bag.take k).any (badT m) then 1 else 0) ∧ (bag.take k).any (okT m) = false ∧ s = ⟨38, [(2, .ptr 2 0), (7, .p (pI o)), (21, .p (valsP bag)), (22, .p (pI (bag.map Val.pv).length)), (23, .p (pI kk))], [(2, .cells (m.pv.map .p))]⟩) bag.length ⟨0, 0, 0, Nat.zero_le _, rfl, rfl, rfl, rfl, rfl⟩ ?_
  rintro n s ⟨k, _, o, hk, rfl, rfl, ho, ha, rfl⟩
  (repeat refine qb ?_); refine qa ?_
  repeat (first | refine zR ?_ | refine zK ?_ | refine zM ?_ | refine zB ?_ | refine zA ?_ | refine zS ?_ | refine zL ?_)
  refine qc ?_
  (repeat refine qb ?_); refine qf rfl (fun hlt => ?_) (fun hlt => ?_)
  · refine qm ?_
    rw [lb] at hlt
    simp only [decide_eq_true_eq] at hlt
    have hlt' : k < bag.length := by omega
    have a1 := any_take (p := okT m) hlt'
    have a2 := any_take (p := badT m) hlt'
    have a3 : okT m bag[k] = true → bag.any (okT m) = true := fun h => List.any_eq_true.2 ⟨_, List.getElem_mem hlt', h⟩
    have H2 := against_h m bag[k] hm.val.s (hfit _ (List.getElem_mem hlt')).s
    (repeat refine qb ?_); refine ql ?_
    (repeat refine qb ?_); refine qa ?_
    repeat (first | refine zR ?_ | refine zK ?_ | refine zM ?_ | refine zB ?_ | refine zA ?_ | refine zS ?_ | refine zL ?_)
    refine qw qe rfl rfl (by rw [lb]; omega) rfl ?_
    rw [qJ hlt']
    repeat (first | refine zR ?_ | refine zK ?_ | refine zM ?_ | refine zB ?_ | refine zA ?_ | refine zS ?_ | refine zL ?_)
    refine qc ?_
    (repeat refine qb ?_); refine qa ?_
    repeat (first | refine zR ?_ | refine zK ?_ | refine zM ?_ | refine zB ?_ | refine zA ?_ | refine zS ?_ | refine zL ?_)
    refine qn rfl (qg rfl rfl rfl rfl (H2) rfl rfl ?_)
    repeat (first | refine zR ?_ | refine zK ?_ | refine zM ?_ | refine zB ?_ | refine zA ?_ | refine zS ?_ | refine zL ?_)
    refine qc ?_
    (repeat refine qb ?_); refine qa ?_
    repeat (first | refine zR ?_ | refine zK ?_ | refine zM ?_ | refine zB ?_ | refine zA ?_ | refine zS ?_ | refine zL ?_)
    refine qc ?_
    (repeat refine qb ?_); refine qf rfl (fun hp => ?_) (fun hp => ?_)
    · rw [if_pos (a3 hp)]
      (repeat refine qb ?_); refine qa ?_
      repeat (first | refine zR ?_ | refine zK ?_ | refine zM ?_ | refine zB ?_ | refine zA ?_ | refine zS ?_ | refine zL ?_)
      refine qc ?_
      (repeat refine qb ?_); refine qk ?_
      exact zg rfl rfl
    have hp' : okT m bag[k] = false := hp
    refine qm ?_
    (repeat refine qb ?_); refine qa ?_
    repeat (first | refine zR ?_ | refine zK ?_ | refine zM ?_ | refine zB ?_ | refine zA ?_ | refine zS ?_ | refine zL ?_)
    refine qc ?_
    (repeat refine qb ?_); refine qf rfl (fun hq => ?_) (fun hq => ?_)
    · have hq' : badT m bag[k] = true := by unfold badT; simpa using hq
      (repeat refine qb ?_); refine qa ?_
      repeat (first | refine zR ?_ | refine zK ?_ | refine zM ?_ | refine zB ?_ | refine zA ?_ | refine zS ?_ | refine zL ?_)
      refine qc ?_
      (repeat refine qb ?_); refine qa ?_
      repeat (first | refine zR ?_ | refine zK ?_ | refine zM ?_ | refine zB ?_ | refine zA ?_ | refine zS ?_ | refine zL ?_)
      refine qc ?_
      refine ⟨_, _, ?_, qq [2, 7, 21, 22, 23] [(2, 2)] rfl rfl, k + 1, _, 1, hlt', rfl, qz hlt' (by omega), ?_, ?_, rfl⟩
      · omega
      · rw [a2, hq', Bool.or_true, if_pos rfl]
      · rw [a1, ha, hp']; rfl
    · have hq' : badT m bag[k] = false := by unfold badT; simpa using hq
      refine qm ?_
      (repeat refine qb ?_); refine qa ?_
      repeat (first | refine zR ?_ | refine zK ?_ | refine zM ?_ | refine zB ?_ | refine zA ?_ | refine zS ?_ | refine zL ?_)
      refine qc ?_
      refine ⟨_, _, ?_, qq [2, 7, 21, 22, 23] [(2, 2)] rfl rfl, k + 1, _, o, hlt', rfl, qz hlt' (by omega), ?_, ?_, rfl⟩
      · omega
      · rw [a2, hq', Bool.or_false]; exact ho
      · rw [a1, ha, hp']; rfl
  · refine qK ?_
    rw [lb] at hlt
    simp only [decide_eq_false_iff_not] at hlt
    have hkk : k = bag.length := by omega
    subst hkk
    rw [List.take_length] at ho ha
    rw [ha, if_neg (by simp), ← ho]
    (repeat refine qb ?_); refine qa ?_
    repeat (first | refine zR ?_ | refine zK ?_ | refine zM ?_ | refine zB ?_ | refine zA ?_ | refine zS ?_ | refine zL ?_)
    refine qc ?_
    (repeat refine qb ?_); refine qk ?_
    exact zg rfl rfl
theorem min_int (a b : Int) : (if b < a then b else a) = min a b := by
  split <;> omega
theorem max_int (a b : Int) : (if a < b then b else a) = max a b := by
  split <;> omega
theorem allTT_take {l : List Mat} {g : List Giv} {k : Nat} (h : k < l.length) : min (allTT (l.take k) g) (matchT l[k] g) = allTT (l.take (k + 1)) g := by
  unfold allTT
  rw [List.take_succ_eq_append_getElem h, List.foldl_append]; rfl
theorem anyTT_take {l : List (List Mat)} {g : List Giv} {k : Nat} (h : k < l.length) : max (anyTT (l.take k) g) (allTT l[k] g) = anyTT (l.take (k + 1)) g := by
  unfold anyTT
  rw [List.take_succ_eq_append_getElem h, List.foldl_append]; rfl
theorem metT_take {l : Tar} {g : List Giv} {k : Nat} (h : k < l.length) : min (metT (l.take k) g) (anyTT l[k] g) = metT (l.take (k + 1)) g := by
  unfold metT
  rw [List.take_succ_eq_append_getElem h, List.foldl_append]; rfl
theorem allT_h (l : List Mat) (g : List Giv) (hm : ∀ m ∈ l, m.Fit) (hl : l.length ≤ 1000000) (hf : ∀ x ∈ g, x.Fit) (hn : g.length ≤ 1000000) (hb : ∀ x ∈ g, x.bag.length ≤ 1000000) : Holds Tryz.prog 52 [matsP l, zP g] (.p (pI (allTT l g))) [] := by
  have lm : (l.map Mat.pv).length = l.length := by simp
  refine qA (ts := [4]) Tryz.func52 (by kernel_rfl) rfl rfl rfl ?_
  (repeat refine qb ?_); refine qa ?_
  repeat (first | refine zR ?_ | refine zK ?_ | refine zM ?_ | refine zB ?_ | refine zA ?_ | refine zS ?_ | refine zL ?_)
  refine qc ?_
  (repeat refine qb ?_); refine qa ?_
  repeat (first | refine zR ?_ | refine zK ?_ | refine zM ?_ | refine zB ?_ | refine zA ?_ | refine zS ?_ | refine zL ?_)
  refine qc ?_
  (repeat refine qb ?_); refine qa ?_
  repeat (first | refine zR ?_ | refine zK ?_ | refine zM ?_ | refine zB ?_ | refine zA ?_ | refine zS ?_ | refine zL ?_)
  refine qc ?_
  (repeat refine qb ?_); refine ql ?_
  refine SW.wk (qq [1, 5, 8, 9, 10] [] rfl rfl) ?_
  refine qO (fun n s => ∃ (k : Nat) (kk o : Int), k ≤ l.length ∧ n = l.length - k ∧ kk = k ∧ o = allTT (l.take k) g ∧ s = ⟨21, [(1, .p (zP g)), (5, .p (pI o)), (8, .p (matsP l)), (9, .p (pI (l.map Mat.pv).length)), (10, .p (pI kk))], []⟩) l.length ⟨0, 0, 2, Nat.zero_le _, rfl, rfl, rfl, rfl⟩ ?_
  rintro n s ⟨k, _, o, hk, rfl, rfl, ho, rfl⟩
  (repeat refine qb ?_); refine qa ?_
  repeat (first | refine zR ?_ | refine zK ?_ | refine zM ?_ | refine zB ?_ | refine zA ?_ | refine zS ?_ | refine zL ?_)
  refine qc ?_
  (repeat refine qb ?_); refine qf rfl (fun hlt => ?_) (fun hlt => ?_)
  · refine qm ?_
    rw [lm] at hlt
    simp only [decide_eq_true_eq] at hlt
    have hlt' : k < l.length := by omega
    have H := match2_h l[k] g (hm _ (List.getElem_mem hlt')) hf hn hb
    have hs := allTT_take (g := g) hlt'
    (repeat refine qb ?_); refine ql ?_
    (repeat refine qb ?_); refine qa ?_
    repeat (first | refine zR ?_ | refine zK ?_ | refine zM ?_ | refine zB ?_ | refine zA ?_ | refine zS ?_ | refine zL ?_)
    refine qw qe rfl rfl (by rw [lm]; omega) rfl ?_
    rw [qJ hlt']
    repeat (first | refine zR ?_ | refine zK ?_ | refine zM ?_ | refine zB ?_ | refine zA ?_ | refine zS ?_ | refine zL ?_)
    refine qc ?_
    (repeat refine qb ?_); refine qa ?_
    repeat (first | refine zR ?_ | refine zK ?_ | refine zM ?_ | refine zB ?_ | refine zA ?_ | refine zS ?_ | refine zL ?_)
    refine qn rfl (qg rfl rfl rfl rfl (H) rfl rfl ?_)
    repeat (first | refine zR ?_ | refine zK ?_ | refine zM ?_ | refine zB ?_ | refine zA ?_ | refine zS ?_ | refine zL ?_)
    refine qc ?_
    (repeat refine qb ?_); refine qa ?_
    repeat (first | refine zR ?_ | refine zK ?_ | refine zM ?_ | refine zB ?_ | refine zA ?_ | refine zS ?_ | refine zL ?_)
    refine qc ?_
    refine ⟨_, _, ?_, qq [1, 5, 8, 9, 10] [] rfl rfl, k + 1, _, _, hlt', rfl, qz hlt' (by omega), ?_, rfl⟩
    · omega
    · rw [← hs, ← ho]
      dsimp only; split <;> omega
  · refine qK ?_
    rw [lm] at hlt
    simp only [decide_eq_false_iff_not] at hlt
    have hkk : k = l.length := by omega
    subst hkk
    rw [List.take_length] at ho
    rw [← ho]
    (repeat refine qb ?_); refine qa ?_
    repeat (first | refine zR ?_ | refine zK ?_ | refine zM ?_ | refine zB ?_ | refine zA ?_ | refine zS ?_ | refine zL ?_)
    refine qc ?_
    (repeat refine qb ?_); refine qk ?_
    exact zg rfl rfl
def TarSm (t : Tar) : Prop := t.length ≤ 1000000 ∧ ∀ x ∈ t, x.length ≤ 1000000 ∧ ∀ y ∈ x, y.length ≤ 1000000
theorem metT_h (t : Tar) (g : List Giv) (hm : ∀ x ∈ t, ∀ y ∈ x, ∀ m ∈ y, m.Fit) (hl : TarSm t) (hf : ∀ x ∈ g, x.Fit) (hn : g.length ≤ 1000000) (hb : ∀ x ∈ g, x.bag.length ≤ 1000000) : Holds Tryz.prog 28 [tgtP t, zP g] (.p (pI (metT t g))) [] := by
  have lt : (t.map fun x => [anyP x]).length = t.length := by simp
  have ht0 := hl.1
  refine qA (ts := [4]) Tryz.func28 (by kernel_rfl) rfl rfl rfl ?_
  (repeat refine qb ?_); refine qa ?_
  repeat (first | refine zR ?_ | refine zK ?_ | refine zM ?_ | refine zB ?_ | refine zA ?_ | refine zS ?_ | refine zL ?_)
  refine qc ?_
  (repeat refine qb ?_); refine qa ?_
  repeat (first | refine zR ?_ | refine zK ?_ | refine zM ?_ | refine zB ?_ | refine zA ?_ | refine zS ?_ | refine zL ?_)
  refine qc ?_
  (repeat refine qb ?_); refine qa ?_
  repeat (first | refine zR ?_ | refine zK ?_ | refine zM ?_ | refine zB ?_ | refine zA ?_ | refine zS ?_ | refine zL ?_)
  refine qc ?_
  (repeat refine qb ?_); refine ql ?_
  refine SW.wk (qq [1, 5, 11, 12, 13] [] rfl rfl) ?_
  refine qO (fun n s => ∃ (k : Nat) (kk o : Int), k ≤ t.length ∧ n = t.length - k ∧ kk = k ∧ o = metT (t.take k) g ∧ s = ⟨34, [(1, .p (zP g)), (5, .p (pI o)), (11, .p (tgtP t)), (12, .p (pI (t.map fun x => [anyP x]).length)), (13, .p (pI kk))], []⟩) t.length ⟨0, 0, 2, Nat.zero_le _, rfl, rfl, rfl, rfl⟩ ?_
  rintro n s ⟨k, _, o, hk, rfl, rfl, ho, rfl⟩
  (repeat refine qb ?_); refine qa ?_
  repeat (first | refine zR ?_ | refine zK ?_ | refine zM ?_ | refine zB ?_ | refine zA ?_ | refine zS ?_ | refine zL ?_)
  refine qc ?_
  (repeat refine qb ?_); refine qf rfl (fun hlt => ?_) (fun hlt => ?_)
  · refine qm ?_
    rw [lt] at hlt
    simp only [decide_eq_true_eq] at hlt
    have hlt' : k < t.length := by omega
    have hs := metT_take (g := g) hlt'
    have hxl := hl.2 _ (List.getElem_mem hlt')
    have hxm := hm _ (List.getElem_mem hlt')
    (repeat refine qb ?_); refine ql ?_
    (repeat refine qb ?_); refine qa ?_
    repeat (first | refine zR ?_ | refine zK ?_ | refine zM ?_ | refine zB ?_ | refine zA ?_ | refine zS ?_ | refine zL ?_)
    refine qw qe rfl rfl (by rw [lt]; omega) rfl ?_
    rw [qJ hlt']
    repeat (first | refine zR ?_ | refine zK ?_ | refine zM ?_ | refine zB ?_ | refine zA ?_ | refine zS ?_ | refine zL ?_)
    refine qc ?_
    generalize t[k] = x at *
    have lx : (x.map fun y => [matsP y]).length = x.length := by simp
    have hx0 := hxl.1
    (repeat refine qb ?_); refine qa ?_
    repeat (first | refine zR ?_ | refine zK ?_ | refine zM ?_ | refine zB ?_ | refine zA ?_ | refine zS ?_ | refine zL ?_)
    refine qc ?_
    (repeat refine qb ?_); refine qa ?_
    repeat (first | refine zR ?_ | refine zK ?_ | refine zM ?_ | refine zB ?_ | refine zA ?_ | refine zS ?_ | refine zL ?_)
    refine qc ?_
    (repeat refine qb ?_); refine ql ?_
    refine SW.wk (qq [1, 5, 8, 11, 12, 13, 17, 18, 19] [] rfl rfl) ?_
    refine qO (fun n s => ∃ (j : Nat) (jj b : Int), j ≤ x.length ∧ n = x.length - j ∧ jj = j ∧ b = anyTT (x.take j) g ∧ s = ⟨34, [(1, .p (zP g)), (5, .p (pI o)), (8, .p (pI b)), (11, .p (tgtP t)), (12, .p (pI (t.map fun x => [anyP x]).length)), (13, .p (pI k)), (17, .p (anyP x)), (18, .p (pI (x.map fun y => [matsP y]).length)), (19, .p (pI jj))], []⟩) x.length ⟨0, 0, 0, Nat.zero_le _, rfl, rfl, rfl, rfl⟩ ?_
    rintro n s ⟨j, _, b, hj, rfl, rfl, hbb, rfl⟩
    (repeat refine qb ?_); refine qa ?_
    repeat (first | refine zR ?_ | refine zK ?_ | refine zM ?_ | refine zB ?_ | refine zA ?_ | refine zS ?_ | refine zL ?_)
    refine qc ?_
    (repeat refine qb ?_); refine qf rfl (fun hlj => ?_) (fun hlj => ?_)
    · refine qm ?_
      rw [lx] at hlj
      simp only [decide_eq_true_eq] at hlj
      have hlj' : j < x.length := by omega
      have hs2 := anyTT_take (g := g) hlj'
      have H := allT_h x[j] g (hxm _ (List.getElem_mem hlj')) (hxl.2 _ (List.getElem_mem hlj')) hf hn hb
      (repeat refine qb ?_); refine ql ?_
      (repeat refine qb ?_); refine qa ?_
      repeat (first | refine zR ?_ | refine zK ?_ | refine zM ?_ | refine zB ?_ | refine zA ?_ | refine zS ?_ | refine zL ?_)
      refine qw qe rfl rfl (by rw [lx]; omega) rfl ?_
      rw [qJ hlj']
      repeat (first | refine zR ?_ | refine zK ?_ | refine zM ?_ | refine zB ?_ | refine zA ?_ | refine zS ?_ | refine zL ?_)
      refine qc ?_
      (repeat refine qb ?_); refine qa ?_
      repeat (first | refine zR ?_ | refine zK ?_ | refine zM ?_ | refine zB ?_ | refine zA ?_ | refine zS ?_ | refine zL ?_)
      refine qn rfl (qg rfl rfl rfl rfl (H) rfl rfl ?_)
      repeat (first | refine zR ?_ | refine zK ?_ | refine zM ?_ | refine zB ?_ | refine zA ?_ | refine zS ?_ | refine zL ?_)
      refine qc ?_
      (repeat refine qb ?_); refine qa ?_
      repeat (first | refine zR ?_ | refine zK ?_ | refine zM ?_ | refine zB ?_ | refine zA ?_ | refine zS ?_ | refine zL ?_)
      refine qc ?_
      refine ⟨_, _, ?_, qq [1, 5, 8, 11, 12, 13, 17, 18, 19] [] rfl rfl, j + 1, _, _, hlj', rfl, qz hlj' (by omega), ?_, rfl⟩
      · omega
      · rw [← hs2, ← hbb]
        dsimp only; split <;> omega
    · refine qK ?_
      rw [lx] at hlj
      simp only [decide_eq_false_iff_not] at hlj
      have hjj : j = x.length := by omega
      subst hjj
      rw [List.take_length] at hbb
      (repeat refine qb ?_); refine qa ?_
      repeat (first | refine zR ?_ | refine zK ?_ | refine zM ?_ | refine zB ?_ | refine zA ?_ | refine zS ?_ | refine zL ?_)
      refine qc ?_
      (repeat refine qb ?_); refine qa ?_
      repeat (first | refine zR ?_ | refine zK ?_ | refine zM ?_ | refine zB ?_ | refine zA ?_ | refine zS ?_ | refine zL ?_)
      refine qc ?_
      refine ⟨_, _, ?_, qq [1, 5, 11, 12, 13] [] rfl rfl, k + 1, _, _, hlt', rfl, qz hlt' (by omega), ?_, rfl⟩
      · omega
      · rw [← hs, ← ho, ← hbb]
        dsimp only; split <;> omega
  · refine qK ?_
    rw [lt] at hlt
    simp only [decide_eq_false_iff_not] at hlt
    have hkk : k = t.length := by omega
    subst hkk
    rw [List.take_length] at ho
    rw [← ho]
    (repeat refine qb ?_); refine qa ?_
    repeat (first | refine zR ?_ | refine zK ?_ | refine zM ?_ | refine zB ?_ | refine zA ?_ | refine zS ?_ | refine zL ?_)
    refine qc ?_
    (repeat refine qb ?_); refine qk ?_
    exact zg rfl rfl
structure GivOk (g : List Giv) : Prop where
  fit : ∀ x ∈ g, x.Fit
  len : g.length ≤ 1000000
  bags : ∀ x ∈ g, x.bag.length ≤ 1000000
end Go.Proofs.YtppfcacnofjmdaaGreatDoor
namespace Go.Proofs.YtppfcacnofjmdaaGreatDoor
set_option linter.unusedVariables false
set_option linter.unusedSimpArgs false
open Go.RowKit
abbrev nilV : PV := .v (.slice none 0 0)
inductive Cv : PV → PV → Prop
  | refl (p : PV) : Cv p p
  | nil (z : Nat) : Cv (.v (.slice none 0 0)) (.sl z [])
  | agg {cs ds : List PV} (hl : cs.length = ds.length) (h : ∀ (i : Nat) (c d : PV), cs[i]? = some c → ds[i]? = some d → Cv c d) : Cv (.agg cs) (.agg ds)
  | sl {z : Nat} {l m : List (List PV)} (hl : l.length = m.length) (he : ∀ (i : Nat) (e f : List PV), l[i]? = some e → m[i]? = some f → e.length = f.length) (h : ∀ (i j : Nat) (e f : List PV) (c d : PV), l[i]? = some e → m[i]? = some f → e[j]? = some c → f[j]? = some d → Cv c d) : Cv (.sl z l) (.sl z m)
def CvL (cs ds : List PV) : Prop := cs.length = ds.length ∧ ∀ (i : Nat) (c d : PV), cs[i]? = some c → ds[i]? = some d → Cv c d
theorem CvL.nil : CvL [] [] := ⟨rfl, fun i c d h => by simp at h⟩
theorem CvL.cons {c d : PV} {cs ds : List PV} (h : Cv c d) (t : CvL cs ds) : CvL (c :: cs) (d :: ds) := ⟨by simp [t.1], fun i x y hx hy => by
  cases i with
  | zero => simp at hx hy; subst hx; subst hy; exact h
  | succ i => exact t.2 i x y (by simpa using hx) (by simpa using hy)⟩
theorem CvL.refl (l : List PV) : CvL l l := ⟨rfl, fun i c d h1 h2 => by rw [h1] at h2; cases h2; exact .refl _⟩
theorem CvL.agg {cs ds : List PV} (h : CvL cs ds) : Cv (.agg cs) (.agg ds) := .agg h.1 h.2
def CvM (l m : List (List PV)) : Prop := l.length = m.length ∧ ∀ (i : Nat) (e f : List PV), l[i]? = some e → m[i]? = some f → CvL e f
theorem CvM.nil : CvM [] [] := ⟨rfl, fun i c d h => by simp at h⟩
theorem CvM.cons {c d : List PV} {cs ds : List (List PV)} (h : CvL c d) (t : CvM cs ds) : CvM (c :: cs) (d :: ds) := ⟨by simp [t.1], fun i x y hx hy => by
  cases i with
  | zero => simp at hx hy; subst hx; subst hy; exact h
  | succ i => exact t.2 i x y (by simpa using hx) (by simpa using hy)⟩
theorem CvM.sl {z : Nat} {l m : List (List PV)} (h : CvM l m) : Cv (.sl z l) (.sl z m) := .sl h.1 (fun i e f h1 h2 => (h.2 i e f h1 h2).1) fun i j e f c d h1 h2 h3 h4 => (h.2 i e f h1 h2).2 j c d h3 h4
theorem Cv.one {p q : PV} (h : Cv p q) : oneP q = oneP p := by
  cases h <;> rfl
theorem RelP.cv {ok : Nat → Prop} {w : World} {p q : PV} (hc : Cv p q) : ∀ {u : Value}, RelP ok w p u → RelP ok w q u := by
  induction hc with
  | refl => exact fun h => h
  | nil z =>
    intro u h
    cases h
    exact .sl (l := []) (Nat.zero_le _) ⟨Nat.zero_le _, Nat.zero_le _⟩ (by simp) (fun h => absurd h (by simp)) (fun b o i j h => by cases h) (fun b o i j e s u h => by cases h)
  | agg hl h ih =>
    intro u hr
    cases hr with
    | @agg _ us hl2 hr =>
      refine .agg (by omega) fun i s u hs hu => ?_
      have hi : i < us.length := (List.getElem?_eq_some_iff.1 hu).1
      exact ih i _ s (List.getElem?_eq_getElem (by omega)) hs (hr i _ u (List.getElem?_eq_getElem (by omega)) hu)
  | @sl z l m hl he h ih =>
    intro u hr
    cases hr with
    | @sl _ _ A c hc hm hle hA hx hr =>
      rw [hl] at hc hm ⊢
      refine .sl hc hm (fun e hem => ?_) (fun h => hA (by omega)) (fun b o i j hAb hi hj => hx b o i j hAb (by omega) hj) (fun b o i j e s u hAb hi hj hu => ?_)
      · obtain ⟨i, hi, rfl⟩ := List.mem_iff_getElem.1 hem
        have hl0 : l[i]? = some (l[i]'(by omega)) := List.getElem?_eq_getElem (by omega)
        have hm0 : m[i]? = some m[i] := List.getElem?_eq_getElem hi
        obtain ⟨q1, q2⟩ := hle _ (List.getElem_mem (show i < l.length by omega))
        have q3 := he i _ _ hl0 hm0
        refine ⟨by omega, fun s hs => ?_⟩
        obtain ⟨j, hj, rfl⟩ := List.mem_iff_getElem.1 hs
        have := (h i j _ _ _ _ hl0 hm0 (List.getElem?_eq_getElem (by omega)) (List.getElem?_eq_getElem hj)).one
        rw [this]
        exact q2 _ (List.getElem_mem _)
      · have hi' : i < m.length := (List.getElem?_eq_some_iff.1 hi).1
        have hl0 : l[i]? = some (l[i]'(by omega)) := List.getElem?_eq_getElem (by omega)
        have q3 := he i _ _ hl0 hi
        have hj' : j < e.length := (List.getElem?_eq_some_iff.1 hj).1
        exact ih i j _ _ _ _ hl0 hi (List.getElem?_eq_getElem (by omega)) hj (hr b o i j _ _ u hAb hl0 (List.getElem?_eq_getElem (by omega)) hu)
theorem Holds.cv {P : Program} {f : FuncId} {args args' : List PV} {r : SV} {own : List (Nat × Box)} (h : Holds P f args r own) (hc : CvL args' args) : Holds P f args' r own :=
  ⟨h.1, fun w Sx vs hSx hl hr => h.2 w Sx vs hSx (by rw [hl, hc.1]) fun i s u hs hu => by
    have hi : i < args.length := (List.getElem?_eq_some_iff.1 hs).1
    have h0 : args'[i]? = some (args'[i]'(by rw [hc.1]; exact hi)) := List.getElem?_eq_getElem _
    exact (hr i _ u h0 hu).cv (hc.2 i _ s h0 hs)⟩
theorem Holds.res {P : Program} {f : FuncId} {args : List PV} {r r' : SV} {own : List (Nat × Box)} (h : Holds P f args r own) (e : r = r') : Holds P f args r' own := e ▸ h
end Go.Proofs.YtppfcacnofjmdaaGreatDoor
namespace Go.Proofs.YtppfcacnofjmdaaGreatDoor
set_option linter.unusedVariables false
set_option linter.unusedSimpArgs false
open Go.RowKit
inductive CvS : SV → SV → Prop
  | refl (s : SV) : CvS s s
  | p {a b : PV} (h : Cv a b) : CvS (.p a) (.p b)
  | two {a b c d : PV} (h : Cv a b) (h2 : Cv c d) : CvS (.tup [.p a, .p c]) (.tup [.p b, .p d])
theorem RelS.cvs {ok : Nat → Prop} {H : Nat → Option Value} {w : World} {s s' : SV} {u : Value} (hc : CvS s s') (h : RelS ok H w s u) : RelS ok H w s' u := by
  cases hc with
  | refl => exact h
  | p hc => exact .p (h.p_inv.cv hc)
  | two h1 h2 =>
    cases h with
    | @tup _ us hl hr =>
      refine .tup hl fun i s u hs hu => ?_
      match i, hs with
      | 0, hs => cases hs; exact .p ((hr 0 _ u rfl hu).p_inv.cv h1)
      | 1, hs => cases hs; exact .p ((hr 1 _ u rfl hu).p_inv.cv h2)
def FinC (T : TT) (rs : List ResultVar) (r : SV) (own' : List (Nat × Box)) (e : SEx) (st : St) : Prop := (e = .normal ∨ e = .ret) ∧ ∃ st' s ρ r0, Wk st st' ∧ resC T st' rs = some s ∧ s.mapR ρ = some r0 ∧ CvS r0 r ∧ ownR ρ st'.own ρ = some own' ∧ renOk ρ = true
theorem qR {P : Program} {T : TT} (hT : zh P T) {f : FuncId} {fn : Func} {c : Code} {args : List SV} {own : List (Nat × Box)} {r : SV} {own' : List (Nat × Box)} {rs : List ResultVar} (hf : P.funcs[f]? = some fn) (hname : (fn.name == "runtime.NumGoroutine") = false) (hb : fn.body = some c)
    (hres : fn.results = rs.toArray) (hn0 : (Nat.ble args.length fn.ntmps && Nat.ble fn.ntmps 900) = true) (h : SW P c (FinC T rs r own') ⟨fn.ntmps, jN 0 args, own⟩) : zZ P f args own r own' := by
  have hn : args.length ≤ fn.ntmps ∧ fn.ntmps ≤ 900 := by
    rw [Bool.and_eq_true] at hn0
    exact ⟨Nat.le_of_ble_eq_true hn0.1, Nat.le_of_ble_eq_true hn0.2⟩
  refine ⟨⟨fn, hf, hname, by rw [hb]; rfl⟩, fun w Sx γ vs hh hl hr => ?_⟩
  refine calls_of_wp hf hb ?_
  have hget : ∀ t, t < args.length → (vs.toArray ++ Array.replicate (fn.ntmps - vs.toArray.size) undef).getD t undef = vs[t]?.getD undef := fun t ht => by
    have : t < vs.length := by omega
    have h2 : (vs.toArray ++ Array.replicate (fn.ntmps - vs.toArray.size) undef)[t]? = vs[t]? := by
      rw [Array.getElem?_append_left (by simpa using this)]; simp
    rw [Array.getD_eq_getD_getElem?, h2]
  have hI : Sim (jX w γ own) Sx γ ⟨fn.ntmps, jN 0 args, own⟩ ⟨vs.toArray ++ Array.replicate (fn.ntmps - vs.toArray.size) undef, []⟩ w := by
    refine ⟨⟨Below.refl _ w, fun _ _ => rfl⟩, ⟨by simp; omega, hn.2⟩, rfl, fun t s ht => ?_, hh⟩
    obtain ⟨_, hx⟩ := argFrS_get ht
    simp only [Nat.sub_zero] at hx
    have hlt : t < args.length := (List.getElem?_eq_some_iff.1 hx).1
    have hv : vs[t]? = some (vs[t]'(by omega)) := List.getElem?_eq_getElem (by omega)
    show RelS _ _ _ _ ((vs.toArray ++ Array.replicate (fn.ntmps - vs.toArray.size) undef).getD t undef)
    rw [hget t hlt, hv]
    exact hr t s _ hx hv
  refine h _ Sx _ _ w _ hI fun e st2 γ' a' w' hI' hq => ?_
  obtain ⟨he, st', s, ρ, r0, hwk, hs, hm, hcv, ho, hρ⟩ := hq
  obtain ⟨γ'', hI''⟩ := hwk _ Sx γ' a' w' hI'
  obtain ⟨γ3, k1, k2⟩ := heap_mapR hI''.heap ho hρ
  obtain ⟨v, k3, k4⟩ := resC_ok hT hI'' hs hres
  have fin : a'.defers = [] ∧ ∃ v, (results fn a'.tmps).run P w' = .ok v w' ∧ ∃ v' γ2 r1 own1, (r1 = r ∧ own1 = own') ∧ Ending.returned v = .returned v' ∧ BelowB (jX w γ own) w' ∧ HeapOk (jX w γ own) Sx γ2 own1 w' ∧ RelS (okO Sx γ2 own1) (hp γ2 own1) w' r1 v' :=
    ⟨hI''.defers, v, k3, v, γ3, r, own', ⟨rfl, rfl⟩, rfl, hI''.below, k1, (k2 s v r0 k4 hm).cvs hcv⟩
  rcases he with rfl | rfl
  · exact fin
  · exact fin
end Go.Proofs.YtppfcacnofjmdaaGreatDoor
namespace Go.Proofs.YtppfcacnofjmdaaGreatDoor
set_option linter.unusedVariables false
set_option linter.unusedSimpArgs false
open Go.RowKit
set_option maxHeartbeats 1000000
theorem idxV_h (l : List Val) (v : Val) (hn : l.length ≤ 1000000) : Holds Tryz.prog 144 [valsP l, .agg v.pv] (.p (pI (if l.findIdx (jh v) < l.length then (l.findIdx (jh v) : Int) else -1))) [] := by
  refine qA (ts := [4]) Tryz.func144 (by kernel_rfl) rfl rfl rfl ?_
  (repeat refine qb ?_); refine qa ?_
  repeat (first | refine zR ?_ | refine zK ?_ | refine zM ?_ | refine zB ?_ | refine zA ?_ | refine zS ?_ | refine zL ?_)
  refine qc ?_
  (repeat refine qb ?_); refine qa ?_
  repeat (first | refine zR ?_ | refine zK ?_ | refine zM ?_ | refine zB ?_ | refine zA ?_ | refine zS ?_ | refine zL ?_)
  refine qc ?_
  (repeat refine qb ?_); refine ql ?_
  refine SW.wk (qq [0, 3, 7, 8] [(3, 3)] rfl rfl) ?_
  refine qO (fun n s => ∃ (k : Nat) (kk : Int), k ≤ l.length ∧ n = l.length - k ∧ kk = k ∧ (∀ x ∈ l.take k, jh v x = false) ∧ s = ⟨19, [(0, .p (valsP l)), (3, .ptr 3 0), (7, .p (pI (l.map Val.pv).length)), (8, .p (pI kk))], [(3, .cells (v.pv.map .p))]⟩) l.length ⟨0, 0, Nat.zero_le _, rfl, rfl, by simp, rfl⟩ ?_
  rintro n s ⟨k, _, hk, rfl, rfl, ha, rfl⟩
  (repeat refine qb ?_); refine qa ?_
  repeat (first | refine zR ?_ | refine zK ?_ | refine zM ?_ | refine zB ?_ | refine zA ?_ | refine zS ?_ | refine zL ?_)
  refine qc ?_
  (repeat refine qb ?_); refine qf rfl (fun hlt => ?_) (fun hlt => ?_)
  · refine qm ?_
    simp only [List.length_map, decide_eq_true_eq] at hlt
    have hlt' : k < l.length := by omega
    (repeat refine qb ?_); refine ql ?_
    (repeat refine qb ?_); refine qa ?_
    repeat (first | refine zR ?_ | refine zK ?_ | refine zM ?_ | refine zB ?_ | refine zA ?_ | refine zS ?_ | refine zL ?_)
    refine qc ?_
    (repeat refine qb ?_); refine zl [] [(0, true), (1, true), (2, true), (3, true), (4, true), (5, true)] (by kernel_rfl) (by kernel_rfl) (by kernel_rfl) ?_
    repeat (first | refine yR ?_ | refine yK ?_ | refine yM ?_ | refine yB ?_ | refine yA ?_ | refine yS ?_ | refine yL ?_)
    refine zi qe rfl rfl rfl (by simp only [List.length_map]; omega) rfl ?_
    rw [qJ hlt']
    repeat (first | refine yR ?_ | refine yK ?_ | refine yM ?_ | refine yB ?_ | refine yA ?_ | refine yS ?_ | refine yL ?_)
    refine zi qe rfl rfl rfl (rfl) rfl ?_
    repeat (first | refine yR ?_ | refine yK ?_ | refine yM ?_ | refine yB ?_ | refine yA ?_ | refine yS ?_ | refine yL ?_)
    refine swm_nil ?_
    (repeat refine qb ?_); refine qf rfl (fun hp => ?_) (fun hp => ?_)
    · have hp' : jh v l[k] = true := by simpa [jh, beq_bytes2, and_assoc] using hp
      (repeat refine qb ?_); refine qa ?_
      repeat (first | refine zR ?_ | refine zK ?_ | refine zM ?_ | refine zB ?_ | refine zA ?_ | refine zS ?_ | refine zL ?_)
      refine qc ?_
      (repeat refine qb ?_); refine qk ?_
      refine zg rfl ?_
      have e : l.findIdx (jh v) = k := (List.findIdx_eq hlt').2 ⟨hp', fun j hj => ha _ (List.mem_take_iff_getElem.2 ⟨j, by omega, rfl⟩)⟩
      rw [e, if_pos hlt']
    · have hp' : jh v l[k] = false := by simpa [jh, beq_bytes2, and_assoc] using hp
      refine qm ?_
      (repeat refine qb ?_); refine qa ?_
      repeat (first | refine zR ?_ | refine zK ?_ | refine zM ?_ | refine zB ?_ | refine zA ?_ | refine zS ?_ | refine zL ?_)
      refine qc ?_
      refine ⟨_, _, ?_, qq [0, 3, 7, 8] [(3, 3)] rfl rfl, k + 1, _, hlt', rfl, qz hlt' (by omega), ?_, rfl⟩
      · omega
      · intro g hg
        rw [List.take_succ_eq_append_getElem hlt', List.mem_append, List.mem_singleton] at hg
        rcases hg with hg | rfl
        · exact ha g hg
        · exact hp'
  · refine qK ?_
    simp only [List.length_map, decide_eq_false_iff_not] at hlt
    have hkk : k = l.length := by omega
    subst hkk
    (repeat refine qb ?_); refine qa ?_
    repeat (first | refine zR ?_ | refine zK ?_ | refine zM ?_ | refine zB ?_ | refine zA ?_ | refine zS ?_ | refine zL ?_)
    refine qc ?_
    (repeat refine qb ?_); refine qk ?_
    refine zg rfl ?_
    rw [List.take_length] at ha
    rw [if_neg]
    have := List.findIdx_eq_length_of_false ha
    omega
theorem contains_h (l : List Val) (v : Val) (hn : l.length ≤ 1000000) : Holds Tryz.prog 115 [valsP l, .agg v.pv] (.p (pB (hasV l v))) [] := by
  refine qA (ts := [4]) Tryz.func115 (by kernel_rfl) rfl rfl rfl ?_
  (repeat refine qb ?_); refine qa ?_
  repeat (first | refine zR ?_ | refine zK ?_ | refine zM ?_ | refine zB ?_ | refine zA ?_ | refine zS ?_ | refine zL ?_)
  refine qc ?_
  (repeat refine qb ?_); refine qa ?_
  repeat (first | refine zR ?_ | refine zK ?_ | refine zM ?_ | refine zB ?_ | refine zA ?_ | refine zS ?_ | refine zL ?_)
  refine qn rfl (qg rfl rfl rfl rfl (idxV_h l v hn) rfl rfl ?_)
  repeat (first | refine zR ?_ | refine zK ?_ | refine zM ?_ | refine zB ?_ | refine zA ?_ | refine zS ?_ | refine zL ?_)
  refine qc ?_
  (repeat refine qb ?_); refine qk ?_
  refine wS rfl ?_
  unfold hasV
  by_cases h : l.findIdx (jh v) < l.length
  · rw [if_pos h]
    have : l.any (jh v) = true := List.any_eq_true.2 ⟨_, List.getElem_mem h, List.findIdx_getElem (w := h)⟩
    rw [show (l.any fun x => jh v x) = true from this]
    simp
  · rw [if_neg h]
    have h2 : ∀ x ∈ l, jh v x = false := List.findIdx_eq_length.1 (Nat.le_antisymm List.findIdx_le_length (by omega))
    rw [show (l.any fun x => jh v x) = false from List.any_eq_false.2 fun x hx => by simp [h2 x hx]]
    rfl
theorem has_h (l : List Val) (v : Val) (hn : l.length ≤ 1000000) : Holds Tryz.prog 91 [valsP l, .agg v.pv] (.p (pB (hasV l v))) [] := by
  refine qA (ts := [4]) Tryz.func91 (by kernel_rfl) rfl rfl rfl ?_
  (repeat refine qb ?_); refine qa ?_
  repeat (first | refine zR ?_ | refine zK ?_ | refine zM ?_ | refine zB ?_ | refine zA ?_ | refine zS ?_ | refine zL ?_)
  refine qc ?_
  (repeat refine qb ?_); refine qa ?_
  repeat (first | refine zR ?_ | refine zK ?_ | refine zM ?_ | refine zB ?_ | refine zA ?_ | refine zS ?_ | refine zL ?_)
  refine qn rfl (qg rfl rfl rfl rfl (contains_h l v hn) rfl rfl ?_)
  repeat (first | refine zR ?_ | refine zK ?_ | refine zM ?_ | refine zB ?_ | refine zA ?_ | refine zS ?_ | refine zL ?_)
  refine qc ?_
  (repeat refine qb ?_); refine qk ?_
  exact wS rfl rfl
end Go.Proofs.YtppfcacnofjmdaaGreatDoor
namespace Go.Proofs.YtppfcacnofjmdaaGreatDoor
set_option linter.unusedVariables false
set_option linter.unusedSimpArgs false
open Go.RowKit
set_option maxHeartbeats 2000000
theorem is_h (x : Itm) (n : Int) : Holds Tryz.prog 60 [.agg x.pv, pI n] (.p (pB (x.is n))) [] := by
  refine qA (ts := [4]) Tryz.func60 (by kernel_rfl) rfl rfl rfl ?_
  (repeat refine qb ?_); refine qa ?_
  repeat (first | refine zR ?_ | refine zK ?_ | refine zM ?_ | refine zB ?_ | refine zA ?_ | refine zS ?_ | refine zL ?_)
  refine qc ?_
  (repeat refine qb ?_); refine qs (by kernel_rfl) ?_
  repeat (refine qr qe rfl (by exact True.intro) rfl ?_)
  refine qr qe rfl (rfl) rfl ?_
  repeat (refine qr qe rfl (by exact True.intro) rfl ?_)
  refine qQ ?_
  (repeat refine qb ?_); refine qk ?_
  refine wS rfl ?_
  unfold Itm.is isT
  rw [Bool.eq_iff_iff]
  simp only [jh, beq_bytes2, Bool.cond_false_right, Bool.and_eq_true, beq_iff_eq, decide_eq_true_eq, and_assoc, and_true]
theorem operands_h (op : Int) : Holds Tryz.prog 74 [pI op] (.p (pI (qL op))) [] := by
  unfold qL
  refine qA (ts := [2]) Tryz.func74 (by kernel_rfl) rfl rfl rfl ?_
  (repeat refine qb ?_); refine qa ?_
  repeat (first | refine zR ?_ | refine zK ?_ | refine zM ?_ | refine zB ?_ | refine zA ?_ | refine zS ?_ | refine zL ?_)
  refine qc ?_
  (repeat refine qb ?_); refine qa ?_
  repeat (first | refine zR ?_ | refine zK ?_ | refine zM ?_ | refine zB ?_ | refine zA ?_ | refine zS ?_ | refine zL ?_)
  refine qc ?_
  (repeat refine qb ?_); refine ql ?_
  (repeat refine qb ?_); refine qa ?_
  repeat (first | refine zR ?_ | refine zK ?_ | refine zM ?_ | refine zB ?_ | refine zA ?_ | refine zS ?_ | refine zL ?_)
  refine qc ?_
  (repeat refine qb ?_); refine qf rfl (fun h1 => ?_) (fun h1 => ?_)
  · have e1 : op = 1 := by simpa using h1
    subst e1
    refine qm ?_
    (repeat refine qb ?_); refine qf rfl (fun h2 => ?_) (fun h2 => ?_)
    · (repeat refine qb ?_); refine qa ?_
      repeat (first | refine zR ?_ | refine zK ?_ | refine zM ?_ | refine zB ?_ | refine zA ?_ | refine zS ?_ | refine zL ?_)
      refine qc ?_
      (repeat refine qb ?_); refine qk ?_
      exact zg rfl rfl
    · cases h2
  · have n1 : ¬ op = 1 := by simpa using h1
    (repeat refine qb ?_); refine qa ?_
    repeat (first | refine zR ?_ | refine zK ?_ | refine zM ?_ | refine zB ?_ | refine zA ?_ | refine zS ?_ | refine zL ?_)
    refine qc ?_
    (repeat refine qb ?_); refine qf rfl (fun h2 => ?_) (fun h2 => ?_)
    · have e1 : op = 2 := by simpa using h2
      subst e1
      (repeat refine qb ?_); refine qa ?_
      repeat (first | refine zR ?_ | refine zK ?_ | refine zM ?_ | refine zB ?_ | refine zA ?_ | refine zS ?_ | refine zL ?_)
      refine qc ?_
      (repeat refine qb ?_); refine qk ?_
      exact zg rfl rfl
    · have n2 : ¬ op = 2 := by simpa using h2
      (repeat refine qb ?_); refine qa ?_
      repeat (first | refine zR ?_ | refine zK ?_ | refine zM ?_ | refine zB ?_ | refine zA ?_ | refine zS ?_ | refine zL ?_)
      refine qc ?_
      (repeat refine qb ?_); refine qf rfl (fun h3 => ?_) (fun h3 => ?_)
      · have e1 : op = 3 := by simpa using h3
        subst e1
        refine qm ?_
        (repeat refine qb ?_); refine qf rfl (fun h4 => ?_) (fun h4 => ?_)
        · (repeat refine qb ?_); refine qa ?_
          repeat (first | refine zR ?_ | refine zK ?_ | refine zM ?_ | refine zB ?_ | refine zA ?_ | refine zS ?_ | refine zL ?_)
          refine qc ?_
          (repeat refine qb ?_); refine qk ?_
          exact zg rfl rfl
        · cases h4
      · have n3 : ¬ op = 3 := by simpa using h3
        (repeat refine qb ?_); refine qa ?_
        repeat (first | refine zR ?_ | refine zK ?_ | refine zM ?_ | refine zB ?_ | refine zA ?_ | refine zS ?_ | refine zL ?_)
        refine qc ?_
        (repeat refine qb ?_); refine qf rfl (fun h4 => ?_) (fun h4 => ?_)
        · have e1 : op = 4 := by simpa using h4
          subst e1
          refine qm ?_
          (repeat refine qb ?_); refine qf rfl (fun h5 => ?_) (fun h5 => ?_)
          · (repeat refine qb ?_); refine qa ?_
            repeat (first | refine zR ?_ | refine zK ?_ | refine zM ?_ | refine zB ?_ | refine zA ?_ | refine zS ?_ | refine zL ?_)
            refine qc ?_
            (repeat refine qb ?_); refine qk ?_
            exact zg rfl rfl
          · cases h5
        · have n4 : ¬ op = 4 := by simpa using h4
          (repeat refine qb ?_); refine qa ?_
          repeat (first | refine zR ?_ | refine zK ?_ | refine zM ?_ | refine zB ?_ | refine zA ?_ | refine zS ?_ | refine zL ?_)
          refine qc ?_
          (repeat refine qb ?_); refine qf rfl (fun h5 => ?_) (fun h5 => ?_)
          · have e1 : op = 11 := by simpa using h5
            subst e1
            (repeat refine qb ?_); refine qa ?_
            repeat (first | refine zR ?_ | refine zK ?_ | refine zM ?_ | refine zB ?_ | refine zA ?_ | refine zS ?_ | refine zL ?_)
            refine qc ?_
            (repeat refine qb ?_); refine qk ?_
            exact zg rfl rfl
          · have n5 : ¬ op = 11 := by simpa using h5
            refine qm ?_
            (repeat refine qb ?_); refine qa ?_
            repeat (first | refine zR ?_ | refine zK ?_ | refine zM ?_ | refine zB ?_ | refine zA ?_ | refine zS ?_ | refine zL ?_)
            refine qc ?_
            (repeat refine qb ?_); refine qk ?_
            exact zg rfl (by rw [if_neg (by omega), if_neg (by omega)]; rfl)
theorem truth_h (b : Bool) : Holds Tryz.prog 90 [pB b] (.p (.agg (itmT b).pv)) [] := by
  refine .ofW ?_
  refine qR (T := TTab) qe Tryz.func90 (by kernel_rfl) rfl rfl rfl ?_
  (repeat refine qb ?_); refine qa ?_
  repeat (first | refine zR ?_ | refine zK ?_ | refine zM ?_ | refine zB ?_ | refine zA ?_ | refine zS ?_ | refine zL ?_)
  refine qc ?_
  (repeat refine qb ?_); refine qa ?_
  repeat (first | refine zR ?_ | refine zK ?_ | refine zM ?_ | refine zB ?_ | refine zA ?_ | refine zS ?_ | refine zL ?_)
  refine qc ?_
  (repeat refine qb ?_); refine qa ?_
  repeat (first | refine zR ?_ | refine zK ?_ | refine zM ?_ | refine zB ?_ | refine zA ?_ | refine zS ?_ | refine zL ?_)
  refine qc ?_
  cases b with
  | true =>
    (repeat refine qb ?_); refine qf rfl (fun h => ?_) (fun h => ?_)
    · (repeat refine qb ?_); refine qa ?_
      repeat (first | refine zR ?_ | refine zK ?_ | refine zM ?_ | refine zB ?_ | refine zA ?_ | refine zS ?_ | refine zL ?_)
      refine qc ?_
      (repeat refine qb ?_); refine qa ?_
      repeat (first | refine zR ?_ | refine zK ?_ | refine zM ?_ | refine zB ?_ | refine zA ?_ | refine zS ?_ | refine zL ?_)
      refine qc ?_
      (repeat refine qb ?_); refine qk ?_
      exact ⟨Or.inr rfl, _, _, [], _, Wk.refl _, rfl, rfl, .p (CvL.agg (.cons (.nil 3) (.refl _))), rfl, rfl⟩
    · cases h
  | false =>
    (repeat refine qb ?_); refine qf rfl (fun h => ?_) (fun h => ?_)
    · cases h
    · refine qm ?_
      (repeat refine qb ?_); refine qa ?_
      repeat (first | refine zR ?_ | refine zK ?_ | refine zM ?_ | refine zB ?_ | refine zA ?_ | refine zS ?_ | refine zL ?_)
      refine qc ?_
      (repeat refine qb ?_); refine qk ?_
      exact ⟨Or.inr rfl, _, _, [], _, Wk.refl _, rfl, rfl, .p (CvL.agg (.cons (.nil 3) (.refl _))), rfl, rfl⟩
end Go.Proofs.YtppfcacnofjmdaaGreatDoor
