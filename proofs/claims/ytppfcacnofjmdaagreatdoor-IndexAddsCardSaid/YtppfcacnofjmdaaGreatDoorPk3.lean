/-
  What the statement leans on, part 3: Eval, EvalOk, FnsM, Dec, Itoa, Enc, Cnt, Pol, Small, ConvV, Conv, Value, PolS, ValH, PolH, AskS, HasS, ExS, ExT, EvS.
-/
import Derived.Scope
import Derived.Laws.BytesString
import Derived.Shelf.Strconv.Itoa3
import Derived.Shelf.Small.Strs
import Derived.Shelf.Strconv.AtoiAll
import Derived.Test.YtppfcacnofjmdaaGreatDoorRows
import Derived.OneCell
import Derived.WalkLawsBesides
import Derived.WalkSpells
import Derived.Deep.Cut
import Derived.Deep.Light
import Derived.Test.YtppfcacnofjmdaaGreatDoorPk1
import Derived.Test.YtppfcacnofjmdaaGreatDoorPk2
namespace Go.Proofs.YtppfcacnofjmdaaGreatDoor
set_option linter.unusedVariables false
set_option linter.unusedSimpArgs false
open Go.RowKit
section
variable {α : Type}
def fNat (n : Nat) (k : Nat → α) : α := match n with
  | 0 => k 0
  | .succ m => k (.succ m)
theorem qaj (n : Nat) (k : Nat → α) : fNat n k = k n := by cases n <;> rfl
def fInt (n : Int) (k : Int → α) : α := match n with
  | .ofNat a => fNat a fun a => k (.ofNat a)
  | .negSucc a => fNat a fun a => k (.negSucc a)
theorem fInt_eq (n : Int) (k : Int → α) : fInt n k = k n := by cases n <;> simp [fInt, qaj]
def fBool (b : Bool) (k : Bool → α) : α := match b with
  | true => k true
  | false => k false
theorem fBool_eq (b : Bool) (k : Bool → α) : fBool b k = k b := by cases b <;> rfl
def fList {β : Type} : List β → (List β → α) → α
  | [], k => k []
  | x :: r, k => fList r fun r => k (x :: r)
theorem wa {β : Type} : ∀ (l : List β) (k : List β → α), fList l k = k l
  | [], k => rfl
  | x :: r, k => by rw [fList, wa r]
def fStr (s : ByteArray) (k : ByteArray → α) : α := match s with
  | ⟨⟨l⟩⟩ => fList l fun l => k ⟨⟨l⟩⟩
theorem fStr_eq (s : ByteArray) (k : ByteArray → α) : fStr s k = k s := by
  obtain ⟨⟨l⟩⟩ := s; simp [fStr, wa]
def fVal (v : Value) (k : Value → α) : α := match v with
  | .int q n => fInt n fun n => k (.int q n)
  | .bool b => fBool b fun b => k (.bool b)
  | .string s => fStr s fun s => k (.string s)
  | v => k v
theorem fVal_eq (v : Value) (k : Value → α) : fVal v k = k v := by
  cases v <;> simp [fVal, fInt_eq, fBool_eq, fStr_eq]
def fLeaf (p : PV) (k : PV → α) : α := match p with
  | .v x => fVal x fun x => k (.v x)
  | p => k p
theorem fLeaf_eq (p : PV) (k : PV → α) : fLeaf p k = k p := by cases p <;> simp [fLeaf, fVal_eq]
def fLeafs : List PV → (List PV → α) → α
  | [], k => k []
  | p :: r, k => fLeaf p fun p => fLeafs r fun r => k (p :: r)
theorem fLeafs_eq : ∀ (l : List PV) (k : List PV → α), fLeafs l k = k l
  | [], k => rfl
  | p :: r, k => by rw [fLeafs, fLeaf_eq, fLeafs_eq r]
def fPV (p : PV) (k : PV → α) : α := match p with
  | .v x => fVal x fun x => k (.v x)
  | .agg cs => fLeafs cs fun cs => k (.agg cs)
  | .rp cs => fLeafs cs fun cs => k (.rp cs)
  | .sl z l => fList l fun l => k (.sl z l)
  | p => k p
theorem fPV_eq (p : PV) (k : PV → α) : fPV p k = k p := by cases p <;> simp [fPV, fVal_eq, fLeafs_eq, wa]
def fOne (s : SV) (k : SV → α) : α := match s with
  | .p x => fPV x fun x => k (.p x)
  | .ptr i o => fNat i fun i => fNat o fun o => k (.ptr i o)
  | .eptr i z x o => fNat x fun x => fNat o fun o => k (.eptr i z x o)
  | .view i z lo hi => fNat lo fun lo => fNat hi fun hi => k (.view i z lo hi)
  | s => k s
theorem fOne_eq (s : SV) (k : SV → α) : fOne s k = k s := by cases s <;> simp [fOne, fPV_eq, qaj]
def fOnes : List SV → (List SV → α) → α
  | [], k => k []
  | s :: r, k => fOne s fun s => fOnes r fun r => k (s :: r)
theorem fOnes_eq : ∀ (l : List SV) (k : List SV → α), fOnes l k = k l
  | [], k => rfl
  | s :: r, k => by rw [fOnes, fOne_eq, fOnes_eq r]
def fMid (s : SV) (k : SV → α) : α := match s with
  | .agg cs => fOnes cs fun cs => k (.agg cs)
  | .fn f cs => fOnes cs fun cs => k (.fn f cs)
  | s => fOne s k
theorem fMid_eq (s : SV) (k : SV → α) : fMid s k = k s := by cases s <;> simp [fMid, fOne_eq, fOnes_eq]
def fMids : List SV → (List SV → α) → α
  | [], k => k []
  | s :: r, k => fMid s fun s => fMids r fun r => k (s :: r)
theorem fMids_eq : ∀ (l : List SV) (k : List SV → α), fMids l k = k l
  | [], k => rfl
  | s :: r, k => by rw [fMids, fMid_eq, fMids_eq r]
def fSV (s : SV) (k : SV → α) : α := match s with
  | .tup cs => fMids cs fun cs => k (.tup cs)
  | s => fMid s k
theorem fSV_eq (s : SV) (k : SV → α) : fSV s k = k s := by cases s <;> simp [fSV, fMid_eq, fMids_eq]
def fFr : List (Nat × SV) → (List (Nat × SV) → α) → α
  | [], k => k []
  | (t, s) :: r, k => fMid s fun s => fFr r fun r => k ((t, s) :: r)
theorem fFr_eq : ∀ (l : List (Nat × SV)) (k : List (Nat × SV) → α), fFr l k = k l
  | [], k => rfl
  | (t, s) :: r, k => by rw [fFr, fMid_eq, fFr_eq r]
def fEls : List (List PV) → (List (List PV) → α) → α
  | [], k => k []
  | e :: r, k => fLeafs e fun e => fEls r fun r => k (e :: r)
theorem fEls_eq : ∀ (l : List (List PV)) (k : List (List PV) → α), fEls l k = k l
  | [], k => rfl
  | e :: r, k => by rw [fEls, fLeafs_eq, fEls_eq r]
def fMap : List (Value × PV) → (List (Value × PV) → α) → α
  | [], k => k []
  | (v, p) :: r, k => fVal v fun v => fPV p fun p => fMap r fun r => k ((v, p) :: r)
theorem fMap_eq : ∀ (l : List (Value × PV)) (k : List (Value × PV) → α), fMap l k = k l
  | [], k => rfl
  | (v, p) :: r, k => by rw [fMap, fVal_eq, fPV_eq, fMap_eq r]
def fBox (b : Box) (k : Box → α) : α := match b with
  | .row e z l => fList l fun l => k (.row e z l)
  | .cells cs => fOnes cs fun cs => k (.cells cs)
  | .mp es => fList es fun es => k (.mp es)
theorem fBox_eq (b : Box) (k : Box → α) : fBox b k = k b := by cases b <;> simp [fBox, wa, fOnes_eq]
def fOwn : List (Nat × Box) → (List (Nat × Box) → α) → α
  | [], k => k []
  | (i, b) :: r, k => fNat i fun i => fBox b fun b => fOwn r fun r => k ((i, b) :: r)
theorem fOwn_eq : ∀ (l : List (Nat × Box)) (k : List (Nat × Box) → α), fOwn l k = k l
  | [], k => rfl
  | (i, b) :: r, k => by rw [fOwn, qaj, fBox_eq, fOwn_eq r]
end
def ible (a b : Int) : Bool := match a, b with
  | .ofNat a, .ofNat b => Nat.ble a b
  | .negSucc _, .ofNat _ => true
  | .ofNat _, .negSucc _ => false
  | .negSucc a, .negSucc b => Nat.ble b a
theorem jT {a b : Int} (h : ible a b = true) : a ≤ b := by
  cases a <;> cases b <;> simp only [ible, Nat.ble_eq] at h <;> first | (cases h; done) | (simp only [Int.ofNat_eq_natCast, Int.negSucc_eq]; omega)
def wu (n : Int) (m : Nat) : Bool := match n with
  | .ofNat a => Nat.blt a m
  | .negSucc _ => false
theorem jq {n : Int} {m : Nat} (h : wu n m = true) : 0 ≤ n ∧ n < m := by
  cases n <;> simp [wu, Nat.blt] at h
  simp only [Int.ofNat_eq_natCast]; omega
def sEq : List UInt8 → List UInt8 → Bool
  | [], [] => true
  | a :: r, b :: s => bif Nat.beq a.toNat b.toNat then sEq r s else false
  | _, _ => false
noncomputable def lkF {α : Type} (t : Nat) (l : List (Nat × α)) : Option α := @List.rec (Nat × α) (fun _ => Option α) none (fun p _ ih => @Prod.rec Nat α (fun _ => Option α) (fun u s => @Bool.rec (fun _ => Option α) ih (some s) (Nat.beq t u)) p) l
theorem qY {α : Type} (t : Nat) : ∀ l : List (Nat × α), lkF t l = lk t l
  | [] => rfl
  | (u, s) :: r => by
    have ih := qY t r
    unfold lkF at ih ⊢
    rw [lk]
    show @Bool.rec (fun _ => Option α) _ _ _ = _
    cases h : Nat.beq t u <;> simp [ih]
noncomputable def evF (st : St) (x : Operand) : Option SV := match x with
  | .tmp t => lkF t st.fr
  | x => evS st x
theorem evF_eq (st : St) (x : Operand) : evF st x = evS st x := by cases x <;> simp [evF, evS, qY]
noncomputable section
def binC (op : BinOp) (a b : Value) : Bool := match op with
  | .shl => (match b with | .int _ b => ible 0 b | _ => false)
  | .shr => (match b with | .int _ b => ible 0 b | _ => false)
  | .quo => (match b with | .int _ b => !(decide (b = 0)) | _ => false)
  | .rem => (match b with | .int _ b => !(decide (b = 0)) | _ => false)
  | .add => (match a, b with | .string a, .string b => Nat.ble (a.size + b.size) 9223372036854775807 | _, _ => true)
  | _ => true
def rBinC (T : TT) (op : BinOp) (t : TypeId) (a b : Option SV) : Bool := match a, b with
  | some (.p (.v a)), some (.p (.v b)) => binC op a b
  | some (.p (.agg xs)), some (.p (.agg _)) => (match lkF t T with
    | some ⟨_, _, _, z, _⟩ => zm xs z
    | none => false)
  | _, _ => false
def jn (T : TT) (st : St) (t : TypeId) (a i : Option SV) : Bool := match i with
  | some (.p (.v (.int _ n))) => (match a with
    | some (.p (.sl _ l)) => wu n l.length
    | some (.row j) => (match lkF j st.own with
      | some (.row _ _ l) => wu n l.length
      | _ => false)
    | some (.view _ _ lo hi) => wu n (hi - lo)
    | _ => (match lkF t T with
      | some ⟨_, _, .arr len _, _, _⟩ => wu n len
      | _ => false))
  | _ => false
def rIndexC (T : TT) (t : TypeId) (a i : Option SV) : Bool := match i with
  | some (.p (.v (.int _ n))) => (match a with
    | some (.p (.v (.string s))) => wu n s.size
    | _ => (match lkF t T with
      | some ⟨_, _, .arr len _, _, _⟩ => wu n len
      | _ => false))
  | _ => false
def endsC (st : St) (n : Nat) (lo hi : Option Operand) : Bool := match ends st n lo hi with
  | some (l, h) => (ible 0 l && ible l h) && ible h (.ofNat n)
  | none => false
def rSliceC (st : St) (a : Option SV) (lo hi : Option Operand) : Bool := match a with
  | some (.p (.v (.string s))) => endsC st s.size lo hi
  | some (.p (.sl _ xs)) => endsC st xs.length lo hi
  | some (.row j) => (match lkF j st.own with
    | some (.row _ _ xs) => endsC st xs.length lo hi
    | _ => false)
  | some (.view _ _ lo0 hi0) => endsC st (hi0 - lo0) lo hi
  | _ => false
def rLoadC (st : St) (a : Option SV) : Bool := match a with
  | some (.eptr j _ k _) => (match lkF j st.own with
    | some (.row _ _ l) => Nat.blt k l.length
    | _ => false)
  | _ => true
def rLookupC (T : TT) (st : St) (t : TypeId) (m : Option SV) : Bool := match m, lkF t T with
  | some (.row j), some ⟨_, _, .mp kt _, _, _⟩ => (match lkF kt T, lkF j st.own with
    | some ki, some (.mp es) => es.all fun x => kdOk ki.d x.1
    | _, _ => false)
  | _, _ => false
section
variable {β : Type}
def goF (r : Option (Prop × SV)) (c : Bool) (k : SV → Option β) : Option β := match r with
  | some (_, s) => bif c then fSV s k else none
  | none => none
def goP (r : Option (Prop × SV)) (k : SV → Option β) : Option β := match r with
  | some (_, s) => k s
  | none => none
def goS (r : Option SV) (k : SV → Option β) : Option β := match r with
  | some s => k s
  | none => none
def eStr (op : BinOp) (a b : ByteArray) (k : SV → Option β) : Option β := match op with
  | .eql => fBool (sEq a.data.toList b.data.toList) fun r => k (.p (.v (.bool r)))
  | .neq => fBool (!(sEq a.data.toList b.data.toList)) fun r => k (.p (.v (.bool r)))
  | .add => bif Nat.ble (a.size + b.size) 9223372036854775807 then fList (a.data.toList ++ b.data.toList) fun l => k (.p (.v (.string ⟨⟨l⟩⟩))) else none
  | .lss => fBool (Op.bytesLess a.data.toList b.data.toList) fun r => k (.p (.v (.bool r)))
  | .geq => fBool (!(Op.bytesLess a.data.toList b.data.toList)) fun r => k (.p (.v (.bool r)))
  | .leq => fBool (Op.bytesLess a.data.toList b.data.toList || sEq a.data.toList b.data.toList) fun r => k (.p (.v (.bool r)))
  | .gtr => fBool (!(Op.bytesLess a.data.toList b.data.toList || sEq a.data.toList b.data.toList)) fun r => k (.p (.v (.bool r)))
  | _ => none
def isNil (T : TT) (st : St) (t : TypeId) (ptr : Bool) (a : SV) : Option Bool := match lkF t T, ptr with
  | some ⟨_, _, .sl _, _, _⟩, false => (match a with
    | .p (.v (.slice none 0 0)) => some true
    | .p (.sl _ (_ :: _)) => some false
    | .row j => (match lkF j st.own with
      | some (.row _ _ (_ :: _)) => some false
      | _ => none)
    | _ => none)
  | some ⟨_, _, .ptr, _, _⟩, true => (match a with
    | .p (.v (.pointer none)) => some true
    | .p (.rp _) => some false
    | .ptr _ _ => some false
    | .eptr _ _ _ _ => some false
    | _ => none)
  | _, _ => none
def eIfc (T : TT) (op : BinOp) (t t' : TypeId) (a : Option SV) (k : SV → Option β) : Option β := match a, lkF t T, Nat.beq t t' with
  | some (.p (.v .nilIface)), some ⟨_, _, .ifc, _, _⟩, true => (match op with
    | .eql => k (.p (.v (.bool true)))
    | .neq => k (.p (.v (.bool false)))
    | _ => none)
  | _, _, _ => none
def eNil (T : TT) (st : St) (op : BinOp) (t t' : TypeId) (ptr : Bool) (a : Option SV) (k : SV → Option β) : Option β := match a, Nat.beq t t' with
  | some a, true => (match isNil T st t ptr a, op with
    | some b, .eql => k (.p (.v (.bool b)))
    | some true, .neq => k (.p (.v (.bool false)))
    | some false, .neq => k (.p (.v (.bool true)))
    | _, _ => none)
  | _, _ => none
def isConst : Operand → Bool
  | .const _ => true
  | _ => false
def eBin (T : TT) (st : St) (op : BinOp) (t t' : TypeId) (cst : Bool) (a b : Option SV) (k : SV → Option β) : Option β := match a, b with
  | some (.p (.v (.string a))), some (.p (.v (.string b))) => eStr op a b k
  | a, some (.p (.v (.slice none 0 0))) => eNil T st op t t' false a k
  | a, some (.p (.v (.pointer none))) => eNil T st op t t' true a k
  | a, some (.p (.v .nilIface)) => bif cst then eIfc T op t t' a k else none
  | a, b => goF (rBin T op t a b) (rBinC T op t a b) k
def eIndex (T : TT) (t : TypeId) (a i : Option SV) (k : SV → Option β) : Option β := match a, i with
  | some (.p (.v (.string s))), some (.p (.v (.int _ n))) => (match lkF t T with
    | some ⟨_, _, .str, _, _⟩ => (match s.data.toList[n.toNat]? with
      | some b => bif wu n s.size then fNat b.toNat fun b => k (.p (.v (.int .u8 (.ofNat b)))) else none
      | none => none)
    | _ => none)
  | a, i => goF (rIndex T t a i) (rIndexC T t a i) k
def eSliceX (T : TT) (st : St) (t : TypeId) (a : Option SV) (lo hi : Option Operand) (k : SV → Option β) : Option β := match lkF t T with
  | some ⟨_, _, .sl e, _, _⟩ => (match a, ends st 0 lo hi with
    | some (.p (.v (.slice none 0 0))), some (l, h) => bif (lkF e T).isSome && (ible 0 l && ible l h && ible h 0) then k (.p (.v (.slice none 0 0))) else none
    | _, _ => none)
  | _ => none
def eSlice (T : TT) (st : St) (t : TypeId) (a : Option SV) (lo hi mx : Option Operand) (k : SV → Option β) : Option β := match a with
  | some (.p (.v (.string s))) => (match mx, lkF t T, ends st s.size lo hi with
    | none, some ⟨_, _, .str, _, _⟩, some (l, h) => bif (ible 0 l && ible l h) && ible h (.ofNat s.size) then fList ((s.data.toList.drop l.toNat).take (h.toNat - l.toNat)) fun l => k (.p (.v (.string ⟨⟨l⟩⟩))) else none
    | _, _, _ => none)
  | some (.p (.v (.slice none 0 0))) => (match mx with
    | none => eSliceX T st t a lo hi k
    | some _ => none)
  | a => goF (rSlice T st t a lo hi mx) (rSliceC st a lo hi) k
def eCall (T : TT) (st : St) (c : Call) (k : SV → Option β) : Option β := match c.callee with
  | .builtin .len => (match c.args.toList, c.argTypes.toList with
    | [x], [t] => goF (rLen T st t (evF st x)) true k
    | _, _ => none)
  | .builtin .min => (match c.args.toList with
    | [x, y] => goF (rMinMax true (evF st x) (evF st y)) true k
    | _ => none)
  | .builtin .max => (match c.args.toList with
    | [x, y] => goF (rMinMax false (evF st x) (evF st y)) true k
    | _ => none)
  | .builtin .real => (match c.args.toList with
    | [x] => goP (rReal (evF st x)) k
    | _ => none)
  | .builtin .imag => (match c.args.toList with
    | [x] => goP (rImag (evF st x)) k
    | _ => none)
  | .builtin .complex => (match c.args.toList with
    | [x, y] => goP (rCplx (evF st x) (evF st y)) k
    | _ => none)
  | _ => none
def eUn (op : UnOp) (x : Option SV) (k : SV → Option β) : Option β := match x with
  | some (.p (.v v)) => (match unS op v with
    | some v => fVal v fun v => k (.p (.v v))
    | none => none)
  | _ => none
def eFn (T : TT) (K : List Nat) (st : St) (o : Op) (k : SV → Option β) : Option β := goF (opR T K st o) true k
def eExtract (x : Option SV) (n : Nat) (k : SV → Option β) : Option β := match x with
  | some (.tup cs) => goS cs[n]? k
  | _ => none
def byteOf : List PV → Option UInt8
  | [.v (.int .u8 n)] => some (UInt8.ofNat n.toNat)
  | _ => none
def bytesOf : List (List PV) → Option (List UInt8)
  | [] => some []
  | c :: r => match byteOf c with
    | some b => match bytesOf r with
      | some l => some (b :: l)
      | none => none
    | none => none
def eText (T : TT) (s d : TypeId) (l : List (List PV)) (k : SV → Option β) : Option β := match lkF s T, lkF d T with
  | some ⟨_, _, .sl e, _, _⟩, some ⟨_, _, .str, _, _⟩ => (match lkF e T, bytesOf l with
    | some ⟨_, _, .int .u8, _, _⟩, some bs => fList bs fun bs => k (.p (.v (.string ⟨⟨bs⟩⟩)))
    | _, _ => none)
  | _, _ => none
def eConv (T : TT) (K : List Nat) (st : St) (s d : TypeId) (a : Option SV) (k : SV → Option β) : Option β := match a with
  | some (.p (.sl _ l)) => eText T s d l k
  | some (.p (.v (.slice none 0 0))) => eText T s d [] k
  | some (.row j) => bif K.contains j then none else (match lkF j st.own with
    | some (.row _ _ l) => eText T s d l k
    | _ => none)
  | a => goF (rConv T s d a) true k
def isRd (o : Op) : Bool := match o with
  | .move _ => true | .assign _ => true | .pick _ _ _ => true | .binOp _ _ _ _ _ => true | .unOp _ _ _ => true | .convert _ _ _ => true | .field _ _ _ => true | .fieldAddr _ _ _ => true
  | .indexAddr _ _ _ => true | .index _ _ _ => true | .slice _ _ _ _ _ => true | .load _ _ => true | .extract _ _ => true | .makeFunc _ _ _ => true | .lookup _ _ _ _ => true | .build _ _ => true | .nilCheck _ => true
  | .call c => (match c.callee with | .builtin .append => false | .builtin _ => true | _ => false)
  | _ => false
def opE (T : TT) (K : List Nat) (st : St) (o : Op) (k : SV → Option β) : Option β := match o with
  | .move x => goS (evF st x) k
  | .assign x => goS (evF st x) k
  | .pick c a b => goP (rPick (evF st c) (evF st a) (evF st b)) k
  | .binOp op t x y t' => eBin T st op t t' (isConst y) (evF st x) (evF st y) k
  | .unOp op _ x => eUn op (evF st x) k
  | .convert s d x => eConv T K st s d (evF st x) k
  | .field t x f => goF (rField T t (evF st x) f) true k
  | .fieldAddr t x f => goF (wR T t (evF st x) f) true k
  | .indexAddr t x i => goF (wh T st t (evF st x) (evF st i)) (jn T st t (evF st x) (evF st i)) k
  | .index t x i => eIndex T t (evF st x) (evF st i) k
  | .slice t x lo hi mx => eSlice T st t (evF st x) lo hi mx k
  | .load t a => goF (rLoad T K st t (evF st a)) (rLoadC st (evF st a)) k
  | .extract x n => eExtract (evF st x) n k
  | .makeFunc f first caps => eFn T K st (.makeFunc f first caps) k
  | .call c => eCall T st c k
  | .lookup t m key true => goF (rLookup T K st t (evF st m) (evF st key)) (rLookupC T st t (evF st m)) k
  | .build t parts => eFn T K st (.build t parts) k
  | .nilCheck x => eFn T K st (.nilCheck x) k
  | _ => none
end
def mem (i : Nat) : List Nat → Bool
  | [] => false
  | j :: r => bif Nat.beq i j then true else mem i r
mutual
def refs : SV → List Nat
  | .p _ => []
  | .junk => []
  | .row i => [i]
  | .ptr i _ => [i]
  | .eptr i _ _ _ => [i]
  | .view i _ _ _ => [i]
  | .agg cs => refss cs
  | .tup cs => refss cs
  | .fn _ cs => refss cs
def refss : List SV → List Nat
  | [] => []
  | s :: r => refs s ++ refss r
end
def reach (own : List (Nat × Box)) : Nat → List Nat → List Nat → List Nat
  | 0, _, seen => seen
  | _ + 1, [], seen => seen
  | f + 1, i :: todo, seen => bif mem i seen then reach own f todo seen else match lkF i own with
    | some (.cells cs) => reach own f (refss cs ++ todo) (i :: seen)
    | some _ => reach own f todo (i :: seen)
    | none => reach own f todo seen
def ju (big : Bool) : Nat → List Nat → List (Nat × Nat)
  | _, [] => []
  | k, i :: r => bif !big && Nat.ble 1000000 i then (i, i) :: ju big k r else (i, k) :: ju big (k + 1) r
def rowsIn (st : St) : List Nat → List Nat
  | [] => []
  | i :: r => match lkF i st.own with
    | some (.row _ _ _) => i :: rowsIn st r
    | _ => rowsIn st r
def keys : List (Nat × SV) → List Nat → List Nat
  | [], acc => acc
  | (t, .junk) :: r, acc => keys r acc
  | (t, _) :: r, acc => bif mem t acc then keys r acc else keys r (t :: acc)
section
variable {α : Type}
def fNats : List Nat → (List Nat → α) → α
  | [], k => k []
  | i :: r, k => fNat i fun i => fNats r fun r => k (i :: r)
theorem fNats_eq : ∀ (l : List Nat) (k : List Nat → α), fNats l k = k l
  | [], k => rfl
  | i :: r, k => by rw [fNats, qaj, fNats_eq r]
def fRen : List (Nat × Nat) → (List (Nat × Nat) → α) → α
  | [], k => k []
  | (i, j) :: r, k => fNat i fun i => fNat j fun j => fRen r fun r => k ((i, j) :: r)
theorem fRen_eq : ∀ (l : List (Nat × Nat)) (k : List (Nat × Nat) → α), fRen l k = k l
  | [], k => rfl
  | (i, j) :: r, k => by rw [fRen, qaj, qaj, fRen_eq r]
def fSt (st : St) (k : St → α) : α := match st with
  | ⟨n, fr, own⟩ => fNat n fun n => fFr fr fun fr => fOwn own fun own => k ⟨n, fr, own⟩
theorem fSt_eq (st : St) (k : St → α) : fSt st k = k st := by cases st; simp [fSt, qaj, fFr_eq, fOwn_eq]
def fN (st : St) (k : St → α) : α := match st with
  | ⟨n, fr, own⟩ => fNat n fun n => k ⟨n, fr, own⟩
theorem fN_eq (st : St) (k : St → α) : fN st k = k st := by cases st; simp [fN, qaj]
def putE (st : St) (dst : Option Tmp) (s : SV) (k : St → α) : α := match dst, st with
  | some d, ⟨n, fr, own⟩ => k ⟨n, (d, s) :: fr, own⟩
  | none, st => k st
theorem putE_eq (st : St) (dst : Option Tmp) (s : SV) (k : St → α) : putE st dst s k = k (st.put dst s) := by cases dst <;> rfl
end
section
variable {β : Type}
def frzAll : List Nat → St → (St → Option β) → Option β
  | [], st, k => k st
  | i :: r, st, k => match lkF i st.own with
    | some (.row _ z l) => fSt (st.frz i z l) fun st => frzAll r st k
    | _ => frzAll r st k
structure FnI where
  n : Nat
  c : Code
  ts : List ResultVar
  ords : List (Nat × List (Nat × Bool))
structure Cx where
  T : TT
  F : List (FuncId × FnI)
  C : FuncId → List PV → Option SV
abbrev Ret := Option (SV × List (Nat × Box))
def newBox (st : St) (d : Nat) (s : SV) (bx : Box) (k : List Nat → St → Option β) : Option β :=
  bif (lkF d st.own).isNone && Nat.blt d st.n then fBox bx fun bx => fN ⟨st.n, (d, s) :: st.fr, (d, bx) :: st.own⟩ fun st => k [] st else none
def rhoOk (ρ : List (Nat × Nat)) : Bool := (dist (ρ.map (·.1)) && dist (ρ.map (·.2))) && ρ.all (fun p => Nat.ble 1000000 p.2)
def backE (st : St) (o : Oper) (ρ : List (Nat × Nat)) (rt : Ret) (k : List Nat → St → Option β) : Option β := match rt with
  | some (r, own') => bif zn st o.dst && backOk st ρ o.dst own' then (match st.back ρ o.dst r own' with
    | some st' => fSt st' fun st' => k (ρ.map (·.1)) st'
    | none => none) else none
  | none => none
def enterE (ev : FuncId → FnI → List SV → List (Nat × Box) → Ret) (st : St) (o : Oper) (f : FuncId) (fi : FnI) (caps : List SV) (xs : List Operand) (ρ : List (Nat × Nat)) (k : List Nat → St → Option β) : Option β := match ownR ρ st.own ρ, argWs st ρ xs, mapRs ρ caps with
  | some own, some a, some c => bif rhoOk ρ then (fOnes (a ++ c) fun args => fOwn own fun own => backE st o ρ (ev f fi args own) k) else none
  | _, _, _ => none
def callE (cx : Cx) (ev : FuncId → FnI → List SV → List (Nat × Box) → Ret) (st : St) (o : Oper) (pf : Bool) (f : FuncId) (caps : List SV) (xs : List Operand) (k : List Nat → St → Option β) : Option β :=
  match lkF f cx.F with
  | some fi => (match evs st xs with
    | some ss => fRen (ju true 1000000 (reach st.own 1000 (refss ss ++ refss caps) [])) fun ρ => enterE ev st o f fi caps xs ρ k
    | none => none)
  | none => (match pf, pures caps, argPs st xs with
    | true, some cps, some (ps, _) => (match cx.C f (ps ++ cps) with
      | some r => bif flatS r && zn st o.dst then (putE st o.dst r fun st => k [] st) else none
      | none => none)
    | _, _, _ => none)
def isPS : SV → Bool
  | .p _ => true
  | _ => false
def appRow (st : St) (d : Nat) (e : TypeId) (ei : TyI) (j : Nat) (s2 : Option SV) (k : St → Option β) : Option β := match lkF j st.own, s2 with
  | some (.row e' z l), some s2 => (match srcL st ei.size (some j) s2 with
    | some l2 => bif Nat.beq e' e && Nat.beq z ei.size && Nat.ble (l.length + l2.length) reachBytes && Nat.ble ((l.length + l2.length) * ei.bytes) 140737488355328 && (lk d (killO j st.own)).isNone then
      (fList (l ++ l2) fun l3 => fSt ⟨st.n, (d, .row d) :: killF j st.fr, (d, .row e ei.size l3) :: killO j st.own⟩ k) else none
    | none => none)
  | _, _ => none
def shrunk (st : St) (t j z m : Nat) (e : TypeId) (l : List (List PV)) : St := ⟨st.n, (t, .row 904999) :: killF j st.fr, (904999, .row e z (l.take m)) :: killO j st.own⟩
def appView (st : St) (d : Nat) (e : TypeId) (ei : TyI) (sx xx : Operand) (j zv m : Nat) (k : St → Option β) : Option β := match sx, lkF j st.own with
  | .tmp t, some (.row e' z l0) => bif (lk 904999 st.own).isNone && Nat.beq zv z then fSt (shrunk st t j z m e' l0) fun st1 => appRow st1 d e ei 904999 (evF st1 xx) k else none
  | _, _ => none
def appNil (st : St) (d : Nat) (e : TypeId) (ei : TyI) (s2 : Option SV) (k : List Nat → St → Option β) : Option β := match s2 with
  | some s2 => (match srcL st ei.size none s2 with
    | some l2 => bif Nat.ble (l2.length * ei.bytes) 140737488355328 then newBox st d (.row d) (.row e ei.size l2) k else none
    | none => none)
  | none => none
def appE (T : TT) (st : St) (o : Oper) (sx xx : Operand) (t : TypeId) (k : List Nat → St → Option β) : Option β := match o.dst, lkF t T with
  | some d, some ⟨_, _, .sl e, _, _⟩ => (match lkF e T with
    | some ei => bif Nat.blt 0 ei.size && Nat.beq ei.zero.length ei.size && Nat.blt d st.n then (match evF st sx with
      | some (.p (.v (.slice none 0 0))) => appNil st d e ei (evF st xx) k
      | some (.row j) => appRow st d e ei j (evF st xx) fun st => k [j] st
      | some (.view j z 0 m) => appView st d e ei sx xx j z m fun st => k [j] st
      | _ => none) else none
    | none => none)
  | _, _ => none
def boxE (st : St) (dst : Option Tmp) (s : Option SV) (k : List Nat → St → Option β) : Option β := match dst, s with
  | some d, some s => (match cellsOf s with
    | some cs => bif cs.all oneS then newBox st d (.ptr d 0) (.cells cs) k else none
    | none => none)
  | _, _ => none
def allocE (T : TT) (st : St) (dst : Option Tmp) (e : TypeId) (k : List Nat → St → Option β) : Option β := match dst, lkF e T with
  | some d, some i => bif i.zero.all plain then newBox st d (.ptr d 0) (.cells (i.zero.map fun z => .p (.v z))) k else none
  | _, _ => none
def buildE (T : TT) (st : St) (dst : Option Tmp) (t : TypeId) (len : Nat) (xs : List Operand) (k : List Nat → St → Option β) : Option β := match dst, lkF t T, evs st xs with
  | some d, some ⟨_, _, .sl e, _, _⟩, some ss => (match lkF e T with
    | some ei => bif Nat.blt 0 ei.size && Nat.ble (len * ei.size) 16777216 && Nat.beq xs.length len then
        (fNats (rowsIn st (refss ss)) fun ids => frzAll ids st fun st => match bElems st ei.size xs with
          | some l => fEls l fun l => newBox st d (.row d) (.row e ei.size l) k
          | none => none)
        else none
    | none => none)
  | _, _, _ => none
def storeE (T : TT) (st : St) (t : TypeId) (ad x : Option SV) (k : List Nat → St → Option β) : Option β := match lkF t T, ad, x with
  | some ti, some (.ptr j off), some s => (match lkF j st.own, cellsOf s with
    | some (.cells cs), some xs => bif xs.all oneS && Nat.beq xs.length ti.size && Nat.ble (off + xs.length) cs.length then
        (fOnes (cs.take off ++ xs ++ cs.drop (off + xs.length)) fun cs => fOwn (setB j (.cells cs) st.own) fun own => fN ⟨st.n, st.fr, own⟩ fun st => k [j] st) else none
    | _, _ => none)
  | some ti, some (.eptr j z i off), some s => (match lkF j st.own, cellsP s with
    | some (.row e z' l), some xs => bif Nat.beq z z' && xs.all oneP && Nat.beq xs.length ti.size && Nat.ble (off + xs.length) z && Nat.blt i l.length then
        (fLeafs ((l.getD i []).take off ++ xs ++ (l.getD i []).drop (off + xs.length)) fun c => fList (l.set i c) fun l => fOwn (setB j (.row e z l) st.own) fun own => fN ⟨st.n, st.fr, own⟩ fun st => k [j] st) else none
    | _, _ => none)
  | _, _, _ => none
def mapE (T : TT) (st : St) (t : TypeId) (m key x : Option SV) (k : List Nat → St → Option β) : Option β := match lkF t T, m, key, x with
  | some ⟨_, _, .mp kt _, _, _⟩, some (.row j), some (.p (.v kv)), some (.p p) => (match lkF kt T, lkF j st.own with
    | some ki, some (.mp es) => bif kdOk ki.d kv && es.all (fun x => kdOk ki.d x.1) && (mfind kv es).isNone then
        (fMap (es ++ [(kv, p)]) fun es => fOwn (setB j (.mp es) st.own) fun own => fN ⟨st.n, st.fr, own⟩ fun st => k [j] st) else none
    | _, _ => none)
  | _, _, _, _ => none
def acallE (cx : Cx) (ev : FuncId → FnI → List SV → List (Nat × Box) → Ret) (st : St) (o : Oper) (c : Call) (k : List Nat → St → Option β) : Option β := match c.callee with
  | .builtin .append => (match c.args.toList, c.argTypes.toList with
    | [sx, xx], [t, t'] => bif Nat.beq t t' then appE cx.T st o sx xx t k else none
    | _, _ => none)
  | .value fo => (match evF st fo with
    | some s => (match fnOf s with
      | some (f, caps) => callE cx ev st o (isPS s) f caps c.args.toList k
      | none => none)
    | none => none)
  | _ => none
def actE (cx : Cx) (ev : FuncId → FnI → List SV → List (Nat × Box) → Ret) (st : St) (o : Oper) (k : List Nat → St → Option β) : Option β := match o.op with
  | .alloc e => allocE cx.T st o.dst e k
  | .box _ x => boxE st o.dst (evF st x) k
  | .buildSlice t len parts => (match jJ 0 parts.toList with
    | some xs => buildE cx.T st o.dst t len xs k
    | none => none)
  | .store t ad x => (match o.dst with
    | none => storeE cx.T st t (evF st ad) (evF st x) k
    | some _ => none)
  | .makeMap _ none => (match o.dst with
    | some d => newBox st d (.row d) (.mp []) k
    | none => none)
  | .mapUpdate t m key x => (match o.dst with
    | none => mapE cx.T st t (evF st m) (evF st key) (evF st x) k
    | some _ => none)
  | .call c => acallE cx ev st o c k
  | _ => none
def stepE (cx : Cx) (ev : FuncId → FnI → List SV → List (Nat × Box) → Ret) (K : List Nat) (st : St) (o : Oper) (k : List Nat → St → Option β) : Option β :=
  bif isRd o.op then (bif zn st o.dst then opE cx.T K st o.op fun s => putE st o.dst s fun st => k [] st else none) else actE cx ev st o k
end
def evT (cx : Cx) (ev : FuncId → FnI → List SV → List (Nat × Box) → Ret) (ops : List Oper) : List Oper → St → Option St
  | [], st => some st
  | o :: r, st => match zw ops st o with
    | some true => stepE cx ev [] st o fun _ st' => evT cx ev ops r st'
    | some false => bif zn st o.dst then putE st o.dst (.tup []) fun st => evT cx ev ops r st else none
    | none => none
def kapOf (K : List Nat) (st : St) (o : Op) : List Nat := match o with
  | .load _ a => (match evF st a with
    | some s => K.filter fun j => !mem j (refs s)
    | none => K)
  | .lookup _ m _ _ => (match evF st m with
    | some s => K.filter fun j => !mem j (refs s)
    | none => K)
  | .convert _ _ x => (match evF st x with
    | some (.row j) => K.filter fun i => !(Nat.beq i j)
    | _ => K)
  | _ => K
def okW (w : List Nat) (κ : Kap) : Bool := κ.all fun p => w.all fun i => mem i p.2
def evM (cx : Cx) (ev : FuncId → FnI → List SV → List (Nat × Box) → Ret) (ops : List Oper) (K : List Nat) (chk : Bool) : List (Nat × Bool) → Kap → List Nat → St → Option (List Nat × St)
  | [], _, ws, st => some (ws, st)
  | (i, b) :: r, κ, ws, st => match nthO ops i with
    | some o => match zw ops st o with
      | some true => bif b then (bif zn st o.dst then fNats (kapOf K st o.op) fun Ki => opE cx.T Ki st o.op fun s => putE st o.dst s fun st => evM cx ev ops K chk r ((i, Ki) :: κ) ws st else none)
        else stepE cx ev [] st o fun w st' => bif !chk || okW w (kapB o κ) then evM cx ev ops K chk r (kapB o κ) (w ++ ws) st' else none
      | some false => bif zn st o.dst then putE st o.dst (.tup []) fun st => evM cx ev ops K chk r κ ws st else none
      | none => none
    | none => none
def dstsOf : List Oper → List Nat
  | [] => []
  | o :: r => match o.dst with
    | some d => d :: (1000 * (d + 1)) :: dstsOf r
    | none => dstsOf r
def idsOf : List (Nat × Box) → List Nat
  | [] => []
  | (i, _) :: r => i :: idsOf r
def evReg (cx : Cx) (ev : FuncId → FnI → List SV → List (Nat × Box) → Ret) (ords : List (Nat × List (Nat × Bool))) (id : Nat) (ops : List Oper) (st : St) : Bool → Option St
  | false => evT cx ev ops ops st
  | true => match lkF id ords with
    | some od => fNats (idsOf st.own ++ dstsOf ops) fun K0 => match evM cx ev ops K0 true od [] [] st with
      | some (_, st') => some st'
      | none => match evM cx ev ops [] false od [] [] st with
        | some ([], st') => some st'
        | some (ws, _) => fNats ws fun ws => match evM cx ev ops ws true od [] [] st with
          | some (_, st') => some st'
          | none => none
        | none => none
    | none => none
def lent : List (Nat × Box) → List Nat
  | [] => []
  | (i, _) :: r => bif Nat.ble 1000000 i then i :: lent r else lent r
def turnE {β : Type} (ts : List Nat) (st : St) (k : St → Option β) : Option β :=
  fRen (ju false 905000 (reach st.own 1000 (match frR (st.own.map fun p => (p.1, p.1)) st.fr ts with | some fr => refss (fr.map (·.2)) ++ lent st.own | none => lent st.own) [])) fun ρ => bif renOk ρ then (match st.only ts ρ with
    | some st' => fSt st' k
    | none => none) else none
def evC (cx : Cx) (ev : FuncId → FnI → List SV → List (Nat × Box) → Ret) (ords : List (Nat × List (Nat × Bool))) (again : Code → St → Option (SEx × St)) (jump : Code → Nat → St → Option (SEx × St)) : Code → St → Option (SEx × St)
  | .skip, st => some (.normal, st)
  | .region id ops d, st => match evReg cx ev ords id ops.toList st d with
    | some st' => some (.normal, st')
    | none => none
  | .seq a b, st => match evC cx ev ords again jump a st with
    | some (.normal, st') => evC cx ev ords again jump b st'
    | r => r
  | .cond c a b, st => match evF st c with
    | some (.p (.v (.bool true))) => evC cx ev ords again jump a st
    | some (.p (.v (.bool false))) => evC cx ev ords again jump b st
    | _ => none
  | .block id b, st => match evC cx ev ords again jump b st with
    | some (.exit i, st') => bif Nat.beq i id then some (.normal, st') else some (.exit i, st')
    | r => r
  | .loop b, st => fNats (keys st.fr []) fun ts => match evC cx ev ords again jump b st with
    | some (.normal, st') => turnE ts st' fun st'' => again (.loop b) st''
    | r => r
  | .exit id, st => some (.exit id, st)
  | .ret, st => some (.ret, st)
  | .label _, st => some (.normal, st)
  | .goto l, st => some (.goto l, st)
  | .scope b, st => match evC cx ev ords again jump b st with
    | some (.goto l, st') => turnE (keys st'.fr []) st' fun st'' => jump b l st''
    | r => r
  | _, _ => none
def resO (T : TT) (st : St) : ResultVar → Option SV
  | .tmp t => lk t st.fr
  | .cell a t => match rLoad T [] st t (lk a st.fr), lk a st.fr with
    | some (_, s), some (.ptr _ _) => some s
    | _, _ => none
def resOs (T : TT) (st : St) : List ResultVar → Option (List SV)
  | [] => some []
  | t :: r => match resO T st t with
    | some s => match resOs T st r with
      | some l => some (s :: l)
      | none => none
    | none => none
def resC (T : TT) (st : St) : List ResultVar → Option SV
  | [t] => resO T st t
  | ts => match resOs T st ts with
    | some l => some (.tup l)
    | none => none
def finE (T : TT) (ts : List ResultVar) (st : St) : Ret := match resC T st ts with
  | some s => fRen (ju false 0 (reach st.own 1000 (refs s ++ lent st.own) [])) fun ρ => match s.mapR ρ, ownR ρ st.own ρ with
    | some r, some own => bif renOk ρ then fSV r fun r => fOwn own fun own => some (r, own) else none
    | _, _ => none
  | none => none
def finR (T : TT) (ts : List ResultVar) (r : Option (SEx × St)) : Ret := match r with
  | some (.normal, st') => finE T ts st'
  | some (.ret, st') => finE T ts st'
  | _ => none
def jumpE (run : Code → St → Option (SEx × St)) (go : St → Option (SEx × St)) (b : Code) (l : Nat) (st : St) : Option (SEx × St) := match findLabel b l with
  | some rest => (match run rest st with
    | some (.goto l', st') => bif Nat.beq l' l then turnE (keys st'.fr []) st' go else none
    | r => r)
  | none => none
abbrev Ords := List (Nat × List (Nat × Bool))
def evNJ (cx : Cx) : Nat → (Ords → Code → St → Option (SEx × St)) × (Ords → Code → Nat → St → Option (SEx × St))
  | 0 => (fun _ _ _ => none, fun _ _ _ _ => none)
  | n + 1 =>
    (fun ords c st => evC cx (fun _ fi args own => bif Nat.ble args.length fi.n then finR cx.T fi.ts ((evNJ cx n).1 fi.ords fi.c ⟨fi.n, jN 0 args, own⟩) else none) ords ((evNJ cx n).1 ords) ((evNJ cx n).2 ords) c st,
     fun ords b l st => jumpE (evC cx (fun _ fi args own => bif Nat.ble args.length fi.n then finR cx.T fi.ts ((evNJ cx n).1 fi.ords fi.c ⟨fi.n, jN 0 args, own⟩) else none) ords ((evNJ cx n).1 ords) ((evNJ cx n).2 ords)) ((evNJ cx n).2 ords b l) b l st)
def evN (cx : Cx) (n : Nat) (ords : Ords) (c : Code) (st : St) : Option (SEx × St) := (evNJ cx n).1 ords c st
def evJ (cx : Cx) (n : Nat) (ords : Ords) (b : Code) (l : Nat) (st : St) : Option (SEx × St) := (evNJ cx n).2 ords b l st
def chkR (ords : List (Nat × List (Nat × Bool))) (id : Nat) (ops : Array Oper) : Bool := match lk id ords with
  | some od => Region.noSelect ops && (zW .any ops od (Array.replicate ops.size false) && od.length == ops.size)
  | none => true
def chkC (ords : List (Nat × List (Nat × Bool))) : Code → Bool
  | .region id ops true => chkR ords id ops
  | .seq a b => chkC ords a && chkC ords b
  | .cond _ a b => chkC ords a && chkC ords b
  | .block _ b => chkC ords b
  | .loop b => chkC ords b
  | .scope b => chkC ords b
  | _ => true
end
end Go.Proofs.YtppfcacnofjmdaaGreatDoor
namespace Go.Proofs.YtppfcacnofjmdaaGreatDoor
set_option linter.unusedVariables false
set_option linter.unusedSimpArgs false
open Go.RowKit
theorem toList_loop (s : ByteArray) : ∀ (n i : Nat) (r : List UInt8), s.size - i = n → ByteArray.toList.loop s i r = r.reverse ++ s.data.toList.drop i
  | 0, i, r, h => by
    unfold ByteArray.toList.loop
    rw [if_neg (by omega), List.drop_of_length_le (by rw [Array.length_toList]; show s.size ≤ i; omega), List.append_nil]
  | n + 1, i, r, h => by
    unfold ByteArray.toList.loop
    have hi : i < s.data.toList.length := by rw [Array.length_toList]; show i < s.size; omega
    rw [if_pos (by omega), toList_loop s n (i + 1) _ (by omega), List.reverse_cons, List.append_assoc, ← List.getElem_cons_drop hi]
    have : s.get! i = s.data.toList[i] := by
      have h2 : i < s.data.size := by rw [Array.length_toList] at hi; exact hi
      show s.data[i]! = _
      rw [getElem!_pos s.data i h2]; simp
    rw [this]; rfl
theorem qaf (s : ByteArray) : s.toList = s.data.toList := by
  unfold ByteArray.toList
  rw [toList_loop s _ 0 [] rfl]; rfl
theorem sEq_ok : ∀ a b : List UInt8, sEq a b = (a == b)
  | [], [] => rfl
  | [], _ :: _ => rfl
  | _ :: _, [] => rfl
  | a :: r, b :: s => by
    rw [sEq, sEq_ok r s]
    by_cases h : a = b
    · subst h; simp
    · have : Nat.beq a.toNat b.toNat = false := by
        cases h2 : Nat.beq a.toNat b.toNat with
        | false => rfl
        | true => exact absurd (UInt8.toNat_inj.1 (Nat.eq_of_beq_eq_true h2)) h
      rw [this]; simp [h]
def RdO (P : Program) (K : List Nat) (st : St) (o : Oper) (s : SV) : Prop := ∀ (w0 : Base) (Sx : Nat → Prop) (γ : Nat → Value) (a : Act) (w : World), Sim w0 Sx γ st a w →
  ∃ v, RelS (okO Sx γ st.own) (hp γ st.own) w s v ∧ ∀ x, SameOn (vis K γ st.own) w x → (execOp a.eval o).run P x = .ok (.value v) x
section
variable {P : Program} {T : TT} (hT : zh P T) {K : List Nat} {st : St} {o : Oper} {β : Type} {k : SV → Option β} {b : β}
theorem RdO.of_sem {s : SV} {sem : Act → Sem Value} (he : ∀ a : Act, execOp a.eval o = (do pure (.value (← sem a)) : Sem Next)) (h : ∀ (w0 : Base) (Sx : Nat → Prop) (γ : Nat → Value) (a : Act) (w : World), Sim w0 Sx γ st a w → Rd P K Sx γ st w (sem a) s) : RdO P K st o s := fun w0 Sx γ a w hI => by
  obtain ⟨v, h1, h2⟩ := h w0 Sx γ a w hI
  exact ⟨v, h1, fun x hx => by rw [he]; exact run_v (h2 x hx)⟩
theorem qv {s : SV} {Q : St → Prop} (h : RdO P K st o s) (hd : zn st o.dst = true) (hQ : Q (st.put o.dst s)) : ActOk P [] o st Q := by
  intro w0 Sx γ a w QQ hI
  obtain ⟨v, h1, h2⟩ := h w0 Sx γ a w hI
  unfold Oper.wp
  rw [h2 w (SameOn.refl _ _)]
  refine ⟨γ, _, hQ, hI.put hd h1, SameOn.refl _ _, fun K _ b _ hv => ?_⟩
  rw [wP]; exact hv
include hT in
theorem qi {s : SV} {c : Prop} (h : opR T K st o.op = some (c, s)) (hc : c) : RdO P K st o s := fun _ _ _ _ _ hI => opR_ok hT hI h hc
theorem goF_ok {r : Option (Prop × SV)} {c : Bool} (h : goF r c k = some b) : ∃ p s, r = some (p, s) ∧ c = true ∧ k s = some b := by
  unfold goF at h
  split at h
  · rename_i p s
    cases c with
    | false => cases h
    | true => rw [cond_true, fSV_eq] at h; exact ⟨p, s, rfl, rfl, h⟩
  · cases h
theorem goP_ok {r : Option (Prop × SV)} (h : goP r k = some b) : ∃ p s, r = some (p, s) ∧ k s = some b := by
  unfold goP at h
  split at h
  · exact ⟨_, _, rfl, h⟩
  · cases h
theorem goS_ok {r : Option SV} (h : goS r k = some b) : ∃ s, r = some s ∧ k s = some b := by
  unfold goS at h
  split at h
  · exact ⟨_, rfl, h⟩
  · cases h
theorem binC_ok {op : BinOp} {x y v : Value} {c : Prop} (h : binV op x y = some (c, v)) (hc : binC op x y = true) : c := by
  unfold binV at h
  split at h
  · cases op <;> simp only [binC] at hc <;> dsimp only at h <;>
      first
        | (cases h; exact jT hc)
        | (split at h
           · first
               | (cases h; exact trivial)
               | (cases h; simpa using hc)
               | cases h
           · cases h)
        | cases h
  · cases op <;> simp only [binC] at hc <;> dsimp only at h <;>
      first
        | (cases h; exact trivial)
        | (cases h; have := Nat.le_of_ble_eq_true hc; show ((_ : Nat) : Int) ≤ 9223372036854775807; omega)
        | cases h
  · split at h
    · cases op <;> dsimp only at h <;> first | (cases h; exact trivial) | cases h
    · cases h
  · split at h
    · cases op <;> dsimp only at h <;> first | (cases h; exact trivial) | cases h
    · cases h
  · cases h
theorem rBinC_ok {op : BinOp} {t : TypeId} {x y : Option SV} {s : SV} {c : Prop} (h : rBin T op t x y = some (c, s)) (hc : rBinC T op t x y = true) : c := by
  unfold rBin at h
  split at h
  · split at h
    · split at h
      · cases h; exact trivial
      · cases h
    · cases h
  · rename_i x y _
    simp only [rBinC] at hc
    unfold ofV at h
    split at h
    · rename_i c' v hb
      cases h
      exact binC_ok hb hc
    · cases h
  · rename_i xs ys
    simp only [rBinC] at hc
    split at h
    · rename_i ht
      rw [qY, ht] at hc
      split at h
      · cases op <;> dsimp only at h <;> first | (cases h; exact hc) | cases h
      · cases h
    · cases h
  · cases h
theorem rIndexAddrC_ok {t : TypeId} {x i : Option SV} {s : SV} {c : Prop} (h : wh T st t x i = some (c, s)) (hc : jn T st t x i = true) : c := by
  unfold wh at h
  split at h
  · split at h
    · split at h
      · simp only [jn] at hc
        rename_i z l n
        generalize hb : Nat.beq _ _ = q at h
        cases q with
        | false => cases h
        | true => cases h; exact jq hc
      · simp only [jn, qY] at hc
        split at h
        · rename_i z l hj
          rw [hj] at hc
          generalize hb : Nat.beq _ _ = q at h
          cases q with
          | false => cases h
          | true => cases h; exact jq hc
        · cases h
      · simp only [jn] at hc
        rename_i z lo hi _ n
        generalize hb : Nat.beq _ _ = q at h
        cases q with
        | false => cases h
        | true => cases h; exact jq hc
      · cases h
    · cases h
  · rename_i ht
    split at h
    · split at h
      · simp only [jn, qY, ht] at hc
        cases h; exact jq hc
      · simp only [jn, qY, ht] at hc
        cases h; exact jq hc
      · cases h
    · cases h
  · cases h
theorem rIndexC_ok {t : TypeId} {x i : Option SV} {s : SV} {c : Prop} (h : rIndex T t x i = some (c, s)) (hc : rIndexC T t x i = true) : c := by
  unfold rIndex at h
  split at h
  · split at h
    · simp only [rIndexC] at hc
      cases h; exact jq hc
    · cases h
  · rename_i ht
    split at h
    · split at h
      · split at h
        · simp only [rIndexC, qY, ht] at hc
          cases h; exact jq hc
        · cases h
      · cases h
    · cases h
  · cases h
theorem endsC_ok {n : Nat} {lo hi : Option Operand} {l h : Int} (he : ends st n lo hi = some (l, h)) (hc : endsC st n lo hi = true) : 0 ≤ l ∧ l ≤ h ∧ h ≤ n := by
  unfold endsC at hc
  rw [he] at hc
  simp only [Bool.and_eq_true] at hc
  exact ⟨jT hc.1.1, jT hc.1.2, jT hc.2⟩
theorem rSliceC_ok {t : TypeId} {x : Option SV} {lo hi mx : Option Operand} {s : SV} {c : Prop} (h : rSlice T st t x lo hi mx = some (c, s)) (hc : rSliceC st x lo hi = true) : c := by
  unfold rSlice at h
  split at h
  · cases h
  · split at h
    · split at h
      · simp only [rSliceC] at hc
        split at h
        · rename_i he
          cases h; exact endsC_ok he hc
        · cases h
      · cases h
    · split at h
      · split at h
        · simp only [rSliceC] at hc
          rename_i z xs
          generalize hb : Nat.beq _ _ = q at h
          cases q with
          | false => cases h
          | true =>
            simp only [cond_true] at h
            split at h
            · rename_i he
              cases h; exact endsC_ok he hc
            · cases h
        · simp only [rSliceC, qY] at hc
          split at h
          · rename_i z xs hj
            rw [hj] at hc
            generalize hb : Nat.beq _ _ = q at h
            cases q with
            | false => cases h
            | true =>
              simp only [cond_true] at h
              split at h
              · rename_i he
                cases h; exact endsC_ok he hc
              · cases h
          · cases h
        · simp only [rSliceC] at hc
          rename_i z lo0 hi0
          generalize hb : Nat.beq _ _ = q at h
          cases q with
          | false => cases h
          | true =>
            simp only [cond_true] at h
            split at h
            · rename_i he
              cases h; exact endsC_ok he hc
            · cases h
        · cases h
      · cases h
    · cases h
theorem rLoadC_ok {t : TypeId} {x : Option SV} {s : SV} {c : Prop} (h : rLoad T K st t x = some (c, s)) (hc : rLoadC st x = true) : c := by
  unfold rLoad at h
  split at h
  · split at h
    · split at h
      · cases h; exact trivial
      · cases h
    · split at h
      · cases h
      · split at h
        · split at h
          · cases h; exact trivial
          · cases h
        · cases h
    · split at h
      · cases h
      · simp only [rLoadC, qY] at hc
        split at h
        · rename_i z' l hj
          rw [hj] at hc
          rename_i z kk _ _ _
          generalize hb : Nat.beq _ _ = q at h
          cases q with
          | false => cases h
          | true =>
            simp only [cond_true] at h
            split at h
            · cases h; simpa [Nat.blt, Nat.lt_iff_add_one_le] using hc
            · cases h
        · cases h
    · cases h
  · cases h
theorem rLookupC_ok {t : TypeId} {m key : Option SV} {s : SV} {c : Prop} (h : rLookup T K st t m key = some (c, s)) (hc : rLookupC T st t m = true) : c := by
  unfold rLookup at h
  split at h
  · rename_i ht
    split at h
    · rename_i hkt _
      split at h
      · split at h
        · cases h
        · split at h
          · rename_i es hj
            simp only [rLookupC, qY, ht, hkt, hj] at hc
            generalize hb : kdOk _ _ = q at h
            cases q with
            | false => cases h
            | true => cases h; exact hc
          · cases h
      · cases h
    · cases h
  · cases h
theorem isNil_ok {t : TypeId} {ptr b : Bool} {s : SV} (h : isNil T st t ptr s = some b) (hT : zh P T) {w0 : Base} {Sx : Nat → Prop} {γ : Nat → Value} {a : Act} {w : World} (hI : Sim w0 Sx γ st a w) {u : Value} (hu : RelS (okO Sx γ st.own) (hp γ st.own) w s u) :
    (ptr = false ∧ ∃ e A n c, P.underlying t = some (.slice e) ∧ u = .slice A n c ∧ A.isNone = b) ∨ (ptr = true ∧ ∃ e q, P.underlying t = some (.pointer e) ∧ u = .pointer q ∧ q.isNone = b) := by
  unfold isNil at h
  rw [qY] at h
  split at h
  · rename_i e _ _ ht
    have hd := (hT t _ ht).und
    simp only [jy] at hd
    refine Or.inl ⟨rfl, e, ?_⟩
    split at h
    · cases h; exact ⟨none, 0, 0, hd, hu.v_inv, rfl⟩
    · cases h
      obtain ⟨A, c, hv, hlc, hm, he, hsl⟩ := hu.p_inv.slat
      obtain ⟨b, o, rfl, _⟩ := hsl (by simp)
      exact ⟨_, _, _, hd, hv, rfl⟩
    · rw [qY] at h
      split at h
      · rename_i hj
        cases h
        obtain ⟨A, c, g1, g2, g3, g4, g5⟩ := row_slat hI.heap hj
        obtain ⟨b, o, rfl, _⟩ := g5 (by simp)
        cases hu with
        | row hg => rw [qP hj] at hg; cases hg; exact ⟨_, _, _, hd, g1, rfl⟩
      · cases h
    · cases h
  · rename_i ht
    have hd := (hT t _ ht).und
    simp only [jy] at hd
    obtain ⟨e, hd⟩ := hd
    refine Or.inr ⟨rfl, e, ?_⟩
    split at h
    · cases h; exact ⟨none, hd, hu.v_inv, rfl⟩
    · cases h
      obtain ⟨b, o, rfl⟩ := hu.p_inv.rp_form
      exact ⟨_, hd, rfl, rfl⟩
    · cases h
      obtain ⟨b, g, rfl, _⟩ := hu.ptr_form
      exact ⟨_, hd, rfl, rfl⟩
    · cases h
      obtain ⟨b, g, rfl, _⟩ := hu.eptr_form
      exact ⟨_, hd, rfl, rfl⟩
    · cases h
  · cases h
include hT in
theorem eNil_ok {op : BinOp} {t t' : TypeId} {x y : Operand} {ptr : Bool} (ho : o.op = .binOp op t x y t') (hy : evS st y = some (.p (.v (bif ptr then .pointer none else .slice none 0 0)))) (h : eNil T st op t t' ptr (evS st x) k = some b) : ∃ s, RdO P K st o s ∧ k s = some b := by
  unfold eNil at h
  split at h
  · rename_i s hx hbt
    have e1 : t = t' := Nat.eq_of_beq_eq_true hbt
    subst e1
    have key : ∀ r : Bool, isNil T st t ptr s = some r → (op = .eql → RdO P K st o (.p (.v (.bool r)))) ∧ (op = .neq → RdO P K st o (.p (.v (.bool !r)))) := by
      intro r hr
      have run : ∀ (w0 : Base) (Sx : Nat → Prop) (γ : Nat → Value) (a : Act) (w : World), Sim w0 Sx γ st a w → ∀ z, (op = .eql → (execOp a.eval o).run P z = .ok (.value (.bool r)) z) ∧ (op = .neq → (execOp a.eval o).run P z = .ok (.value (.bool !r)) z) := by
        intro w0 Sx γ a w hI z
        have hyv := (qx hI hy).v_inv
        rcases isNil_ok hr hT hI (qx hI hx) with ⟨rfl, e, A, n, c, hd, hv, rfl⟩ | ⟨rfl, e, q, hd, hv, rfl⟩
        · rw [cond_false] at hyv
          refine ⟨fun hop => ?_, fun hop => ?_⟩ <;> subst hop <;> simp only [execOp, ho, hv, hyv] <;> refine run_v ?_
          · have h1 : (eqGuard .eql t x y (.slice A n c) (.slice none 0 0)).run P z = .ok () z := rfl
            rw [Sem.run_bind, h1]
            simp only [Result.andThen_ok]
            simp [binOp, Op.equal, Op.maxDepth, wl z 9999 t e A n c hd]
          · have h1 : (eqGuard .neq t x y (.slice A n c) (.slice none 0 0)).run P z = .ok () z := rfl
            rw [Sem.run_bind, h1]
            simp only [Result.andThen_ok]
            simp [binOp, Op.equal, Op.maxDepth, wl z 9999 t e A n c hd]
        · rw [cond_true] at hyv
          have hq : ∀ d, (Op.equalIn (d + 1) t (.pointer q) (.pointer none)).run P z = .ok q.isNone z := fun d => by
            cases q <;> simp [Op.equalIn, run_underlying hd]
          refine ⟨fun hop => ?_, fun hop => ?_⟩ <;> subst hop <;> simp only [execOp, ho, hv, hyv] <;> refine run_v ?_
          · have h1 : (eqGuard .eql t x y (.pointer q) (.pointer none)).run P z = .ok () z := rfl
            rw [Sem.run_bind, h1]
            simp only [Result.andThen_ok]
            simp [binOp, Op.equal, Op.maxDepth, hq 9999]
          · have h1 : (eqGuard .neq t x y (.pointer q) (.pointer none)).run P z = .ok () z := rfl
            rw [Sem.run_bind, h1]
            simp only [Result.andThen_ok]
            simp [binOp, Op.equal, Op.maxDepth, hq 9999]
      exact ⟨fun hop w0 Sx γ a w hI => ⟨.bool r, .p (.v rfl), fun z _ => (run w0 Sx γ a w hI z).1 hop⟩, fun hop w0 Sx γ a w hI => ⟨.bool !r, .p (.v rfl), fun z _ => (run w0 Sx γ a w hI z).2 hop⟩⟩
    split at h
    · rename_i hr; exact ⟨_, (key _ hr).1 rfl, h⟩
    · rename_i hr; exact ⟨_, (key _ hr).2 rfl, h⟩
    · rename_i hr; exact ⟨_, (key _ hr).2 rfl, h⟩
    · cases h
  · cases h
include hT in
theorem eStr_ok {op : BinOp} {t t' : TypeId} {x y : Operand} {p q : ByteArray} (ho : o.op = .binOp op t x y t') (hx : evS st x = some (.p (.v (.string p)))) (hy : evS st y = some (.p (.v (.string q)))) (h : eStr op p q k = some b) : ∃ s, RdO P K st o s ∧ k s = some b := by
  have key : ∀ {c : Prop} {v : Value}, binV op (.string p) (.string q) = some (c, v) → c → RdO P K st o (.p (.v v)) := fun {c v} hv hc => by
    refine qi hT (c := c) ?_ hc
    rw [ho]
    show rBin T op t (evS st x) (evS st y) = _
    rw [hx, hy]
    show ofV (binV op (.string p) (.string q)) = _
    rw [hv]; rfl
  cases op <;> unfold eStr at h <;> dsimp only at h <;> first
    | (cases h; done)
    | (rw [fBool_eq, sEq_ok, ← qaf, ← qaf] at h; exact ⟨_, key rfl trivial, h⟩)
    | (rw [fBool_eq, ← qaf, ← qaf] at h; exact ⟨_, key rfl trivial, h⟩)
    | skip
  · cases hc : Nat.ble (p.size + q.size) 9223372036854775807 with
    | false => rw [hc] at h; cases h
    | true =>
      rw [hc, cond_true, wa] at h
      have e : (⟨⟨p.data.toList ++ q.data.toList⟩⟩ : ByteArray) = p ++ q := by
        apply ByteArray.ext
        rw [ByteArray.data_append]
        apply Array.toList_inj.1
        simp
      rw [e] at h
      refine ⟨_, key (v := .string (p ++ q)) rfl ?_, h⟩
      have := Nat.le_of_ble_eq_true hc
      show ((_ : Nat) : Int) ≤ 9223372036854775807; omega
include hT in
theorem eIfc_ok {op : BinOp} {t t' : TypeId} {x y : Operand} (ho : o.op = .binOp op t x y t') (hc : isConst y = true) (hy : evS st y = some (.p (.v .nilIface))) (h : eIfc T op t t' (evS st x) k = some b) : ∃ s, RdO P K st o s ∧ k s = some b := by
  unfold eIfc at h
  rw [qY] at h
  split at h
  · rename_i hx ht hbt
    have e1 : t = t' := Nat.eq_of_beq_eq_true hbt
    subst e1
    have hd := (hT t _ ht).und
    simp only [jy] at hd
    obtain ⟨m, hd⟩ := hd
    have hyc : ∃ v, y = .const v := by cases y <;> first | exact ⟨_, rfl⟩ | cases hc
    obtain ⟨yv, rfl⟩ := hyc
    have run : ∀ (w0 : Base) (Sx : Nat → Prop) (γ : Nat → Value) (a : Act) (w : World), Sim w0 Sx γ st a w → ∀ z, (op = .eql → (execOp a.eval o).run P z = .ok (.value (.bool true)) z) ∧ (op = .neq → (execOp a.eval o).run P z = .ok (.value (.bool false)) z) := by
      intro w0 Sx γ a w hI z
      have hyv := (qx hI hy).v_inv
      have hxv := (qx hI hx).v_inv
      have hq : ∀ d, (Op.equalIn (d + 1) t .nilIface .nilIface).run P z = .ok true z := fun d => by simp [Op.equalIn, run_underlying hd]
      refine ⟨fun hop => ?_, fun hop => ?_⟩ <;> subst hop <;> simp only [execOp, ho, hxv, hyv] <;> refine run_v ?_
      · have h1 : (eqGuard .eql t x (.const yv) .nilIface .nilIface).run P z = .ok () z := by simp [eqGuard]
        rw [Sem.run_bind, h1]
        simp only [Result.andThen_ok]
        simp [binOp, Op.equal, Op.maxDepth, hq 9999]
      · have h1 : (eqGuard .neq t x (.const yv) .nilIface .nilIface).run P z = .ok () z := by simp [eqGuard]
        rw [Sem.run_bind, h1]
        simp only [Result.andThen_ok]
        simp [binOp, Op.equal, Op.maxDepth, hq 9999]
    split at h
    · exact ⟨_, fun w0 Sx γ a w hI => ⟨.bool true, .p (.v rfl), fun z _ => (run w0 Sx γ a w hI z).1 rfl⟩, h⟩
    · exact ⟨_, fun w0 Sx γ a w hI => ⟨.bool false, .p (.v rfl), fun z _ => (run w0 Sx γ a w hI z).2 rfl⟩, h⟩
    · cases h
  · cases h
include hT in
theorem eBin_ok {op : BinOp} {t t' : TypeId} {x y : Operand} (ho : o.op = .binOp op t x y t') (h : eBin T st op t t' (isConst y) (evS st x) (evS st y) k = some b) : ∃ s, RdO P K st o s ∧ k s = some b := by
  unfold eBin at h
  split at h
  · rename_i hx hy; exact eStr_ok hT ho hx hy h
  · rename_i hy; exact eNil_ok hT ho (ptr := false) hy h
  · rename_i hy; exact eNil_ok hT ho (ptr := true) hy h
  · rename_i hy
    cases hc : isConst y with
    | false => rw [hc] at h; cases h
    | true => rw [hc] at h; exact eIfc_ok hT ho hc hy h
  · obtain ⟨p, s, h1, h2, h3⟩ := goF_ok h
    exact ⟨s, qi hT (by rw [ho]; exact h1) (rBinC_ok h1 h2), h3⟩
include hT in
theorem eIndex_ok {t : TypeId} {x i : Operand} (ho : o.op = .index t x i) (h : eIndex T t (evS st x) (evS st i) k = some b) : ∃ s, RdO P K st o s ∧ k s = some b := by
  unfold eIndex at h
  split at h
  · rename_i q q' n hx hi
    rw [qY] at h
    split at h
    · rename_i ht
      split at h
      · rename_i c hc
        cases hb : wu n q.size with
        | false => rw [hb] at h; cases h
        | true =>
          rw [hb, cond_true, qaj] at h
          have e : byteAt q n.toNat = Int.ofNat c.toNat := by
            unfold byteAt
            rw [Array.getElem?_toList] at hc
            rw [Array.getD_eq_getD_getElem?, hc]; rfl
          refine ⟨_, qi hT (c := 0 ≤ n ∧ n < q.size) ?_ (jq hb), h⟩
          rw [ho, ← e]
          show rIndex T t (evS st x) (evS st i) = _
          rw [hx, hi]
          unfold rIndex
          rw [ht]
      · cases h
    · cases h
  · obtain ⟨p, s, h1, h2, h3⟩ := goF_ok h
    exact ⟨s, qi hT (by rw [ho]; exact h1) (rIndexC_ok h1 h2), h3⟩
include hT in
theorem eSlice_ok {t : TypeId} {x : Operand} {lo hi mx : Option Operand} (ho : o.op = .slice t x lo hi mx) (h : eSlice T st t (evS st x) lo hi mx k = some b) : ∃ s, RdO P K st o s ∧ k s = some b := by
  unfold eSlice at h
  split at h
  · rename_i q hx
    split at h
    · rename_i l r ht he
      rw [qY] at ht
      cases hb : ((ible 0 l && ible l r) && ible r (.ofNat q.size)) with
      | false => rw [hb] at h; cases h
      | true =>
        rw [hb, cond_true, wa] at h
        simp only [Bool.and_eq_true] at hb
        have hc : 0 ≤ l ∧ l ≤ r ∧ r ≤ q.size := ⟨jT hb.1.1, jT hb.1.2, jT hb.2⟩
        have e : (⟨⟨(q.data.toList.drop l.toNat).take (r.toNat - l.toNat)⟩⟩ : ByteArray) = q.extract l.toNat r.toNat := by
          apply ByteArray.ext
          rw [ByteArray.data_extract]
          apply Array.toList_inj.1
          simp [List.extract_eq_take_drop]
        rw [e] at h
        refine ⟨_, qi hT (c := 0 ≤ l ∧ l ≤ r ∧ r ≤ q.size) ?_ hc, h⟩
        rw [ho]
        show rSlice T st t (evS st x) lo hi none = _
        rw [hx]
        unfold rSlice
        rw [ht]
        simp only [he]
    · cases h
  · rename_i hx
    split at h
    · unfold eSliceX at h
      rw [qY] at h
      split at h
      · rename_i e _ _ ht
        have hd := (hT t _ ht).und
        simp only [jy] at hd
        split at h
        · rename_i l r _ he
          rw [qY] at h
          cases hb : ((lk e T).isSome && (ible 0 l && ible l r && ible r 0)) with
          | false => rw [hb] at h; cases h
          | true =>
            rw [hb, cond_true] at h
            simp only [Bool.and_eq_true] at hb
            obtain ⟨ei, hei⟩ := Option.isSome_iff_exists.1 hb.1
            have hc : 0 ≤ l ∧ l ≤ r ∧ r ≤ ((0 : Nat) : Int) := ⟨jT hb.2.1.1, jT hb.2.1.2, jT hb.2.2⟩
            have hi' := hT e ei hei
            have hl0 : l.toNat = 0 := by omega
            have hr0 : r.toNat = 0 := by omega
            refine ⟨_, RdO.of_sem (sem := fun a => Instr.sliceAt t (a.eval x) (lo.map a.eval) (hi.map a.eval) none) (fun a => by simp only [execOp, ho, Option.map_none]) fun w0 Sx γ a w hI => ?_, h⟩
            rw [(qx hI hx).v_inv]
            refine qU (v := .slice none 0 0) (.p (.v rfl)) fun z => ?_
            simp only [Instr.sliceAt, Instr.slice, Sem.run_bind, run_underlying hd, Result.andThen_ok, Option.map_none, ends_ok hI (P := P) (isSlice := true) he hc (Nat.le_refl _) z, Sem.run_pure, hi'.size z, hl0, hr0]
            rfl
        · cases h
      · cases h
    · cases h
  · obtain ⟨p, s, h1, h2, h3⟩ := goF_ok h
    exact ⟨s, qi hT (by rw [ho]; exact h1) (rSliceC_ok h1 h2), h3⟩
theorem bytesOf_get : ∀ {l : List (List PV)} {bs : List UInt8}, bytesOf l = some bs → bs.length = l.length ∧ ∀ i : Nat, i < l.length → ∃ n : Int, l[i]? = some [.v (.int .u8 n)] ∧ bs[i]? = some (UInt8.ofNat n.toNat)
  | [], bs, h => by simp only [bytesOf, Option.some.injEq] at h; subst h; exact ⟨rfl, fun i hi => by simp at hi⟩
  | c :: r, bs, h => by
    unfold bytesOf at h
    split at h
    · rename_i b hb
      split at h
      · rename_i l hl
        simp only [Option.some.injEq] at h
        subst h
        obtain ⟨h1, h2⟩ := bytesOf_get hl
        refine ⟨by simp [h1], fun i hi => ?_⟩
        cases i with
        | zero =>
          unfold byteOf at hb
          split at hb
          · rename_i n
            cases hb; exact ⟨n, rfl, rfl⟩
          · cases hb
        | succ i =>
          obtain ⟨n, g1, g2⟩ := h2 i (by simpa using hi)
          exact ⟨n, by simpa using g1, by simpa using g2⟩
      · cases h
    · cases h
theorem push_fold : ∀ (ns : List Int) (s : ByteArray), ns.foldl (fun r n => r.push (UInt8.ofNat n.toNat)) s = ⟨⟨s.data.toList ++ ns.map fun n => UInt8.ofNat n.toNat⟩⟩
  | [], s => by
    apply ByteArray.ext
    apply Array.toList_inj.1
    simp
  | n :: ns, s => by
    rw [List.foldl_cons, push_fold ns]
    apply ByteArray.ext
    apply Array.toList_inj.1
    simp [ByteArray.push]
theorem run_text {sT dT e : TypeId} {A : Option Addr} {c : Nat} {l : List (List PV)} {bs : List UInt8} {x : World} (hs : P.underlying sT = some (.slice e)) (he : P.underlying e = some (.int .u8)) (hd : P.underlying dT = some .string) (hl : bytesOf l = some bs)
    (h : 0 < l.length → ∃ b o, A = some ⟨b, o, none⟩ ∧ ∀ i n, l[i]? = some [.v (.int .u8 n)] → x.cell? ⟨b, o + i, none⟩ = some (.int .u8 n)) :
    (convert sT dT (.slice A l.length c)).run P x = .ok (.string ⟨⟨bs⟩⟩) x := by
  rw [run_convert_bytes_string x sT dT e A l.length c hs he hd]
  obtain ⟨g1, g2⟩ := bytesOf_get hl
  cases A with
  | none =>
    have : l = [] := by
      rcases Nat.eq_zero_or_pos l.length with h0 | h0
      · exact List.eq_nil_of_length_eq_zero h0
      · obtain ⟨b, o, hA, _⟩ := h h0; cases hA
    subst this
    have : bs = [] := List.eq_nil_of_length_eq_zero g1
    subst this
    simp [Conv.bytesToString]; rfl
  | some ad =>
    have hex : ∀ i : Nat, ∃ n : Int, i < l.length → l[i]? = some [.v (.int .u8 n)] ∧ bs[i]? = some (UInt8.ofNat n.toNat) := fun i => by
      by_cases hi : i < l.length
      · obtain ⟨n, h1⟩ := g2 i hi; exact ⟨n, fun _ => h1⟩
      · exact ⟨0, fun h => absurd h hi⟩
    obtain ⟨f, hf⟩ := Classical.axiomOfChoice hex
    have hbs : bs = ((List.range l.length).map f).map fun n => UInt8.ofNat n.toNat := by
      refine List.ext_getElem? fun i => ?_
      by_cases hi : i < l.length
      · rw [(hf i hi).2]; simp [hi]
      · rw [List.getElem?_eq_none (by omega), List.getElem?_eq_none (by simp; omega)]
    have hcells : ∀ j v, (((List.range l.length).map f).map (Value.int .u8))[j]? = some v → x.cell? (ad.add j) = some v := fun j v hv => by
      have hj : j < l.length := by have := (List.getElem?_eq_some_iff.1 hv).1; simpa using this
      obtain ⟨b, o, hA, hx⟩ := h (by omega)
      cases hA
      rw [jH]
      simp [hj] at hv
      rw [← hv]
      exact hx j _ (hf j hj).1
    have h1 := run_loadCells_list (P := P) x ad _ hcells
    rw [List.length_map, List.length_map, List.length_range] at h1
    rw [run_bytesToString x ad l.length c _ h1, push_fold, hbs]
    rfl
include hT in
theorem eConv_ok {sT dT : TypeId} {x : Operand} (ho : o.op = .convert sT dT x) (h : eConv T K st sT dT (evS st x) k = some b) : ∃ s, RdO P K st o s ∧ k s = some b := by
  have put : ∀ {l : List (List PV)}, eText T sT dT l k = some b → (∀ (w0 : Base) (Sx : Nat → Prop) (γ : Nat → Value) (a : Act) (w : World), Sim w0 Sx γ st a w → ∃ A c, a.eval x = .slice A l.length c ∧ ∀ z, SameOn (vis K γ st.own) w z → 0 < l.length → ∃ b o, A = some ⟨b, o, none⟩ ∧ ∀ i n, l[i]? = some [.v (.int .u8 n)] → z.cell? ⟨b, o + i, none⟩ = some (.int .u8 n)) →
      ∃ s, RdO P K st o s ∧ k s = some b := fun {l} h hx => by
    unfold eText at h
    rw [qY, qY] at h
    split at h
    · rename_i e _ _ _ _ _ _ hs hd
      rw [qY] at h
      split at h
      · rename_i bs he hbs
        rw [wa] at h
        have us := (hT sT _ hs).und
        have ud := (hT dT _ hd).und
        have ue := (hT e _ he).und
        simp only [jy] at us ud ue
        refine ⟨_, RdO.of_sem (sem := fun a => convert sT dT (a.eval x)) (fun a => by simp only [execOp, ho]) fun w0 Sx γ a w hI => ?_, h⟩
        obtain ⟨A, c, ha, hc⟩ := hx w0 Sx γ a w hI
        exact ⟨_, .p (.v rfl), fun z hz => by rw [ha]; exact run_text us ue ud hbs (hc z hz)⟩
      · cases h
    · cases h
  unfold eConv at h
  split at h
  · rename_i zz l hx
    refine put h fun w0 Sx γ a w hI => ?_
    have hr := (qx hI hx).p_inv
    obtain ⟨A, c, hv, _⟩ := hr.slat
    refine ⟨A, c, hv, fun z hz hl => ?_⟩
    have hrz : RelP (okO Sx γ st.own) z (.sl zz l) (a.eval x) := hr.keep (hz.weak fun b _ hok => okO_vis hok)
    obtain ⟨A2, c2, hv2, _, _, he, hsl⟩ := hrz.slat
    rw [hv] at hv2
    cases hv2
    obtain ⟨b, o, hA, _, _, hc⟩ := hsl hl
    refine ⟨b, o, hA, fun i n hi => ?_⟩
    have hil : i < l.length := (List.getElem?_eq_some_iff.1 hi).1
    have hz1 : zz = 1 := by have := (he _ (List.mem_of_getElem? hi)).1; simpa using this.symm
    obtain ⟨cs, q1, q2, q3⟩ := hc i hil
    have hli : l[i] = [.v (.int .u8 n)] := by rw [List.getElem?_eq_getElem hil] at hi; exact Option.some.inj hi
    rw [hli] at q3
    have hcl : cs.length = 1 := q3.1
    have hcs : ∃ u, cs = [u] := by
      match cs, hcl with
      | [u], _ => exact ⟨u, rfl⟩
    obtain ⟨u, rfl⟩ := hcs
    have hu := zX (q3.2 0 _ u rfl rfl) rfl
    subst hu
    have := q2 0 _ rfl
    rw [hz1, Nat.mul_one, Nat.add_zero] at this
    exact this
  · rename_i hx
    refine put h fun w0 Sx γ a w hI => ⟨none, 0, (qx hI hx).v_inv, fun z _ hl => by simp at hl⟩
  · rename_i j hx
    cases hK : K.contains j with
    | true => rw [hK] at h; cases h
    | false =>
      rw [hK, cond_false, qY] at h
      split at h
      · rename_i e zz l hj
        refine put h fun w0 Sx γ a w hI => ?_
        have hr := qx hI hx
        obtain ⟨A, c, g1, g2, g3, g4, g5⟩ := row_slat hI.heap hj
        have ha : a.eval x = γ j := by
          generalize a.eval x = u at hr
          cases hr with
          | row hg => rw [qP hj] at hg; cases hg; rfl
        refine ⟨A, c, by rw [ha, g1], fun z hz hl => ?_⟩
        obtain ⟨b, o, hA, hlt, hc⟩ := g5 hl
        refine ⟨b, o, hA, fun i n hi => ?_⟩
        have hil : i < l.length := (List.getElem?_eq_some_iff.1 hi).1
        have hz1 : zz = 1 := by have := (g4 _ (List.mem_of_getElem? hi)).1; simpa using this.symm
        obtain ⟨cs, q1, q2, q3, q4⟩ := hc i hil
        have hli : l[i] = [.v (.int .u8 n)] := by rw [List.getElem?_eq_getElem hil] at hi; exact Option.some.inj hi
        rw [hli] at q4
        have hcs : ∃ u, cs = [u] := by
          match cs, (q4.1 : cs.length = 1) with
          | [u], _ => exact ⟨u, rfl⟩
        obtain ⟨u, rfl⟩ := hcs
        have hu := zX (q4.2 0 _ u rfl rfl) rfl
        subst hu
        have := q2 0 _ rfl
        rw [hz1, Nat.mul_one, Nat.add_zero] at this
        have hbj : qV (γ j) = some b := by rw [g1, hA]; rfl
        rw [World.cell?_of_block (w := w) (a := ⟨b, o + i, none⟩) (hz.block b hlt fun i2 bx h1 h2 h3 => ?_)]
        · exact this
        · have := hI.heap.inj i2 j _ _ b h1 hj h3 hbj
          subst this
          rw [hK] at h2; cases h2
      · cases h
  · obtain ⟨p, s, h1, _, h3⟩ := goF_ok h
    refine ⟨s, qi hT (by rw [ho]; exact h1) ?_, h3⟩
    unfold rConv at h1
    repeat' split at h1
    all_goals first | (cases h1; done) | (cases h1; exact trivial)
include hT in
theorem eCall_ok {c : Call} (ho : o.op = .call c) (h : eCall T st c k = some b) : ∃ s, RdO P K st o s ∧ k s = some b := by
  unfold eCall at h
  simp only [evF_eq] at h
  have put : ∀ {r : Option (Prop × SV)}, opR T K st (.call c) = r → (∀ p s, r = some (p, s) → p) → goF r true k = some b → ∃ s, RdO P K st o s ∧ k s = some b := fun {r} he hp h => by
    obtain ⟨p, s, h1, _, h3⟩ := goF_ok h
    exact ⟨s, qi hT (by rw [ho, he]; exact h1) (hp p s h1), h3⟩
  split at h
  · rename_i hcl
    split at h
    · rename_i hargs hts
      refine put ?_ (fun p s hr => ?_) h
      · simp only [opR, hcl, hargs, hts]
      · unfold rLen at hr
        repeat' split at hr
        all_goals first | (cases hr; done) | (cases hr; exact trivial)
    · cases h
  · rename_i hcl
    split at h
    · rename_i hargs
      refine put ?_ (fun p s hr => ?_) h
      · simp only [opR, hcl, hargs]
      · unfold rMinMax at hr
        repeat' split at hr
        all_goals first | (cases hr; done) | (cases hr; exact trivial)
    · cases h
  · rename_i hcl
    split at h
    · rename_i hargs
      refine put ?_ (fun p s hr => ?_) h
      · simp only [opR, hcl, hargs]
      · unfold rMinMax at hr
        repeat' split at hr
        all_goals first | (cases hr; done) | (cases hr; exact trivial)
    · cases h
  · rename_i hcl
    split at h
    · rename_i hargs
      obtain ⟨p, s, h1, h3⟩ := goP_ok h
      refine ⟨s, qi hT (c := p) (by rw [ho]; simp only [opR, hcl, hargs]; exact h1) ?_, h3⟩
      unfold rReal at h1
      repeat' split at h1
      all_goals first | (cases h1; done) | (cases h1; exact trivial)
    · cases h
  · rename_i hcl
    split at h
    · rename_i hargs
      obtain ⟨p, s, h1, h3⟩ := goP_ok h
      refine ⟨s, qi hT (c := p) (by rw [ho]; simp only [opR, hcl, hargs]; exact h1) ?_, h3⟩
      unfold rImag at h1
      repeat' split at h1
      all_goals first | (cases h1; done) | (cases h1; exact trivial)
    · cases h
  · rename_i hcl
    split at h
    · rename_i hargs
      obtain ⟨p, s, h1, h3⟩ := goP_ok h
      refine ⟨s, qi hT (c := p) (by rw [ho]; simp only [opR, hcl, hargs]; exact h1) ?_, h3⟩
      unfold rCplx at h1
      repeat' split at h1
      all_goals first | (cases h1; done) | (cases h1; exact trivial)
    · cases h
  · cases h
include hT in
theorem opE_ok (h : opE T K st o.op k = some b) : ∃ s, RdO P K st o s ∧ k s = some b := by
  unfold opE at h
  simp only [evF_eq] at h
  have yes_of : ∀ {r : Option (Prop × SV)}, (∀ p s, r = some (p, s) → p) → opR T K st o.op = r → goF r true k = some b → ∃ s, RdO P K st o s ∧ k s = some b := fun {r} hp he h => by
    obtain ⟨p, s, h1, _, h3⟩ := goF_ok h
    exact ⟨s, qi hT (he.trans h1) (hp p s h1), h3⟩
  split at h
  · rename_i x ho
    obtain ⟨s, h1, h2⟩ := goS_ok h
    exact ⟨s, qi hT (c := True) (by rw [ho]; simp only [opR, h1]; rfl) trivial, h2⟩
  · rename_i x ho
    obtain ⟨s, h1, h2⟩ := goS_ok h
    exact ⟨s, qi hT (c := True) (by rw [ho]; simp only [opR, h1]; rfl) trivial, h2⟩
  · rename_i c x y ho
    obtain ⟨p, s, h1, h2⟩ := goP_ok h
    refine ⟨s, qi hT (c := p) (by rw [ho]; exact h1) ?_, h2⟩
    unfold rPick at h1
    repeat' split at h1
    all_goals first | (cases h1; done) | (cases h1; exact trivial)
  · rename_i ho; exact eBin_ok hT ho h
  · rename_i op t x ho
    unfold eUn at h
    split at h
    · rename_i v hx
      split at h
      · rename_i v' hv
        rw [fVal_eq] at h
        exact ⟨_, qi hT (c := True) (by rw [ho]; simp only [opR, hx, hv]; rfl) trivial, h⟩
      · cases h
    · cases h
  · rename_i ho; exact eConv_ok hT ho h
  · rename_i ho
    refine yes_of (fun p s hr => ?_) (by rw [ho]; rfl) h
    unfold rField at hr
    repeat' split at hr
    all_goals first | (cases hr; done) | (cases hr; exact trivial)
  · rename_i ho
    refine yes_of (fun p s hr => ?_) (by rw [ho]; rfl) h
    unfold wR at hr
    split at hr
    · split at hr
      · split at hr
        · generalize Nat.beq _ _ = q at hr
          cases q with
          | true => cases hr
          | false =>
            rw [cond_false] at hr
            split at hr
            all_goals first | (cases hr; done) | (cases hr; exact trivial)
        · cases hr
      · cases hr
    · cases hr
  · rename_i ho
    obtain ⟨p, s, h1, h2, h3⟩ := goF_ok h
    exact ⟨s, qi hT (by rw [ho]; exact h1) (rIndexAddrC_ok h1 h2), h3⟩
  · rename_i ho; exact eIndex_ok hT ho h
  · rename_i ho; exact eSlice_ok hT ho h
  · rename_i ho
    obtain ⟨p, s, h1, h2, h3⟩ := goF_ok h
    exact ⟨s, qi hT (by rw [ho]; exact h1) (rLoadC_ok h1 h2), h3⟩
  · rename_i x n ho
    unfold eExtract at h
    split at h
    · rename_i cs hx
      obtain ⟨s, h1, h2⟩ := goS_ok h
      exact ⟨s, qi hT (c := True) (by rw [ho]; simp only [opR, hx, h1]; rfl) trivial, h2⟩
    · cases h
  · rename_i f first caps ho
    unfold eFn at h
    obtain ⟨p, s, h1, _, h3⟩ := goF_ok h
    refine ⟨s, qi hT (by rw [ho]; exact h1) ?_, h3⟩
    cases f with
    | func f =>
      simp only [opR] at h1
      repeat' split at h1
      all_goals first | (cases h1; done) | (cases h1; exact trivial)
    | _ => simp only [opR] at h1; cases h1
  · rename_i ho; exact eCall_ok hT ho h
  · rename_i ho
    obtain ⟨p, s, h1, h2, h3⟩ := goF_ok h
    exact ⟨s, qi hT (by rw [ho]; exact h1) (rLookupC_ok h1 h2), h3⟩
  · rename_i ho
    unfold eFn at h
    obtain ⟨p, s, h1, _, h3⟩ := goF_ok h
    refine ⟨s, qi hT (by rw [ho]; exact h1) ?_, h3⟩
    have h1 : rBuild T st _ _ = some (p, s) := h1
    unfold rBuild at h1
    split at h1
    · generalize (_ && _) = q at h1
      cases q with
      | false => cases h1
      | true =>
        rw [cond_true] at h1
        split at h1
        all_goals first | (cases h1; done) | (cases h1; exact trivial)
    · cases h1
  · rename_i ho
    unfold eFn at h
    obtain ⟨p, s, h1, _, h3⟩ := goF_ok h
    refine ⟨s, qi hT (by rw [ho]; exact h1) ?_, h3⟩
    simp only [opR] at h1
    split at h1
    all_goals first | (cases h1; done) | (cases h1; exact trivial)
  · cases h
end
section
variable {P : Program} {T : TT} (hT : zh P T) {st : St} {o : Oper} {β : Type} {k : List Nat → St → Option β} {b : β}
theorem blt_lt {a b : Nat} (h : Nat.blt a b = true) : a < b := by simpa [Nat.blt, Nat.lt_iff_add_one_le] using h
theorem newBox_ok {d : Nat} {s : SV} {bx : Box} (h : newBox st d s bx k = some b) : lk d st.own = none ∧ Nat.blt d st.n = true ∧ k [] ⟨st.n, (d, s) :: st.fr, (d, bx) :: st.own⟩ = some b := by
  unfold newBox at h
  rw [qY] at h
  cases hb : ((lk d st.own).isNone && Nat.blt d st.n) with
  | false => rw [hb] at h; cases h
  | true =>
    rw [hb, cond_true, fBox_eq, fN_eq] at h
    simp only [Bool.and_eq_true] at hb
    exact ⟨Option.isNone_iff_eq_none.1 hb.1, hb.2, h⟩
def Goes (P : Program) (st : St) (o : Oper) (k : List Nat → St → Option β) (b : β) : Prop := ∃ Ws st', ActOk P Ws o st (fun s => s = st') ∧ k Ws st' = some b
include hT in
theorem allocE_ok {e : TypeId} (ho : o.op = .alloc e) (h : allocE T st o.dst e k = some b) : Goes P st o k b := by
  unfold allocE at h
  rw [qY] at h
  split at h
  · rename_i d i hd hi
    cases hz : i.zero.all plain with
    | false => rw [hz] at h; cases h
    | true =>
      rw [hz, cond_true] at h
      obtain ⟨h1, h2, h3⟩ := newBox_ok h
      exact ⟨_, _, act_alloc hT ho hd hi hz h1 h2 rfl, h3⟩
  · cases h
theorem boxE_ok {e : TypeId} {x : Operand} (ho : o.op = .box e x) (h : boxE st o.dst (evS st x) k = some b) : Goes P st o k b := by
  unfold boxE at h
  split at h
  · rename_i d s hd hx
    split at h
    · rename_i cs hc
      cases hz : cs.all oneS with
      | false => rw [hz] at h; cases h
      | true =>
        rw [hz, cond_true] at h
        obtain ⟨h1, h2, h3⟩ := newBox_ok h
        exact ⟨_, _, act_box ho hd hx hc hz h1 h2 rfl, h3⟩
    · cases h
  · cases h
theorem ActOk.frz {Ws : List Nat} {Q : St → Prop} {i : Nat} {e : TypeId} {z : Nat} {l : List (List PV)} (hk : lk i st.own = some (.row e z l)) (h : ActOk P Ws o (st.frz i z l) Q) : ActOk P Ws o st Q := by
  intro w0 Sx γ a w QQ hI
  have old : ∀ {j bx}, lk j (st.frz i z l).own = some bx → ∃ b0, lk j st.own = some b0 := fun {j bx} hj => by
    have hj : lk j ((del i st.own).map fun p => (p.1, p.2.frz i z l)) = some bx := hj
    rw [lk_map, lk_del] at hj
    split at hj
    · cases hj
    · obtain ⟨b0, h1, _⟩ := Option.map_eq_some_iff.1 hj
      exact ⟨b0, h1⟩
  have hv : ∀ K b, vis K γ st.own b → vis K γ (st.frz i z l).own b := fun K b hv j bx hj hK hb => by
    obtain ⟨b0, h1⟩ := old hj
    exact hv j b0 h1 hK hb
  refine Oper.wp_mono (fun a' w' hq => ?_) (h w0 Sx γ a w QQ (sim_frz hk hI))
  obtain ⟨γ', st', h1, h2, h3, h4⟩ := hq
  exact ⟨γ', st', h1, h2, ⟨h3.size, fun b hb hv' => h3.block b hb (hv _ b hv')⟩, fun K hK b hb hv' => h4 K hK b hb (hv K b hv')⟩
theorem frzAll_ok {k : St → Option β} : ∀ {ids : List Nat} {st : St}, frzAll ids st k = some b → ∃ st1, (∀ Ws Q, ActOk P Ws o st1 Q → ActOk P Ws o st Q) ∧ k st1 = some b
  | [], st, h => ⟨st, fun _ _ h => h, h⟩
  | i :: r, st, h => by
    unfold frzAll at h
    rw [qY] at h
    split at h
    · rename_i hi
      rw [fSt_eq] at h
      obtain ⟨st1, h1, h2⟩ := frzAll_ok h
      exact ⟨st1, fun Ws Q hQ => ActOk.frz hi (h1 Ws Q hQ), h2⟩
    · exact frzAll_ok h
include hT in
theorem buildE_ok {t : TypeId} {len : Nat} {parts : Array (Nat × Operand)} {xs : List Operand} (ho : o.op = .buildSlice t len parts) (hp : jJ 0 parts.toList = some xs) (h : buildE T st o.dst t len xs k = some b) : Goes P st o k b := by
  unfold buildE at h
  rw [qY] at h
  split at h
  · rename_i d _ _ e _ _ ss hd ht hss
    rw [qY] at h
    split at h
    · rename_i ei hei
      cases hb : (Nat.blt 0 ei.size && Nat.ble (len * ei.size) 16777216 && Nat.beq xs.length len) with
      | false => rw [hb] at h; cases h
      | true =>
        rw [hb, cond_true, fNats_eq] at h
        simp only [Bool.and_eq_true] at hb
        obtain ⟨st1, h1, h2⟩ := frzAll_ok (P := P) (o := o) h
        split at h2
        · rename_i l hl
          rw [fEls_eq] at h2
          obtain ⟨g1, g2, g3⟩ := newBox_ok h2
          exact ⟨_, _, h1 _ _ (act_buildSlice hT ho hd ht rfl hei hb.1.1 hb.1.2 hp hb.2 hl g1 g2 rfl), g3⟩
        · cases h2
    · cases h
  · cases h
include hT in
theorem storeE_ok {t : TypeId} {ad x : Operand} (ho : o.op = .store t ad x) (hdst : o.dst = none) (h : storeE T st t (evS st ad) (evS st x) k = some b) : Goes P st o k b := by
  unfold storeE at h
  rw [qY] at h
  split at h
  · rename_i ti j off s ht had hx
    rw [qY] at h
    split at h
    · rename_i cs xs hj hc
      cases hb : (xs.all oneS && Nat.beq xs.length ti.size && Nat.ble (off + xs.length) cs.length) with
      | false => rw [hb] at h; cases h
      | true =>
        rw [hb, cond_true, fOnes_eq, fOwn_eq, fN_eq] at h
        simp only [Bool.and_eq_true] at hb
        exact ⟨_, _, act_store hT ho hdst ht had hj hx hc hb.1.1 hb.1.2 hb.2 rfl, h⟩
    · cases h
  · rename_i ti j z i off s ht had hx
    rw [qY] at h
    split at h
    · rename_i e z' l xs hj hc
      cases hb : (Nat.beq z z' && xs.all oneP && Nat.beq xs.length ti.size && Nat.ble (off + xs.length) z && Nat.blt i l.length) with
      | false => rw [hb] at h; cases h
      | true =>
        rw [hb, cond_true, fLeafs_eq, wa, fOwn_eq, fN_eq] at h
        simp only [Bool.and_eq_true] at hb
        have ez : z = z' := Nat.eq_of_beq_eq_true hb.1.1.1.1
        subst ez
        exact ⟨_, _, act_store_elem hT ho hdst ht had hj (blt_lt hb.2) hx hc hb.1.1.1.2 hb.1.1.2 hb.1.2 rfl, h⟩
    · cases h
  · cases h
include hT in
theorem mapE_ok {t : TypeId} {m key x : Operand} (ho : o.op = .mapUpdate t m key x) (hdst : o.dst = none) (h : mapE T st t (evS st m) (evS st key) (evS st x) k = some b) : Goes P st o k b := by
  unfold mapE at h
  rw [qY] at h
  split at h
  · rename_i _ _ kt et _ _ j kv p ht hm hkv hx
    rw [qY, qY] at h
    split at h
    · rename_i ki es hki hj
      cases hb : (kdOk ki.d kv && es.all (fun x => kdOk ki.d x.1) && (mfind kv es).isNone) with
      | false => rw [hb] at h; cases h
      | true =>
        rw [hb, cond_true, fMap_eq, fOwn_eq, fN_eq] at h
        simp only [Bool.and_eq_true] at hb
        exact ⟨_, _, act_mapUpdate hT ho hdst ht rfl hki hm hj hkv hb.1.1 hb.1.2 (Option.isNone_iff_eq_none.1 hb.2) hx rfl, h⟩
    · cases h
  · cases h
section
variable {sx xx : Operand} {t e : TypeId} {cl : Call} (ho : o.op = .call cl) (hcl : cl.callee = .builtin .append) (hargs : cl.args.toList = [sx, xx]) (hts : cl.argTypes.toList = [t, t]) {d : Nat} (hdst : o.dst = some d)
  {ti ei : TyI} (ht : lk t T = some ti) (hte : ti.d = .sl e) (he : lk e T = some ei) (hsz : Nat.blt 0 ei.size = true) (hz : Nat.beq ei.zero.length ei.size = true)
include hT ho hcl hargs hts hdst ht hte he hsz hz
theorem appNil_ok (hs : evS st sx = some (.p (.v (.slice none 0 0)))) (h : appNil st d e ei (evS st xx) k = some b) : Goes P st o k b := by
  unfold appNil at h
  split at h
  · rename_i s2 hx
    split at h
    · rename_i l2 hl2
      cases hc : Nat.ble (l2.length * ei.bytes) 140737488355328 with
      | false => rw [hc] at h; cases h
      | true =>
        rw [hc, cond_true] at h
        obtain ⟨g1, g2, g3⟩ := newBox_ok h
        exact ⟨_, _, act_append_nil hT ho hcl hargs hts hdst ht hte he hsz hz hs hx hl2 g1 g2 (Nat.le_of_ble_eq_true hc) rfl, g3⟩
    · cases h
  · cases h
theorem appRow_ok {k : St → Option β} {j : Nat} (hn : Nat.blt d st.n = true) (hs : evS st sx = some (.row j)) (h : appRow st d e ei j (evS st xx) k = some b) : ∃ st', ActOk P [j] o st (fun s => s = st') ∧ k st' = some b := by
  unfold appRow at h
  rw [qY] at h
  split at h
  · rename_i e' z l s2 hj hx
    split at h
    · rename_i l2 hl2
      cases hc : (Nat.beq e' e && Nat.beq z ei.size && Nat.ble (l.length + l2.length) reachBytes && Nat.ble ((l.length + l2.length) * ei.bytes) 140737488355328 && (lk d (killO j st.own)).isNone) with
      | false => rw [hc] at h; cases h
      | true =>
        rw [hc, cond_true, wa, fSt_eq] at h
        simp only [Bool.and_eq_true] at hc
        have e1 : e' = e := Nat.eq_of_beq_eq_true hc.1.1.1.1
        have e2 : z = ei.size := Nat.eq_of_beq_eq_true hc.1.1.1.2
        subst e1 e2
        exact ⟨_, qp hT ho hcl hargs hts hdst ht hte he hsz hz hs hj hx hl2 (Option.isNone_iff_eq_none.1 hc.2) hn (Nat.le_of_ble_eq_true hc.1.1.2) (Nat.le_of_ble_eq_true hc.1.2) rfl, h⟩
    · cases h
  · cases h
theorem appView_ok {k : St → Option β} {j zv m : Nat} (hn : Nat.blt d st.n = true) (hs : evS st sx = some (.view j zv 0 m)) (h : appView st d e ei sx xx j zv m k = some b) : ∃ st', ActOk P [j] o st (fun s => s = st') ∧ k st' = some b := by
  unfold appView at h
  rw [qY] at h
  split at h
  · rename_i tt e' z l0 hj
    cases hc : ((lk 904999 st.own).isNone && Nat.beq zv z) with
    | false => rw [hc] at h; cases h
    | true =>
      rw [hc, cond_true, fSt_eq, evF_eq] at h
      simp only [Bool.and_eq_true] at hc
      have e1 : zv = z := Nat.eq_of_beq_eq_true hc.2
      subst e1
      obtain ⟨st', h1, h2⟩ := appRow_ok (st := shrunk st tt j zv m e' l0) hT ho hcl hargs hts hdst ht hte he hsz hz hn (show lk tt ((tt, SV.row 904999) :: killF j st.fr) = _ by rw [qE, if_pos rfl]) h
      exact ⟨st', ActOk.shrink tt 904999 hs hj (Option.isNone_iff_eq_none.1 hc.1) rfl h1, h2⟩
  · cases h
end
include hT in
theorem appE_ok {sx xx : Operand} {t : TypeId} {cl : Call} (ho : o.op = .call cl) (hcl : cl.callee = .builtin .append) (hargs : cl.args.toList = [sx, xx]) (hts : cl.argTypes.toList = [t, t]) (h : appE T st o sx xx t k = some b) : Goes P st o k b := by
  unfold appE at h
  simp only [qY, evF_eq] at h
  split at h
  · rename_i d _ _ e _ _ hd ht
    split at h
    · rename_i ei he
      cases hc : (Nat.blt 0 ei.size && Nat.beq ei.zero.length ei.size && Nat.blt d st.n) with
      | false => rw [hc] at h; cases h
      | true =>
        rw [hc, cond_true] at h
        simp only [Bool.and_eq_true] at hc
        split at h
        · rename_i hs; exact appNil_ok hT ho hcl hargs hts hd ht rfl he hc.1.1 hc.1.2 hs h
        · rename_i hs
          obtain ⟨st', h1, h2⟩ := appRow_ok hT ho hcl hargs hts hd ht rfl he hc.1.1 hc.1.2 hc.2 hs h
          exact ⟨_, st', h1, h2⟩
        · rename_i hs
          obtain ⟨st', h1, h2⟩ := appView_ok hT ho hcl hargs hts hd ht rfl he hc.1.1 hc.1.2 hc.2 hs h
          exact ⟨_, st', h1, h2⟩
        · cases h
    · cases h
  · cases h
def EvOk (P : Program) (cx : Cx) (ev : FuncId → FnI → List SV → List (Nat × Box) → Ret) : Prop := ∀ f fi args own r own', lk f cx.F = some fi → ev f fi args own = some (r, own') → zZ P f args own r own'
def TabOk (P : Program) (cx : Cx) : Prop := ∀ f ps r, cx.C f ps = some r → Holds P f ps r []
theorem callE_ok {cx : Cx} {ev : FuncId → FnI → List SV → List (Nat × Box) → Ret} (hev : EvOk P cx ev) (hC : TabOk P cx) {cl : Call} {fo : Operand} {sf : SV} {f : FuncId} {caps : List SV} (ho : o.op = .call cl) (hcl : cl.callee = .value fo) (hfo : evS st fo = some sf) (hfn : fnOf sf = some (f, caps))
    (h : callE cx ev st o (isPS sf) f caps cl.args.toList k = some b) : Goes P st o k b := by
  unfold callE at h
  rw [qY] at h
  split at h
  · rename_i fi hfi
    split at h
    · rw [fRen_eq] at h
      generalize ju true 1000000 _ = ρ at h
      unfold enterE at h
      split at h
      · rename_i own a c hown hargs hcaps
        cases hρ : rhoOk ρ with
        | false => rw [hρ] at h; cases h
        | true =>
          rw [hρ, cond_true, fOnes_eq, fOwn_eq] at h
          unfold backE at h
          split at h
          · rename_i r own' hr
            have hW := hev f fi _ _ r own' hfi hr
            cases hb : (zn st o.dst && backOk st ρ o.dst own') with
            | false => rw [hb] at h; cases h
            | true =>
              rw [hb, cond_true] at h
              simp only [Bool.and_eq_true] at hb
              split at h
              · rename_i st' hst
                rw [fSt_eq] at h
                exact ⟨_, st', act_call_RS ρ ho hcl hfo hfn hcaps hown hρ hargs hW hb.1 fun r' o' ⟨e1, e2⟩ => by subst e1 e2; exact ⟨st', hst, hb.2, rfl⟩, h⟩
              · cases h
          · cases h
      · cases h
    · cases h
  · split at h
    · rename_i cps ps ids hpf hp ha
      split at h
      · rename_i r hr
        cases hb : (flatS r && zn st o.dst) with
        | false => rw [hb] at h; cases h
        | true =>
          rw [hb, cond_true, putE_eq] at h
          simp only [Bool.and_eq_true] at hb
          have hcap : caps = cps.map .p := by
            obtain ⟨q1, q2⟩ := pures_get hp
            refine List.ext_getElem? fun i => ?_
            rw [q2, List.getElem?_map]
          have hsf : sf = .p (.fn f cps) ∨ sf = .fn f caps := by
            cases sf with
            | p x =>
              cases x with
              | fn g cs =>
                simp only [fnOf, Option.some.injEq, Prod.mk.injEq] at hfn
                obtain ⟨rfl, h2⟩ := hfn
                rw [hcap] at h2
                have : cs = cps := (List.map_inj_right (fun a b h => by cases h; rfl)).1 h2
                rw [this]; exact Or.inl rfl
              | _ => cases hfn
            | fn g cs =>
              simp only [fnOf, Option.some.injEq, Prod.mk.injEq] at hfn
              obtain ⟨rfl, rfl⟩ := hfn
              exact Or.inr rfl
            | _ => cases hfn
          rcases hsf with rfl | rfl
          · exact ⟨_, _, qg ho hcl hfo ha (hC f _ r hr) hb.2 hb.1 rfl, h⟩
          · cases hpf
      · cases h
    · cases h
end
theorem ActOk.mono {P : Program} {Ws : List Nat} {o : Oper} {st : St} {Q Q' : St → Prop} (h : ActOk P Ws o st Q) (hq : ∀ s, Q s → Q' s) : ActOk P Ws o st Q' := fun w0 Sx γ a w QQ hI => by
  refine Oper.wp_mono (fun a' w' h' => ?_) (h w0 Sx γ a w QQ hI)
  obtain ⟨γ', st', h1, h2⟩ := h'
  exact ⟨γ', st', hq _ h1, h2⟩
section
variable {P : Program} {cx : Cx} (hT : zh P cx.T) (hC : TabOk P cx) {ev : FuncId → FnI → List SV → List (Nat × Box) → Ret} (hev : EvOk P cx ev)
section
variable {st : St} {o : Oper} {β : Type} {k : List Nat → St → Option β} {b : β}
include hT hC hev in
theorem actE_ok (h : actE cx ev st o k = some b) : Goes P st o k b := by
  unfold actE at h
  simp only [evF_eq] at h
  split at h
  · rename_i ho; exact allocE_ok hT ho h
  · rename_i ho; exact boxE_ok ho h
  · rename_i ho
    split at h
    · rename_i hp; exact buildE_ok hT ho hp h
    · cases h
  · rename_i ho
    split at h
    · rename_i hd; exact storeE_ok hT ho hd h
    · cases h
  · rename_i ho
    split at h
    · rename_i d hd
      obtain ⟨h1, h2, h3⟩ := newBox_ok h
      exact ⟨_, _, act_makeMap ho hd h1 h2 rfl, h3⟩
    · cases h
  · rename_i ho
    split at h
    · rename_i hd; exact mapE_ok hT ho hd h
    · cases h
  · rename_i ho
    unfold acallE at h
    simp only [evF_eq] at h
    split at h
    · rename_i hcl
      split at h
      · rename_i hargs hts
        generalize hb : Nat.beq _ _ = q at h
        cases q with
        | false => cases h
        | true =>
          rw [cond_true] at h
          rename_i t t'
          have e1 : t = t' := Nat.eq_of_beq_eq_true hb
          subst e1
          exact appE_ok hT ho hcl hargs hts h
      · cases h
    · rename_i hcl
      split at h
      · rename_i hfo
        split at h
        · rename_i hfn; exact callE_ok hev hC ho hcl hfo hfn h
        · cases h
      · cases h
    · cases h
  · cases h
include hT hC hev in
theorem stepE_ok (h : stepE cx ev [] st o k = some b) : Goes P st o k b := by
  unfold stepE at h
  cases hr : isRd o.op with
  | false => rw [hr] at h; exact actE_ok hT hC hev h
  | true =>
    rw [hr, cond_true] at h
    cases hd : zn st o.dst with
    | false => rw [hd] at h; cases h
    | true =>
      rw [hd, cond_true] at h
      obtain ⟨s, h1, h2⟩ := opE_ok hT h
      rw [putE_eq] at h2
      exact ⟨_, _, qv h1 hd rfl, h2⟩
end
include hT hC hev in
theorem evT_ok {ops : List Oper} : ∀ {l : List Oper} {st st' : St}, evT cx ev ops l st = some st' → SWT P ops l (fun s => s = st') st
  | [], st, st', h => by
    simp only [evT, Option.some.injEq] at h
    exact qc h
  | o :: r, st, st', h => by
    unfold evT at h
    split at h
    · rename_i hw
      obtain ⟨Ws, st1, h1, h2⟩ := stepE_ok hT hC hev h
      exact qn hw (h1.mono fun s e => by subst e; exact evT_ok h2)
    · rename_i hw
      cases hd : zn st o.dst with
      | false => rw [hd] at h; cases h
      | true =>
        rw [hd, cond_true, putE_eq] at h
        exact swt_skip hw hd (evT_ok h)
    · cases h
theorem swp_rd {ops : List Oper} {K : List Nat} {κ : Kap} {st : St} {Q : St → Prop} {i : Nat} {r : List (Nat × Bool)} {o : Oper} {s : SV} (hi : nthO ops i = some o) (hw : zw ops st o = some true) (hr : RdO P K st o s) (hd : zn st o.dst = true) (h : SWP P ops ((i, K) :: κ) r Q (st.put o.dst s)) : SWP P ops κ ((i, true) :: r) Q st := fun w0 Sx γ a w QQ hI hQ => by
  have hrest := fun v (hv : RelS (okO Sx γ st.own) (hp γ st.own) w s v) => h w0 Sx γ _ w QQ (hI.put (dst := o.dst) hd hv) hQ
  simp only [wP] at hrest
  obtain ⟨v, h1, h2⟩ := hr w0 Sx γ a w hI
  exact ⟨wC, _, o, v, _, SameOn.refl _ _, (qZ ops i).trans hi, Or.inl ⟨zD hI hw, h2⟩, Covers.refl _, hrest v h1⟩
theorem mem_ok : ∀ {l : List Nat} {i : Nat}, mem i l = true → l.contains i = true
  | j :: r, i, h => by
    unfold mem at h
    cases hb : Nat.beq i j with
    | true => have := Nat.eq_of_beq_eq_true hb; subst this; simp
    | false =>
      rw [hb, cond_false] at h
      have := mem_ok h
      simp at this ⊢
      exact Or.inr this
theorem okW_ok {w : List Nat} {κ : Kap} (h : okW w κ = true) : κ.all (fun p => w.all fun j => p.2.contains j) = true :=
  List.all_eq_true.2 fun p hp => List.all_eq_true.2 fun j hj => mem_ok (List.all_eq_true.1 (List.all_eq_true.1 h p hp) j hj)
include hT hC hev in
theorem evM_ok {ops : List Oper} {K : List Nat} {chk : Bool} : ∀ {od : List (Nat × Bool)} {κ : Kap} {ws ws' : List Nat} {st st' : St}, evM cx ev ops K chk od κ ws st = some (ws', st') → (∀ i ∈ ws, i ∈ ws') ∧ (chk = true ∨ ws' = [] → SWP P ops κ od (fun s => s = st') st)
  | [], κ, ws, ws', st, st', h => by
    simp only [evM, Option.some.injEq, Prod.mk.injEq] at h
    obtain ⟨rfl, rfl⟩ := h
    exact ⟨fun _ h => h, fun _ => swp_nil rfl⟩
  | (i, b) :: r, κ, ws, ws', st, st', h => by
    unfold evM at h
    split at h
    · rename_i o hi
      split at h
      · rename_i hw
        cases b with
        | true =>
          rw [cond_true] at h
          cases hd : zn st o.dst with
          | false => rw [hd] at h; cases h
          | true =>
            rw [hd, cond_true, fNats_eq] at h
            obtain ⟨s, h1, h2⟩ := opE_ok hT h
            rw [putE_eq] at h2
            obtain ⟨h3, h4⟩ := evM_ok h2
            exact ⟨h3, fun hK => swp_rd hi hw h1 hd (h4 hK)⟩
        | false =>
          rw [cond_false] at h
          obtain ⟨Ws, st1, h1, h2⟩ := stepE_ok hT hC hev h
          replace h2 : (bif (!chk || okW Ws (kapB o κ)) then evM cx ev ops K chk r (kapB o κ) (Ws ++ ws) st1 else none) = some (ws', st') := h2
          cases hc : (!chk || okW Ws (kapB o κ)) with
          | false => rw [hc] at h2; cases h2
          | true =>
            rw [hc, cond_true] at h2
            obtain ⟨h3, h4⟩ := evM_ok h2
            refine ⟨fun i hi => h3 i (List.mem_append_right _ hi), fun hK => swp_act hi hw ?_ (h1.mono fun s e => by subst e; exact h4 hK)⟩
            rcases hK with hK | hK
            · subst hK
              exact okW_ok (by simpa using hc)
            · have : Ws = [] := by
                cases Ws with
                | nil => rfl
                | cons j l => have := h3 j (by simp); rw [hK] at this; cases this
              subst this
              exact List.all_eq_true.2 fun _ _ => rfl
      · rename_i hw
        cases hd : zn st o.dst with
        | false => rw [hd] at h; cases h
        | true =>
          rw [hd, cond_true, putE_eq] at h
          obtain ⟨h3, h4⟩ := evM_ok h
          exact ⟨h3, fun hK => swp_skip hi hw hd (h4 hK)⟩
      · cases h
    · cases h
include hT hC hev in
theorem evReg_ok (hm : P.follows .mixedOrders = true) {ords : List (Nat × List (Nat × Bool))} {id : Nat} {ops : Array Oper} {st st' : St} {d : Bool} (hd : d = true → chkR ords id ops = true) (h : evReg cx ev ords id ops.toList st d = some st') : SW P (.region id ops d) (fun e s => e = .normal ∧ s = st') st := by
  have hops : ops = ops.toList.toArray := by simp
  cases d with
  | false =>
    simp only [evReg] at h
    rw [hops]
    refine qa (fun w0 Sx γ a w QQ hI hQ => ?_)
    exact evT_ok hT hC hev h w0 Sx γ a w QQ hI fun s' γ' a' w' hI' hq => hQ s' γ' a' w' hI' ⟨rfl, hq⟩
  | true =>
    have hd := hd rfl
    simp only [evReg, qY] at h
    unfold chkR at hd
    split at h
    · rename_i od hod
      rw [hod] at hd
      simp only [Bool.and_eq_true] at hd
      rw [fNats_eq] at h
      have key : ∀ {K ws : List Nat} {chk : Bool} {st1 : St}, evM cx ev ops.toList K chk od [] [] st = some (ws, st1) → (chk = true ∨ ws = []) → SW P (.region id ops true) (fun e s => e = .normal ∧ s = st1) st := fun {K ws chk st1} h1 hK => by
        rw [hops]
        refine sw_region_pend od hm (by rw [← hops]; exact hd.1) (by rw [← hops]; simp only [Bool.and_eq_true]; exact hd.2) (fun w0 Sx γ a w QQ hI hQ => ?_)
        exact (evM_ok hT hC hev h1).2 hK w0 Sx γ a w QQ hI fun s' γ' a' w' hI' hq => hQ s' γ' a' w' hI' ⟨rfl, hq⟩
      split at h
      · rename_i h1
        cases h
        exact key h1 (.inl rfl)
      · split at h
        · rename_i h1
          cases h
          exact key h1 (.inr rfl)
        · rw [fNats_eq] at h
          split at h
          · rename_i h2
            cases h
            exact key h2 (.inl rfl)
          · cases h
        · cases h
    · cases h
end
section
variable {P : Program} {T : TT} (hT : zh P T)
include hT in
theorem resO_ok {st : St} {w0 : Base} {Sx : Nat → Prop} {γ : Nat → Value} {a : Act} {w : World} (hI : Sim w0 Sx γ st a w) {f : ResultVar → Sem Value} (hf1 : ∀ t, f (.tmp t) = pure (a.tmps.getD t undef)) (hf2 : ∀ c t, f (.cell c t) = (do loadVar t (← asAddr (a.tmps.getD c undef)))) {rv : ResultVar} {s : SV} (h : resO T st rv = some s) :
    ∃ v, (f rv).run P w = .ok v w ∧ RelS (okO Sx γ st.own) (hp γ st.own) w s v := by
  cases rv with
  | tmp t => exact ⟨_, by rw [hf1]; rfl, hI.fr t s h⟩
  | cell c t =>
    simp only [resO] at h
    split at h
    · rename_i hl hc
      cases h
      obtain ⟨v, h1, h2⟩ := rLoad_ok hT hI (x := .tmp c) (K := []) hl (rLoadC_ok hl (by rw [hc]; rfl))
      have h3 := h2 w (SameOn.refl _ _)
      have hv := hI.fr c _ hc
      obtain ⟨b, g, hb, _⟩ := hv.ptr_form
      refine ⟨v, ?_, h1⟩
      rw [show a.eval (.tmp c) = a.tmps.getD c undef from rfl, hb] at h3
      rw [hf2, hb]
      exact h3
    · cases h
include hT in
theorem resOs_ok {st : St} {w0 : Base} {Sx : Nat → Prop} {γ : Nat → Value} {a : Act} {w : World} (hI : Sim w0 Sx γ st a w) {f : ResultVar → Sem Value} (hf1 : ∀ t, f (.tmp t) = pure (a.tmps.getD t undef)) (hf2 : ∀ c t, f (.cell c t) = (do loadVar t (← asAddr (a.tmps.getD c undef)))) : ∀ {rs : List ResultVar} {l : List SV}, resOs T st rs = some l →
    ∃ vs : List Value, (rs.mapM f).run P w = .ok vs w ∧ vs.length = l.length ∧ l.length = rs.length ∧ ∀ (i : Nat) (s : SV) (u : Value), l[i]? = some s → vs[i]? = some u → RelS (okO Sx γ st.own) (hp γ st.own) w s u
  | [], l, h => by
    simp only [resOs, Option.some.injEq] at h
    subst h
    exact ⟨[], by simp, rfl, rfl, fun i s u hs => by simp at hs⟩
  | r :: rs, l, h => by
    unfold resOs at h
    split at h
    · rename_i s hs
      split at h
      · rename_i l' hl
        simp only [Option.some.injEq] at h
        subst h
        obtain ⟨v, h1, h2⟩ := resO_ok hT hI hf1 hf2 hs
        obtain ⟨vs, h3, h4, h5, h6⟩ := resOs_ok hI hf1 hf2 hl
        refine ⟨v :: vs, ?_, by simp [h4], by simp [h5], fun i s' u hs' hu => ?_⟩
        · rw [List.mapM_cons, Sem.run_bind, h1]
          simp only [Result.andThen_ok, Sem.run_bind, h3, Sem.run_pure]
        · cases i with
          | zero => simp at hs' hu; subst hs' hu; exact h2
          | succ i => exact h6 i s' u (by simpa using hs') (by simpa using hu)
      · cases h
    · cases h
include hT in
theorem resC_ok {fn : Func} {st : St} {w0 : Base} {Sx : Nat → Prop} {γ : Nat → Value} {a : Act} {w : World} (hI : Sim w0 Sx γ st a w) {rs : List ResultVar} {s : SV} (h : resC T st rs = some s) (hres : fn.results = rs.toArray) :
    ∃ v, (results fn a.tmps).run P w = .ok v w ∧ RelS (okO Sx γ st.own) (hp γ st.own) w s v := by
  have key : ∀ {l : List SV}, resOs T st rs = some l → ∃ vs : List Value, (results fn a.tmps).run P w = .ok (if h : vs.toArray.size = 1 then vs.toArray[0] else .tuple vs.toArray) w ∧ vs.length = l.length ∧ l.length = rs.length ∧ ∀ (i : Nat) (s : SV) (u : Value), l[i]? = some s → vs[i]? = some u → RelS (okO Sx γ st.own) (hp γ st.own) w s u := fun {l} hl => by
    have gen : ∀ f : ResultVar → Sem Value, (∀ t, f (.tmp t) = pure (a.tmps.getD t undef)) → (∀ c t, f (.cell c t) = (do loadVar t (← asAddr (a.tmps.getD c undef)))) →
        ∃ vs : List Value, ((do let vs ← rs.toArray.mapM f; pure (if h : vs.size = 1 then vs[0] else .tuple vs)) : Sem Value).run P w = .ok (if h : vs.toArray.size = 1 then vs.toArray[0] else .tuple vs.toArray) w ∧ vs.length = l.length ∧ l.length = rs.length ∧ ∀ (i : Nat) (s : SV) (u : Value), l[i]? = some s → vs[i]? = some u → RelS (okO Sx γ st.own) (hp γ st.own) w s u := fun f hf1 hf2 => by
      obtain ⟨vs, h3, h4, h5, h6⟩ := resOs_ok hT hI hf1 hf2 hl
      refine ⟨vs, ?_, h4, h5, h6⟩
      rw [Sem.run_bind, List.mapM_toArray, Sem.run_map, h3]
      simp only [Result.andThen_ok, Sem.run_pure]
    unfold results
    rw [hres]
    exact gen _ (fun _ => rfl) (fun _ _ => rfl)
  unfold resC at h
  split at h
  · rename_i r
    obtain ⟨vs, h1, h2, h3, h4⟩ := key (l := [s]) (by simp only [resOs, h])
    have hv : ∃ v, vs = [v] := by
      match vs, h2 with
      | [v], _ => exact ⟨v, rfl⟩
    obtain ⟨v, rfl⟩ := hv
    exact ⟨v, by rw [h1]; rfl, h4 0 s v rfl rfl⟩
  · rename_i hne
    split at h
    · rename_i l hl
      simp only [Option.some.injEq] at h
      subst h
      obtain ⟨vs, h1, h2, h3, h4⟩ := key hl
      have hn : ¬ vs.toArray.size = 1 := fun e => by
        rw [List.size_toArray, h2, h3] at e
        match rs, hne, e with
        | [r], hne, _ => exact hne r rfl
      rw [dif_neg hn] at h1
      exact ⟨_, h1, .tup h2 h4⟩
    · cases h
include hT in
theorem holdsV_of {f : FuncId} {fn : Func} {c : Code} {args : List SV} {own : List (Nat × Box)} {r : SV} {own' : List (Nat × Box)} {rs : List ResultVar} {e' : SEx} {st' : St} (hf : P.funcs[f]? = some fn) (hname : (fn.name == "runtime.NumGoroutine") = false) (hb : fn.body = some c)
    (hres : fn.results = rs.toArray) (hn : args.length ≤ fn.ntmps ∧ fn.ntmps ≤ 900) (h : SW P c (fun e s => e = e' ∧ s = st') ⟨fn.ntmps, jN 0 args, own⟩) (he : e' = .normal ∨ e' = .ret) (hfin : finE T rs st' = some (r, own')) : zZ P f args own r own' := by
  refine ⟨⟨fn, hf, hname, by rw [hb]; rfl⟩, fun w Sx γ vs hh hl hr => ?_⟩
  refine calls_of_wp hf hb ?_
  have hget : ∀ t, t < args.length → (vs.toArray ++ Array.replicate (fn.ntmps - vs.toArray.size) undef).getD t undef = vs[t]?.getD undef := fun t ht => by
    have : t < vs.length := by omega
    have h2 : (vs.toArray ++ Array.replicate (fn.ntmps - vs.toArray.size) undef)[t]? = vs[t]? := by
      rw [Array.getElem?_append_left (by simpa using this)]; simp
    rw [Array.getD_eq_getD_getElem?, h2]
  have hI : Sim (jX w γ own) Sx γ ⟨fn.ntmps, jN 0 args, own⟩ ⟨vs.toArray ++ Array.replicate (fn.ntmps - vs.toArray.size) undef, []⟩ w := by
    refine ⟨⟨Below.refl _ w, fun _ _ => rfl⟩, ⟨by simp; omega, hn.2⟩, rfl, fun t s ht => ?_, hh⟩
    obtain ⟨_, hx⟩ := argFrS_get ht
    simp only [Nat.sub_zero] at hx
    have hlt : t < args.length := (List.getElem?_eq_some_iff.1 hx).1
    have hv : vs[t]? = some (vs[t]'(by omega)) := List.getElem?_eq_getElem (by omega)
    show RelS _ _ _ _ ((vs.toArray ++ Array.replicate (fn.ntmps - vs.toArray.size) undef).getD t undef)
    rw [hget t hlt, hv]
    exact hr t s _ hx hv
  refine h _ Sx _ _ w _ hI fun e st2 γ' a' w' hI' hq => ?_
  obtain ⟨rfl, rfl⟩ := hq
  unfold finE at hfin
  split at hfin
  · rename_i s hs
    rw [fRen_eq] at hfin
    generalize ju false 0 _ = ρ at hfin
    split at hfin
    · rename_i r' o' hr' ho'
      cases hρ : renOk ρ with
      | false => rw [hρ] at hfin; cases hfin
      | true =>
        rw [hρ, cond_true, fSV_eq, fOwn_eq] at hfin
        cases hfin
        obtain ⟨γ3, k1, k2⟩ := heap_mapR hI'.heap ho' hρ
        obtain ⟨v, k3, k4⟩ := resC_ok hT hI' hs hres
        have fin : a'.defers = [] ∧ ∃ v, (results fn a'.tmps).run P w' = .ok v w' ∧ ∃ v' γ2 r1 own1, (r1 = r ∧ own1 = own') ∧ Ending.returned v = .returned v' ∧ BelowB (jX w γ own) w' ∧ HeapOk (jX w γ own) Sx γ2 own1 w' ∧ RelS (okO Sx γ2 own1) (hp γ2 own1) w' r1 v' :=
          ⟨hI'.defers, v, k3, v, γ3, r, own', ⟨rfl, rfl⟩, rfl, hI'.below, k1, k2 s v r k4 hr'⟩
        rcases he with rfl | rfl
        · exact fin
        · exact fin
    · cases hfin
  · cases hfin
end
def jmpW (l : Nat) (J : Act → World → Prop) (Q : Exit → Act → World → Prop) : Exit → Act → World → Prop
  | .goto l', a, w => l' = l ∧ J a w
  | e, a, w => Q e a w
theorem wp_scope_ghost {P : Program} {a : Act} {w : World} {Q : Exit → Act → World → Prop} {c rest : Code} (l : Nat) (J : Nat → Act → World → Prop) (hf : findLabel c l = some rest)
    (first : c.wp P (jmpW l (fun a w => ∃ n, J n a w) Q) a w)
    (pass : ∀ n a w, J n a w → rest.wp P (jmpW l (fun a' w' => ∃ m, m < n ∧ J m a' w') Q) a w) : (Code.scope c).wp P Q a w := by
  intro b k cs
  have hg : gotoIn l (.inScope c :: k) = some (.code rest :: .inScope c :: k) := by simp [gotoIn, hf]
  have key : ∀ n a w, J n a w → ∃ e a' w', Q e a' w' ∧ Arrives P (lone (b.at a (.code rest :: .inScope c :: k)) cs w) b k cs e a' w' := by
    intro n
    induction n using Nat.strongRecOn with
    | _ n ih =>
      intro a w hJ
      obtain ⟨e, a₁, w₁, hq, harr⟩ := pass n a w hJ b (.inScope c :: k) cs
      cases e with
      | normal => exact ⟨.normal, a₁, w₁, hq, Steps.trans harr (.one step_inScope)⟩
      | exit id => exact ⟨.exit id, a₁, w₁, hq, fun k' hk => harr k' (by simp [exitTo, hk])⟩
      | goto l' =>
        obtain ⟨rfl, m, hlt, hJ'⟩ := hq
        obtain ⟨e₂, a₂, w₂, hq₂, harr₂⟩ := ih m hlt a₁ w₁ hJ'
        exact ⟨e₂, a₂, w₂, hq₂, .of_steps (harr _ hg) harr₂⟩
      | ret => exact ⟨_, a₁, w₁, hq, harr⟩
      | panic ch => exact ⟨_, a₁, w₁, hq, harr⟩
      | outgrown => exact ⟨_, a₁, w₁, hq, harr⟩
  obtain ⟨e, a₁, w₁, hq, harr⟩ := first b (.inScope c :: k) cs
  cases e with
  | normal => exact ⟨.normal, a₁, w₁, hq, .head step_scope (Steps.trans harr (.one step_inScope))⟩
  | exit id => exact ⟨.exit id, a₁, w₁, hq, fun k' hk => .head step_scope (harr k' (by simp [exitTo, hk]))⟩
  | goto l' =>
    obtain ⟨rfl, m, hJ'⟩ := hq
    obtain ⟨e₂, a₂, w₂, hq₂, harr₂⟩ := key m a₁ w₁ hJ'
    exact ⟨e₂, a₂, w₂, hq₂, .of_steps (.head step_scope (harr _ hg)) harr₂⟩
  | ret => exact ⟨_, a₁, w₁, hq, .of_steps (.one step_scope) harr⟩
  | panic ch => exact ⟨_, a₁, w₁, hq, .of_steps (.one step_scope) harr⟩
  | outgrown => exact ⟨_, a₁, w₁, hq, .of_steps (.one step_scope) harr⟩
def jmpS (l : Nat) (J : St → Prop) (Q : SEx → St → Prop) : SEx → St → Prop
  | .goto l', s => l' = l ∧ J s
  | e, s => Q e s
theorem sw_goto {P : Program} {Q : SEx → St → Prop} {st : St} {l : Nat} (h : Q (.goto l) st) : SW P (.goto l) Q st := fun _ _ γ a w _ hI hQ => wp_goto (hQ (.goto l) st γ a w hI h)
theorem sw_scope0 {P : Program} {Q : SEx → St → Prop} {st : St} {c : Code} (h : SW P c (fun e s => Q e s ∧ ∀ l, e ≠ .goto l) st) : SW P (.scope c) Q st := fun w0 Sx γ a w QQ hI hQ => by
  refine wp_scope_straight (h w0 Sx γ a w _ hI fun e s' γ' a' w' hI' hq => ?_)
  cases e with
  | goto l => exact absurd rfl (hq.2 l)
  | normal => exact hQ .normal s' γ' a' w' hI' hq.1
  | exit id => exact hQ (.exit id) s' γ' a' w' hI' hq.1
  | ret => exact hQ .ret s' γ' a' w' hI' hq.1
theorem sw_scope {P : Program} {Q : SEx → St → Prop} {st : St} {c rest : Code} (l : Nat) (I : Nat → St → Prop) (hf : findLabel c l = some rest) (first : SW P c (jmpS l (fun s' => ∃ n s'', Wk s' s'' ∧ I n s'') Q) st)
    (round : ∀ n s, I n s → SW P rest (jmpS l (fun s' => ∃ m s'', m < n ∧ Wk s' s'' ∧ I m s'') Q) s) : SW P (.scope c) Q st := fun w0 Sx γ a w QQ hI hQ => by
  refine wp_scope_ghost l (fun n a w => ∃ s γ, I n s ∧ Sim w0 Sx γ s a w) hf (first w0 Sx γ a w _ hI fun e s' γ' a' w' hI' hq => ?_) fun n a w ⟨s, γ, hn, hI⟩ => round n s hn w0 Sx γ a w _ hI fun e s' γ' a' w' hI' hq => ?_
  · cases e with
    | goto l' =>
      obtain ⟨rfl, n, s'', hwk, hn⟩ := hq
      obtain ⟨γ'', hI''⟩ := hwk w0 Sx γ' a' w' hI'
      exact ⟨rfl, n, s'', γ'', hn, hI''⟩
    | normal => exact hQ .normal s' γ' a' w' hI' hq
    | exit id => exact hQ (.exit id) s' γ' a' w' hI' hq
    | ret => exact hQ .ret s' γ' a' w' hI' hq
  · cases e with
    | goto l' =>
      obtain ⟨rfl, m, s'', hlt, hwk, hm⟩ := hq
      obtain ⟨γ'', hI''⟩ := hwk w0 Sx γ' a' w' hI'
      exact ⟨rfl, m, hlt, s'', γ'', hm, hI''⟩
    | normal => exact hQ .normal s' γ' a' w' hI' hq
    | exit id => exact hQ (.exit id) s' γ' a' w' hI' hq
    | ret => exact hQ .ret s' γ' a' w' hI' hq
theorem chkC_label {ords : List (Nat × List (Nat × Bool))} {l : Nat} : ∀ {c rest : Code}, chkC ords c = true → findLabel c l = some rest → chkC ords rest = true := by
  intro c
  induction c with
  | seq a b iha ihb =>
    intro rest h hf
    simp only [chkC, Bool.and_eq_true] at h
    simp only [findLabel] at hf
    split at hf
    · rename_i r hr
      cases hf
      simp only [chkC, Bool.and_eq_true]
      exact ⟨iha h.1 hr, h.2⟩
    · exact ihb h.2 hf
  | label l' =>
    intro rest h hf
    simp only [findLabel] at hf
    split at hf
    · cases hf; rfl
    · cases hf
  | _ => intro rest h hf; cases hf
def FOk (P : Program) (cx : Cx) : Prop := ∀ f fi, lk f cx.F = some fi → ∃ fn, P.funcs[f]? = some fn ∧ (fn.name == "runtime.NumGoroutine") = false ∧ fn.body = some fi.c ∧ fn.results = fi.ts.toArray ∧ fn.ntmps = fi.n ∧ Nat.ble fi.n 900 = true ∧ chkC fi.ords fi.c = true
theorem turnE_ok {β : Type} {ts : List Nat} {st : St} {k : St → Option β} {b : β} (h : turnE ts st k = some b) : ∃ st', Wk st st' ∧ k st' = some b := by
  unfold turnE at h
  rw [fRen_eq] at h
  generalize ju false 905000 _ = ρ at h
  cases hρ : renOk ρ with
  | false => rw [hρ] at h; cases h
  | true =>
    rw [hρ, cond_true] at h
    split at h
    · rename_i st' hst
      rw [fSt_eq] at h
      exact ⟨st', qq ts ρ hst hρ, h⟩
    · cases h
section
variable {P : Program} {cx : Cx} (hT : zh P cx.T) (hC : TabOk P cx) (hF : FOk P cx) (hm : P.follows .mixedOrders = true)
theorem jM {α β : Type} {a a' : α} {b b' : β} (h : some (a, b) = some (a', b')) : a = a' ∧ b = b' := by cases h; exact ⟨rfl, rfl⟩
include hT hC hF hm in
theorem evN_ok : ∀ n ords c st e s', chkC ords c = true → evN cx n ords c st = some (e, s') → SW P c (fun e1 s1 => e1 = e ∧ s1 = s') st := by
  intro n
  induction n using Nat.strongRecOn with
  | ind n IH =>
  cases n with
  | zero => intro ords c st e s' _ h; cases h
  | succ n =>
    have hev : EvOk P cx (fun _ fi args own => bif Nat.ble args.length fi.n then finR cx.T fi.ts (evN cx n fi.ords fi.c ⟨fi.n, jN 0 args, own⟩) else none) := by
      intro f fi args own r own' hfi h
      obtain ⟨fn, h1, h2, h3, h4, h5, h6, h7⟩ := hF f fi hfi
      cases hb : Nat.ble args.length fi.n with
      | false => simp only [hb, cond_false] at h; cases h
      | true =>
        simp only [hb, cond_true] at h
        unfold finR at h
        have hn : args.length ≤ fn.ntmps ∧ fn.ntmps ≤ 900 := by rw [h5]; exact ⟨Nat.le_of_ble_eq_true hb, Nat.le_of_ble_eq_true h6⟩
        split at h
        · rename_i st' he
          exact holdsV_of hT h1 h2 h3 h4 hn (by rw [h5]; exact IH n (Nat.lt_succ_self n) _ _ _ _ _ h7 he) (Or.inl rfl) h
        · rename_i st' he
          exact holdsV_of hT h1 h2 h3 h4 hn (by rw [h5]; exact IH n (Nat.lt_succ_self n) _ _ _ _ _ h7 he) (Or.inr rfl) h
        · cases h
    intro ords c
    induction c with
    | skip =>
      intro st e s' _ h
      obtain ⟨rfl, rfl⟩ := jM h
      exact qm ⟨rfl, rfl⟩
    | region id ops d =>
      intro st e s' hc h
      have h : (match evReg cx _ ords id ops.toList st d with | some st' => some (SEx.normal, st') | none => none) = some (e, s') := h
      split at h
      · rename_i st' hr
        obtain ⟨rfl, rfl⟩ := jM h
        exact (evReg_ok hT hC hev hm (fun hd => by subst hd; exact hc) hr).mono fun e s q => q
      · cases h
    | seq a b iha ihb =>
      intro st e s' hc h
      simp only [chkC, Bool.and_eq_true] at hc
      have h : (match evN cx (n + 1) ords a st with | some (.normal, st') => evN cx (n + 1) ords b st' | r => r) = some (e, s') := h
      refine qb ?_
      split at h
      · rename_i st1 ha
        exact (iha st _ _ hc.1 ha).mono fun e1 s1 ⟨q1, q2⟩ => by subst q1 q2; exact ihb _ _ _ hc.2 h
      · rename_i hne
        refine (iha st _ _ hc.1 h).mono fun e1 s1 ⟨q1, q2⟩ => ?_
        subst q1 q2
        cases e1 with
        | normal => exact absurd h (hne s1)
        | _ => exact ⟨rfl, rfl⟩
    | cond x a b iha ihb =>
      intro st e s' hc h
      simp only [chkC, Bool.and_eq_true] at hc
      have h : (match evF st x with | some (.p (.v (.bool true))) => evN cx (n + 1) ords a st | some (.p (.v (.bool false))) => evN cx (n + 1) ords b st | _ => none) = some (e, s') := h
      rw [evF_eq] at h
      split at h
      · rename_i hx
        exact qf hx (fun _ => iha _ _ _ hc.1 h) fun q => by cases q
      · rename_i hx
        exact qf hx (fun q => by cases q) fun _ => ihb _ _ _ hc.2 h
      · cases h
    | block id b ih =>
      intro st e s' hc h
      have h : (match evN cx (n + 1) ords b st with | some (.exit i, st') => bif Nat.beq i id then some (SEx.normal, st') else some (.exit i, st') | r => r) = some (e, s') := h
      refine ql ?_
      split at h
      · rename_i i st' hb
        refine (ih st _ _ hc hb).mono fun e1 s1 ⟨q1, q2⟩ => ?_
        subst q1 q2
        show (bif Nat.beq i id then _ else _)
        cases hi : Nat.beq i id with
        | true => rw [hi] at h; obtain ⟨rfl, rfl⟩ := jM h; exact ⟨rfl, rfl⟩
        | false => rw [hi] at h; obtain ⟨rfl, rfl⟩ := jM h; exact ⟨rfl, rfl⟩
      · rename_i hne
        refine (ih st _ _ hc h).mono fun e1 s1 ⟨q1, q2⟩ => ?_
        subst q1 q2
        cases e1 with
        | exit i => exact absurd h (hne i s1)
        | _ => exact ⟨rfl, rfl⟩
    | loop b ih =>
      intro st e s' hc h
      have hbody : ∀ m, m ≤ n → ∀ s e2 s2, evN cx (m + 1) ords b s = some (e2, s2) → SW P b (fun e1 s1 => e1 = e2 ∧ s1 = s2) s := fun m hmn s e2 s2 h2 => by
        rcases Nat.lt_or_eq_of_le hmn with hlt | rfl
        · exact IH (m + 1) (by omega) ords b s e2 s2 hc h2
        · exact ih s e2 s2 hc h2
      refine qO (fun m s => m ≤ n + 1 ∧ evN cx m ords (.loop b) s = some (e, s')) (n + 1) ⟨Nat.le_refl _, h⟩ ?_
      rintro m s ⟨hmn, h2⟩
      cases m with
      | zero => cases h2
      | succ m =>
        have h2 : (fNats (keys s.fr []) fun ts => match evN cx (m + 1) ords b s with | some (.normal, st') => turnE ts st' fun st'' => evN cx m ords (.loop b) st'' | r => r) = some (e, s') := h2
        rw [fNats_eq] at h2
        split at h2
        · rename_i st1 hb
          obtain ⟨st2, h3, h4⟩ := turnE_ok h2
          exact (hbody m (by omega) s _ _ hb).mono fun e1 s1 ⟨q1, q2⟩ => by
            subst q1 q2
            exact ⟨m, st2, Nat.lt_succ_self m, h3, by omega, h4⟩
        · rename_i hne
          refine (hbody m (by omega) s _ _ h2).mono fun e1 s1 ⟨q1, q2⟩ => ?_
          subst q1 q2
          cases e1 with
          | normal => exact absurd h2 (hne s1)
          | _ => exact ⟨rfl, rfl⟩
    | exit id =>
      intro st e s' _ h
      obtain ⟨rfl, rfl⟩ := jM h
      exact qK ⟨rfl, rfl⟩
    | ret =>
      intro st e s' _ h
      obtain ⟨rfl, rfl⟩ := jM h
      exact qk ⟨rfl, rfl⟩
    | label l =>
      intro st e s' _ h
      obtain ⟨rfl, rfl⟩ := jM h
      exact sw_label ⟨rfl, rfl⟩
    | rangeFunc _ _ _ _ _ _ => intro st e s' _ h; cases h
    | goto l =>
      intro st e s' _ h
      obtain ⟨rfl, rfl⟩ := jM h
      exact sw_goto ⟨rfl, rfl⟩
    | scope b ih =>
      intro st e s' hc h
      have h : (match evN cx (n + 1) ords b st with | some (.goto l, st') => turnE (keys st'.fr []) st' fun st'' => evJ cx n ords b l st'' | r => r) = some (e, s') := h
      split at h
      · rename_i l st1 hb
        obtain ⟨st2, h3, h4⟩ := turnE_ok h
        have hrest : ∃ rest, findLabel b l = some rest := by
          cases n with
          | zero => cases h4
          | succ n =>
            have h4 : jumpE (evN cx (n + 1) ords) (evJ cx n ords b l) b l st2 = some (e, s') := h4
            unfold jumpE at h4
            split at h4
            · rename_i rest hr; exact ⟨rest, hr⟩
            · cases h4
        obtain ⟨rest, hr⟩ := hrest
        refine sw_scope l (fun m s => m ≤ n ∧ evJ cx m ords b l s = some (e, s')) hr ((ih st _ _ hc hb).mono fun e1 s1 ⟨q1, q2⟩ => by subst q1 q2; exact ⟨rfl, n, st2, h3, Nat.le_refl _, h4⟩) ?_
        rintro m s ⟨hmn, h2⟩
        cases m with
        | zero => cases h2
        | succ m =>
          have h2 : jumpE (evN cx (m + 1) ords) (evJ cx m ords b l) b l s = some (e, s') := h2
          unfold jumpE at h2
          rw [hr] at h2
          simp only at h2
          split at h2
          · rename_i l' st3 hx
            cases hl : Nat.beq l' l with
            | false => rw [hl] at h2; cases h2
            | true =>
              rw [hl, cond_true] at h2
              have el : l' = l := Nat.eq_of_beq_eq_true hl
              subst el
              obtain ⟨st4, h5, h6⟩ := turnE_ok h2
              exact (IH (m + 1) (by omega) ords rest s _ _ (chkC_label (c := b) hc hr) hx).mono fun e1 s1 ⟨q1, q2⟩ => by
                subst q1 q2
                exact ⟨rfl, m, st4, Nat.lt_succ_self m, h5, by omega, h6⟩
          · rename_i hne
            refine (IH (m + 1) (by omega) ords rest s _ _ (chkC_label (c := b) hc hr) h2).mono fun e1 s1 ⟨q1, q2⟩ => ?_
            subst q1 q2
            cases e1 with
            | goto l' => exact absurd h2 (hne l' s1)
            | _ => exact ⟨rfl, rfl⟩
      · rename_i hne
        refine sw_scope0 ((ih st _ _ hc h).mono fun e1 s1 ⟨q1, q2⟩ => ?_)
        subst q1 q2
        refine ⟨⟨rfl, rfl⟩, fun l hl => ?_⟩
        subst hl
        exact hne l s1 h
    | refuse _ => intro st e s' _ h; cases h
noncomputable def evF1 (cx : Cx) (n : Nat) (f : FuncId) (args : List SV) (own : List (Nat × Box)) : Ret := match lkF f cx.F with
  | some fi => bif Nat.ble args.length fi.n then finR cx.T fi.ts (evN cx n fi.ords fi.c ⟨fi.n, jN 0 args, own⟩) else none
  | none => none
include hT hC hF hm in
theorem zT {n : Nat} {f : FuncId} {args : List SV} {own : List (Nat × Box)} {r : SV} {own' : List (Nat × Box)} (h : evF1 cx n f args own = some (r, own')) : zZ P f args own r own' := by
  unfold evF1 at h
  rw [qY] at h
  split at h
  · rename_i fi hfi
    obtain ⟨fn, h1, h2, h3, h4, h5, h6, h7⟩ := hF f fi hfi
    cases hb : Nat.ble args.length fi.n with
    | false => rw [hb] at h; cases h
    | true =>
      rw [hb, cond_true] at h
      unfold finR at h
      have hn : args.length ≤ fn.ntmps ∧ fn.ntmps ≤ 900 := by rw [h5]; exact ⟨Nat.le_of_ble_eq_true hb, Nat.le_of_ble_eq_true h6⟩
      split at h
      · rename_i st' he
        exact holdsV_of hT h1 h2 h3 h4 hn (by rw [h5]; exact evN_ok hT hC hF hm n _ _ _ _ _ h7 he) (Or.inl rfl) h
      · rename_i st' he
        exact holdsV_of hT h1 h2 h3 h4 hn (by rw [h5]; exact evN_ok hT hC hF hm n _ _ _ _ _ h7 he) (Or.inr rfl) h
      · cases h
  · cases h
end
theorem baseOf_nil (w : World) (γ : Nat → Value) : jX w γ [] = entry w := by
  unfold jX entry
  congr 1
  · funext b; exact propext ⟨fun h => h.1, fun h => ⟨h, fun i bx hi => by cases hi⟩⟩
  · funext i; split <;> rfl
theorem Holds.ofW {P : Program} {f : FuncId} {args : List PV} {r : SV} {own' : List (Nat × Box)} (h : zZ P f (args.map .p) [] r own') : Holds P f args r own' := by
  refine ⟨h.1, fun w Sx vs hSx hl hr => (h.2 w Sx (fun _ => .nilIface) vs (by rw [baseOf_nil]; exact heap_nil hSx _) (by simpa using hl) fun i s u hs hu => ?_).mono fun e w' he => ?_⟩
  · rw [List.getElem?_map] at hs
    obtain ⟨x, hx, rfl⟩ := Option.map_eq_some_iff.1 hs
    exact .p ((hr i x u hx hu).weak fun b _ hok => ⟨hok, fun i bx hi => by cases hi⟩)
  · obtain ⟨v, γ', r', o', ⟨rfl, rfl⟩, h1, h2, h3, h4⟩ := he
    rw [baseOf_nil] at h2 h3
    exact ⟨v, γ', h1, belowB_entry.1 h2, h3, h4⟩
def FnOk (P : Program) (f : FuncId) (fi : FnI) : Prop := ∃ fn, P.funcs[f]? = some fn ∧ (fn.name == "runtime.NumGoroutine") = false ∧ fn.body = some fi.c ∧ fn.results = fi.ts.toArray ∧ fn.ntmps = fi.n ∧ Nat.ble fi.n 900 = true ∧ chkC fi.ords fi.c = true
theorem fok_nil {P : Program} {T : TT} {C : FuncId → List PV → Option SV} : FOk P ⟨T, [], C⟩ := fun f fi h => by cases h
theorem qj {P : Program} {T : TT} {C : FuncId → List PV → Option SV} {F : List (FuncId × FnI)} {f : FuncId} {fi : FnI} (h : FnOk P f fi) (r : FOk P ⟨T, F, C⟩) : FOk P ⟨T, (f, fi) :: F, C⟩ := fun g gi hg => by
  have h2 : lk g ((f, fi) :: F) = some gi := hg
  clear hg
  rw [qE] at h2
  by_cases e : g = f
  · rw [if_pos e] at h2
    obtain rfl := Option.some.inj h2
    subst e; exact h
  · rw [if_neg e] at h2; exact r g gi h2
end Go.Proofs.YtppfcacnofjmdaaGreatDoor
namespace Go.Proofs.YtppfcacnofjmdaaGreatDoor
open Go.RowKit
noncomputable def fnsm141 : FnI := ⟨31, Tryz.f141.body.getD .skip, [.tmp 6], []⟩
theorem fnsm141_ok : FnOk Tryz.prog 141 fnsm141 := ⟨_, Tryz.func141, by kernel_rfl, by kernel_rfl, by kernel_rfl, by kernel_rfl, by kernel_rfl, by kernel_rfl⟩
noncomputable def fnsm107 : FnI := ⟨26, Tryz.f107.body.getD .skip, [.tmp 4], []⟩
theorem fnsm107_ok : FnOk Tryz.prog 107 fnsm107 := ⟨_, Tryz.func107, by kernel_rfl, by kernel_rfl, by kernel_rfl, by kernel_rfl, by kernel_rfl, by kernel_rfl⟩
noncomputable def fnsm137 : FnI := ⟨8, Tryz.f137.body.getD .skip, [.tmp 4], []⟩
theorem fnsm137_ok : FnOk Tryz.prog 137 fnsm137 := ⟨_, Tryz.func137, by kernel_rfl, by kernel_rfl, by kernel_rfl, by kernel_rfl, by kernel_rfl, by kernel_rfl⟩
noncomputable def fnsm136 : FnI := ⟨10, Tryz.f136.body.getD .skip, [.tmp 2, .tmp 3], []⟩
theorem fnsm136_ok : FnOk Tryz.prog 136 fnsm136 := ⟨_, Tryz.func136, by kernel_rfl, by kernel_rfl, by kernel_rfl, by kernel_rfl, by kernel_rfl, by kernel_rfl⟩
noncomputable def fnsm140 : FnI := ⟨13, Tryz.f140.body.getD .skip, [.tmp 2], []⟩
theorem fnsm140_ok : FnOk Tryz.prog 140 fnsm140 := ⟨_, Tryz.func140, by kernel_rfl, by kernel_rfl, by kernel_rfl, by kernel_rfl, by kernel_rfl, by kernel_rfl⟩
noncomputable def fnsm139 : FnI := ⟨5, Tryz.f139.body.getD .skip, [.tmp 2], []⟩
theorem fnsm139_ok : FnOk Tryz.prog 139 fnsm139 := ⟨_, Tryz.func139, by kernel_rfl, by kernel_rfl, by kernel_rfl, by kernel_rfl, by kernel_rfl, by kernel_rfl⟩
noncomputable def fnsm109 : FnI := ⟨13, Tryz.f109.body.getD .skip, [.tmp 2], []⟩
theorem fnsm109_ok : FnOk Tryz.prog 109 fnsm109 := ⟨_, Tryz.func109, by kernel_rfl, by kernel_rfl, by kernel_rfl, by kernel_rfl, by kernel_rfl, by kernel_rfl⟩
noncomputable def fnsm108 : FnI := ⟨29, Tryz.f108.body.getD .skip, [.tmp 2], []⟩
theorem fnsm108_ok : FnOk Tryz.prog 108 fnsm108 := ⟨_, Tryz.func108, by kernel_rfl, by kernel_rfl, by kernel_rfl, by kernel_rfl, by kernel_rfl, by kernel_rfl⟩
noncomputable def fnsm25 : FnI := ⟨9, Tryz.f25.body.getD .skip, [.tmp 2], []⟩
theorem fnsm25_ok : FnOk Tryz.prog 25 fnsm25 := ⟨_, Tryz.func25, by kernel_rfl, by kernel_rfl, by kernel_rfl, by kernel_rfl, by kernel_rfl, by kernel_rfl⟩
noncomputable def fnsm20 : FnI := ⟨6, Tryz.f20.body.getD .skip, [.tmp 2], []⟩
theorem fnsm20_ok : FnOk Tryz.prog 20 fnsm20 := ⟨_, Tryz.func20, by kernel_rfl, by kernel_rfl, by kernel_rfl, by kernel_rfl, by kernel_rfl, by kernel_rfl⟩
noncomputable def fnsm48 : FnI := ⟨16, Tryz.f48.body.getD .skip, [.tmp 2], []⟩
theorem fnsm48_ok : FnOk Tryz.prog 48 fnsm48 := ⟨_, Tryz.func48, by kernel_rfl, by kernel_rfl, by kernel_rfl, by kernel_rfl, by kernel_rfl, by kernel_rfl⟩
noncomputable def FnsMF : List (FuncId × FnI) := [(141, fnsm141),
  (107, fnsm107),
  (137, fnsm137),
  (136, fnsm136),
  (140, fnsm140),
  (139, fnsm139),
  (109, fnsm109),
  (108, fnsm108),
  (25, fnsm25),
  (20, fnsm20),
  (48, fnsm48)]
theorem wH (C : FuncId → List PV → Option SV) : FOk Tryz.prog ⟨TTab, FnsMF, C⟩ := qj fnsm141_ok <|
  qj fnsm107_ok <|
  qj fnsm137_ok <|
  qj fnsm136_ok <|
  qj fnsm140_ok <|
  qj fnsm139_ok <|
  qj fnsm109_ok <|
  qj fnsm108_ok <|
  qj fnsm25_ok <|
  qj fnsm20_ok <|
  qj fnsm48_ok <| fok_nil
end Go.Proofs.YtppfcacnofjmdaaGreatDoor
namespace Go.Proofs.YtppfcacnofjmdaaGreatDoor
set_option linter.unusedVariables false
set_option linter.unusedSimpArgs false
def decF : Nat → Nat → List UInt8
  | 0, _ => []
  | f + 1, u => bif Nat.blt u 10 then [UInt8.ofNat (48 + u)] else decF f (u / 10) ++ [UInt8.ofNat (48 + u % 10)]
def itoaF (n : Int) : List UInt8 := match n with
  | .ofNat u => decF 20 u
  | .negSucc u => 45 :: decF 20 (u + 1)
end Go.Proofs.YtppfcacnofjmdaaGreatDoor
namespace Go.Proofs.YtppfcacnofjmdaaGreatDoor
open Go.RowKit Go.Shelf
def laysItoa_ren : Go.Shelf.Ren := ⟨fun | 171 => 172 | 243 => 176 | 246 => 177 | 283 => 178 | 284 => 179 | 285 => 180 | 286 => 181 | 129 => 183 | 317 => 182 | 318 => 184 | 319 => 185 | 320 => 186 | 337 => 187 | 338 => 188 | n => n, fun | 3 => 3 | 9 => 9 | 2 => 2 | 4 => 4 | 171 => 251 | 0 => 0 | 53 => 236 | 37 => 214 | 5 => 5 | 173 => 254 | 212 => 257 | 51 => 258 | 20 => 20 | 213 => 259 | 46 => 239 | 232 => 262 | 233 => 263 | n => n, fun | 17 => 3 | 18 => 4 | 19 => 5 | n => n⟩
theorem laysItoa : Go.Proofs.LaysM.n171 Tryz.prog laysItoa_ren := {
  mixed := by kernel_rfl
  f129 := Tryz.func183.trans (congrArg some (by kernel_rfl))
  f171 := Tryz.func172.trans (congrArg some (by kernel_rfl))
  f243 := Tryz.func176.trans (congrArg some (by kernel_rfl))
  f246 := Tryz.func177.trans (congrArg some (by kernel_rfl))
  f283 := Tryz.func178.trans (congrArg some (by kernel_rfl))
  f284 := Tryz.func179.trans (congrArg some (by kernel_rfl))
  f285 := Tryz.func180.trans (congrArg some (by kernel_rfl))
  f286 := Tryz.func181.trans (congrArg some (by kernel_rfl))
  f317 := Tryz.func182.trans (congrArg some (by kernel_rfl))
  f318 := Tryz.func184.trans (congrArg some (by kernel_rfl))
  f319 := Tryz.func185.trans (congrArg some (by kernel_rfl))
  f320 := Tryz.func186.trans (congrArg some (by kernel_rfl))
  f337 := Tryz.func187.trans (congrArg some (by kernel_rfl))
  f338 := Tryz.func188.trans (congrArg some (by kernel_rfl))
  t0 := Tryz.underlying0
  a0 := Tryz.isAgg0
  z0 := Tryz.sizeOf0
  v0 := Tryz.zeroValue0
  t2 := Tryz.underlying2
  a2 := Tryz.isAgg2
  z2 := Tryz.sizeOf2
  v2 := Tryz.zeroValue2
  t3 := Tryz.underlying3
  a3 := Tryz.isAgg3
  z3 := Tryz.sizeOf3
  v3 := Tryz.zeroValue3
  t4 := Tryz.underlying4
  a4 := Tryz.isAgg4
  z4 := Tryz.sizeOf4
  v4 := Tryz.zeroValue4
  t5 := Tryz.underlying5
  a5 := Tryz.isAgg5
  z5 := Tryz.sizeOf5
  v5 := Tryz.zeroValue5
  t9 := Tryz.underlying9
  a9 := Tryz.isAgg9
  z9 := Tryz.sizeOf9
  v9 := Tryz.zeroValue9
  t20 := Tryz.underlying20
  a20 := Tryz.isAgg20
  z20 := Tryz.sizeOf20
  v20 := Tryz.zeroValue20
  t37 := Tryz.underlying214
  a37 := Tryz.isAgg214
  z37 := Tryz.sizeOf214
  v37 := Tryz.zeroValue214
  t46 := Tryz.underlying239
  a46 := Tryz.isAgg239
  z46 := Tryz.sizeOf239
  v46 := Tryz.zeroValue239
  t51 := Tryz.underlying258
  a51 := Tryz.isAgg258
  z51 := Tryz.sizeOf258
  v51 := Tryz.zeroValue258
  t53 := Tryz.underlying236
  a53 := Tryz.isAgg236
  z53 := Tryz.sizeOf236
  v53 := Tryz.zeroValue236
  t171 := Tryz.underlying251
  a171 := Tryz.isAgg251
  z171 := Tryz.sizeOf251
  v171 := Tryz.zeroValue251
  t173 := Tryz.underlying254
  a173 := Tryz.isAgg254
  z173 := Tryz.sizeOf254
  v173 := Tryz.zeroValue254
  t212 := Tryz.underlying257
  a212 := Tryz.isAgg257
  z212 := Tryz.sizeOf257
  v212 := Tryz.zeroValue257
  t213 := Tryz.underlying259
  a213 := Tryz.isAgg259
  z213 := Tryz.sizeOf259
  t232 := Tryz.underlying262
  a232 := Tryz.isAgg262
  z232 := Tryz.sizeOf262
  v232 := Tryz.zeroValue262
  t233 := Tryz.underlying263
  a233 := Tryz.isAgg263
  z233 := Tryz.sizeOf263
  v233 := Tryz.zeroValue263
  g17 := by kernel_rfl
  g18 := by kernel_rfl
  g19 := by kernel_rfl
  i0 := by kernel_rfl
  i2 := by kernel_rfl
  i3 := by kernel_rfl
  i4 := by kernel_rfl
  i5 := by kernel_rfl
  i9 := by kernel_rfl
  i20 := by kernel_rfl
  i37 := by kernel_rfl
  i46 := by kernel_rfl
  i51 := by kernel_rfl
  i53 := by kernel_rfl
  i171 := by kernel_rfl
  i173 := by kernel_rfl
  i212 := by kernel_rfl
  i232 := by kernel_rfl
  i233 := by kernel_rfl
  m17 := by kernel_rfl
  m18 := by kernel_rfl
  m19 := by kernel_rfl
}
def laysIdx_ren : Go.Shelf.Ren := ⟨fun | 137 => 127 | 217 => 150 | 266 => 158 | n => n, fun | 9 => 9 | 5 => 5 | 3 => 3 | n => n, fun | n => n⟩
theorem laysIdx : Go.Proofs.Lays.n137 Tryz.prog laysIdx_ren := {
  mixed := by kernel_rfl
  f137 := Tryz.func127.trans (congrArg some (by kernel_rfl))
  f217 := Tryz.func150.trans (congrArg some (by kernel_rfl))
  f266 := Tryz.func158.trans (congrArg some (by kernel_rfl))
  t3 := Tryz.underlying3
  a3 := Tryz.isAgg3
  z3 := Tryz.sizeOf3
  v3 := Tryz.zeroValue3
  t5 := Tryz.underlying5
  a5 := Tryz.isAgg5
  z5 := Tryz.sizeOf5
  v5 := Tryz.zeroValue5
  t9 := Tryz.underlying9
  a9 := Tryz.isAgg9
  z9 := Tryz.sizeOf9
  v9 := Tryz.zeroValue9
}
def laysAtoi_ren : Go.Shelf.Ren := ⟨fun | 172 => 147 | 244 => 155 | 245 => 156 | 247 => 161 | 279 => 162 | 280 => 163 | 281 => 164 | 282 => 165 | 287 => 169 | 316 => 170 | 171 => 172 | 205 => 171 | 321 => 174 | 322 => 175 | 243 => 176 | 246 => 177 | 283 => 178 | 284 => 179 | 285 => 180 | 286 => 181 | 129 => 183 | 317 => 182 | 318 => 184 | 319 => 185 | 320 => 186 | 337 => 187 | 338 => 188 | n => n, fun | 9 => 9 | 3 => 3 | 75 => 211 | 76 => 212 | 4 => 4 | 5 => 5 | 167 => 226 | 37 => 214 | 0 => 0 | 85 => 227 | 2 => 2 | 168 => 229 | 53 => 236 | 175 => 237 | 46 => 239 | 210 => 241 | 127 => 246 | 145 => 249 | 143 => 247 | 21 => 21 | 171 => 251 | 173 => 254 | 212 => 257 | 51 => 258 | 20 => 20 | 213 => 259 | 232 => 262 | 233 => 263 | 80 => 164 | n => n, fun | 15 => 1 | 16 => 2 | 17 => 3 | 18 => 4 | 19 => 5 | n => n⟩
theorem laysAtoi : Go.Proofs.LaysC.n172 Tryz.prog laysAtoi_ren := {
  mixed := by kernel_rfl
  f129 := Tryz.func183.trans (congrArg some (by kernel_rfl))
  f171 := Tryz.func172.trans (congrArg some (by kernel_rfl))
  f172 := Tryz.func147.trans (congrArg some (by kernel_rfl))
  f205 := Tryz.func171.trans (congrArg some (by kernel_rfl))
  f243 := Tryz.func176.trans (congrArg some (by kernel_rfl))
  f244 := Tryz.func155.trans (congrArg some (by kernel_rfl))
  f245 := Tryz.func156.trans (congrArg some (by kernel_rfl))
  f246 := Tryz.func177.trans (congrArg some (by kernel_rfl))
  f247 := Tryz.func161.trans (congrArg some (by kernel_rfl))
  f279 := Tryz.func162.trans (congrArg some (by kernel_rfl))
  f280 := Tryz.func163.trans (congrArg some (by kernel_rfl))
  f281 := Tryz.func164.trans (congrArg some (by kernel_rfl))
  f282 := Tryz.func165.trans (congrArg some (by kernel_rfl))
  f283 := Tryz.func178.trans (congrArg some (by kernel_rfl))
  f284 := Tryz.func179.trans (congrArg some (by kernel_rfl))
  f285 := Tryz.func180.trans (congrArg some (by kernel_rfl))
  f286 := Tryz.func181.trans (congrArg some (by kernel_rfl))
  f287 := Tryz.func169.trans (congrArg some (by kernel_rfl))
  f316 := Tryz.func170.trans (congrArg some (by kernel_rfl))
  f317 := Tryz.func182.trans (congrArg some (by kernel_rfl))
  f318 := Tryz.func184.trans (congrArg some (by kernel_rfl))
  f319 := Tryz.func185.trans (congrArg some (by kernel_rfl))
  f320 := Tryz.func186.trans (congrArg some (by kernel_rfl))
  f321 := Tryz.func174.trans (congrArg some (by kernel_rfl))
  f322 := Tryz.func175.trans (congrArg some (by kernel_rfl))
  f337 := Tryz.func187.trans (congrArg some (by kernel_rfl))
  f338 := Tryz.func188.trans (congrArg some (by kernel_rfl))
  t0 := Tryz.underlying0
  a0 := Tryz.isAgg0
  z0 := Tryz.sizeOf0
  v0 := Tryz.zeroValue0
  t2 := Tryz.underlying2
  a2 := Tryz.isAgg2
  z2 := Tryz.sizeOf2
  v2 := Tryz.zeroValue2
  t3 := Tryz.underlying3
  a3 := Tryz.isAgg3
  z3 := Tryz.sizeOf3
  v3 := Tryz.zeroValue3
  t4 := Tryz.underlying4
  a4 := Tryz.isAgg4
  z4 := Tryz.sizeOf4
  v4 := Tryz.zeroValue4
  t5 := Tryz.underlying5
  a5 := Tryz.isAgg5
  z5 := Tryz.sizeOf5
  v5 := Tryz.zeroValue5
  t9 := Tryz.underlying9
  a9 := Tryz.isAgg9
  z9 := Tryz.sizeOf9
  v9 := Tryz.zeroValue9
  t20 := Tryz.underlying20
  a20 := Tryz.isAgg20
  z20 := Tryz.sizeOf20
  v20 := Tryz.zeroValue20
  t21 := Tryz.underlying21
  a21 := Tryz.isAgg21
  z21 := Tryz.sizeOf21
  v21 := Tryz.zeroValue21
  t37 := Tryz.underlying214
  a37 := Tryz.isAgg214
  z37 := Tryz.sizeOf214
  v37 := Tryz.zeroValue214
  t46 := Tryz.underlying239
  a46 := Tryz.isAgg239
  z46 := Tryz.sizeOf239
  v46 := Tryz.zeroValue239
  t51 := Tryz.underlying258
  a51 := Tryz.isAgg258
  z51 := Tryz.sizeOf258
  v51 := Tryz.zeroValue258
  t53 := Tryz.underlying236
  a53 := Tryz.isAgg236
  z53 := Tryz.sizeOf236
  v53 := Tryz.zeroValue236
  t75 := Tryz.underlying211
  a75 := Tryz.isAgg211
  z75 := Tryz.sizeOf211
  v75 := Tryz.zeroValue211
  t76 := Tryz.underlying212
  a76 := Tryz.isAgg212
  z76 := Tryz.sizeOf212
  v76 := Tryz.zeroValue212
  t85 := Tryz.underlying227
  a85 := Tryz.isAgg227
  z85 := Tryz.sizeOf227
  v85 := Tryz.zeroValue227
  t127 := Tryz.underlying246
  a127 := Tryz.isAgg246
  z127 := Tryz.sizeOf246
  v127 := Tryz.zeroValue246
  t143 := Tryz.underlying247
  a143 := Tryz.isAgg247
  z143 := Tryz.sizeOf247
  v143 := Tryz.zeroValue247
  t145 := Tryz.underlying249
  a145 := Tryz.isAgg249
  z145 := Tryz.sizeOf249
  v145 := Tryz.zeroValue249
  t167 := Tryz.underlying226
  a167 := Tryz.isAgg226
  z167 := Tryz.sizeOf226
  v167 := Tryz.zeroValue226
  t168 := Tryz.underlying229
  a168 := Tryz.isAgg229
  z168 := Tryz.sizeOf229
  v168 := Tryz.zeroValue229
  t171 := Tryz.underlying251
  a171 := Tryz.isAgg251
  z171 := Tryz.sizeOf251
  v171 := Tryz.zeroValue251
  t173 := Tryz.underlying254
  a173 := Tryz.isAgg254
  z173 := Tryz.sizeOf254
  v173 := Tryz.zeroValue254
  t175 := Tryz.underlying237
  a175 := Tryz.isAgg237
  z175 := Tryz.sizeOf237
  v175 := Tryz.zeroValue237
  t210 := Tryz.underlying241
  a210 := Tryz.isAgg241
  z210 := Tryz.sizeOf241
  v210 := Tryz.zeroValue241
  t212 := Tryz.underlying257
  a212 := Tryz.isAgg257
  z212 := Tryz.sizeOf257
  v212 := Tryz.zeroValue257
  t213 := Tryz.underlying259
  a213 := Tryz.isAgg259
  z213 := Tryz.sizeOf259
  t232 := Tryz.underlying262
  a232 := Tryz.isAgg262
  z232 := Tryz.sizeOf262
  v232 := Tryz.zeroValue262
  t233 := Tryz.underlying263
  a233 := Tryz.isAgg263
  z233 := Tryz.sizeOf263
  v233 := Tryz.zeroValue263
  g15 := by kernel_rfl
  g16 := by kernel_rfl
  g17 := by kernel_rfl
  g18 := by kernel_rfl
  g19 := by kernel_rfl
  t80 := Tryz.underlying164
  a80 := Tryz.isAgg164
  z80 := Tryz.sizeOf164
  v80 := Tryz.zeroValue164
  i0 := by kernel_rfl
  i2 := by kernel_rfl
  i3 := by kernel_rfl
  i4 := by kernel_rfl
  i5 := by kernel_rfl
  i9 := by kernel_rfl
  i20 := by kernel_rfl
  i21 := by kernel_rfl
  i37 := by kernel_rfl
  i46 := by kernel_rfl
  i51 := by kernel_rfl
  i53 := by kernel_rfl
  i75 := by kernel_rfl
  i76 := by kernel_rfl
  i80 := by kernel_rfl
  i85 := by kernel_rfl
  i127 := by kernel_rfl
  i143 := by kernel_rfl
  i145 := by kernel_rfl
  i167 := by kernel_rfl
  i168 := by kernel_rfl
  i171 := by kernel_rfl
  i173 := by kernel_rfl
  i175 := by kernel_rfl
  i210 := by kernel_rfl
  i212 := by kernel_rfl
  i232 := by kernel_rfl
  i233 := by kernel_rfl
  m15 := by kernel_rfl
  m16 := by kernel_rfl
  m17 := by kernel_rfl
  m18 := by kernel_rfl
  m19 := by kernel_rfl
  c0 := by kernel_rfl
  c2 := by kernel_rfl
  c3 := by kernel_rfl
  c4 := by kernel_rfl
  c5 := by kernel_rfl
  c9 := by kernel_rfl
  c20 := by kernel_rfl
  c21 := by kernel_rfl
  c37 := by kernel_rfl
  c46 := by kernel_rfl
  c51 := by kernel_rfl
  c53 := by kernel_rfl
  c75 := by kernel_rfl
  c76 := by kernel_rfl
  c80 := by kernel_rfl
  c85 := by kernel_rfl
  c127 := by kernel_rfl
  c143 := by kernel_rfl
  c145 := by kernel_rfl
  c167 := by kernel_rfl
  c168 := by kernel_rfl
  c171 := by kernel_rfl
  c173 := by kernel_rfl
  c175 := by kernel_rfl
  c210 := by kernel_rfl
  c212 := by kernel_rfl
  c213 := by kernel_rfl
  c232 := by kernel_rfl
  c233 := by kernel_rfl
}
theorem decF_eq : ∀ (f u : Nat), u < 10 ^ f → 0 < f → decF f u = Lib.decDigits u
  | f + 1, u, h, _ => by
    rw [decF, Lib.decDigits]
    by_cases hu : u < 10
    · rw [show Nat.blt u 10 = true from by simpa [Nat.blt, Nat.lt_iff_add_one_le] using hu, dif_pos hu]; rfl
    · rw [show Nat.blt u 10 = false from by cases hb : Nat.blt u 10 with | false => rfl | true => exact absurd (by simpa [Nat.blt, Nat.lt_iff_add_one_le] using hb) hu, dif_neg hu, cond_false]
      have hf : 0 < f := by
        rcases Nat.eq_zero_or_pos f with h0 | h0
        · subst h0; exact absurd (by simpa using h) hu
        · exact h0
      rw [decF_eq f (u / 10) (by rw [Nat.pow_succ] at h; omega) hf]
theorem itoaF_eq (n : Int) (h : -9223372036854775808 ≤ n ∧ n ≤ 9223372036854775807) : itoaF n = Lib.itoa n := by
  unfold itoaF Lib.itoa
  cases n with
  | ofNat u =>
    have : u < 10 ^ 20 := by have := h.2; simp only [Int.ofNat_eq_natCast] at this; omega
    rw [if_neg (by simp)]
    exact decF_eq 20 u this (by decide)
  | negSucc u =>
    have : u + 1 < 10 ^ 20 := by have := h.1; simp only [Int.negSucc_eq] at this; omega
    rw [if_pos (Int.negSucc_lt_zero u)]
    exact congrArg _ (decF_eq 20 (u + 1) this (by decide))
theorem itoa_h (n : Int) (h : -9223372036854775808 ≤ n ∧ n ≤ 9223372036854775807) : Holds Tryz.prog 172 [.v (.int .i64 n)] (.p (.v (.string ⟨⟨itoaF n⟩⟩))) [] :=
  .of_callsG Tryz.func172 (by kernel_rfl) rfl (fun w vs hg hl hr => by
    have hv : ∃ u, vs = [u] := by
      match vs, hl with
      | [u], _ => exact ⟨u, rfl⟩
    obtain ⟨u, rfl⟩ := hv
    have h1 := zX (hr 0 _ u rfl rfl) rfl
    subst h1
    have htab : Lib.TabIs Tryz.prog w "internal/strconv.uint64pow10" .u64 Lib.pow10Tab := by
      obtain ⟨ty, m, hb⟩ := hg 3 _ rfl
      unfold Lib.TabIs World.var?
      rw [show Tryz.prog.globalNamed "internal/strconv.uint64pow10" = some 3 from by kernel_rfl]
      simp only [Option.bind_some, hb]
      rfl
    refine (Any.strconv_Itoa laysItoa n h.1 h.2 w htab).mono fun e w' ⟨h1, k, os, h2⟩ => ⟨?_, ?_⟩
    · rw [h1, ← itoaF_eq n h]; rfl
    · subst h2
      refine ⟨rfl, rfl, rfl, by simp [Sort.grow], fun b hb => ?_⟩
      show (_ ++ os)[b]? = _
      rw [Array.getElem?_append_left (by exact hb)]; rfl) rfl fun w => .p (.v rfl)
theorem indexByte_h (s : ByteArray) (c : Int) : Holds Tryz.prog 127 [.v (.string s), .v (.int .u8 c)] (.p (.v (.int .i64 (Lib.indexByte s.data.toList c.toNat.toUInt8)))) [] :=
  .of_callsG Tryz.func127 (by kernel_rfl) rfl (fun w vs hg hl hr => by
    have hv : ∃ u v, vs = [u, v] := by
      match vs, hl with
      | [u, v], _ => exact ⟨u, v, rfl⟩
    obtain ⟨u, v, rfl⟩ := hv
    have h1 := zX (hr 0 _ u rfl rfl) rfl
    have h2 := zX (hr 1 _ v rfl rfl) rfl
    subst h1 h2
    exact (Any.strings_IndexByte laysIdx s c w).mono fun e w' ⟨h1, h2⟩ => ⟨h1, h2 ▸ Below.refl _ _⟩) rfl fun w => .p (.v rfl)
theorem atoi_h (s : ByteArray) (hs : s.size ≤ 9223372036854775806) (v : Int) (h : Lib.atoiAll s.data.toList = .ok v) : Holds Tryz.prog 147 [.v (.string s)] (.tup [.p (.v (.int .i64 v)), .p (.v .nilIface)]) [] :=
  .of_callsG Tryz.func147 (by kernel_rfl) rfl (fun w vs hg hl hr => by
    have hv : ∃ u, vs = [u] := by
      match vs, hl with
      | [u], _ => exact ⟨u, rfl⟩
    obtain ⟨u, rfl⟩ := hv
    have h1 := zX (hr 0 _ u rfl rfl) rfl
    subst h1
    refine (Any.strconv_Atoi_ok laysAtoi s hs v h w).mono fun e w' ⟨h1, h2⟩ => ⟨h1, ?_⟩
    rcases h2 with rfl | ⟨t, rfl⟩
    · exact Below.refl _ _
    · exact Lib.bytesWorld_below _ _ _) rfl fun w => .tup (us := [.int .i64 v, .nilIface]) rfl fun i s u hs hu => by
      match i, hs, hu with
      | 0, hs, hu => cases hs; cases hu; exact .p (.v rfl)
      | 1, hs, hu => cases hs; cases hu; exact .p (.v rfl)
def ctab (f : FuncId) (ps : List PV) : Option SV := bif Nat.beq f 172 then (match ps with
  | [.v (.int .i64 n)] => bif ible (-9223372036854775808) n && ible n 9223372036854775807 then some (.p (.v (.string ⟨⟨itoaF n⟩⟩))) else none
  | _ => none)
  else bif Nat.beq f 127 then (match ps with
  | [.v (.string s), .v (.int .u8 c)] => some (.p (.v (.int .i64 (Lib.indexByte s.data.toList c.toNat.toUInt8))))
  | _ => none)
  else bif Nat.beq f 147 then (match ps with
  | [.v (.string s)] => bif Nat.ble s.size 9223372036854775806 then (match Lib.atoiAll s.data.toList with
    | .ok v => some (.tup [.p (.v (.int .i64 v)), .p (.v .nilIface)])
    | _ => none) else none
  | _ => none)
  else none
theorem zU (F : List (FuncId × FnI)) : TabOk Tryz.prog ⟨TTab, F, ctab⟩ := fun f ps r h0 => by
  have h : ctab f ps = some r := h0
  clear h0
  unfold ctab at h
  cases hf : Nat.beq f 172 with
  | false =>
    rw [hf, cond_false] at h
    cases hf : Nat.beq f 127 with
    | true =>
      rw [hf, cond_true] at h
      have e := Nat.eq_of_beq_eq_true hf
      subst e
      split at h
      · cases h; exact indexByte_h _ _
      · cases h
    | false =>
      rw [hf, cond_false] at h
      cases hf : Nat.beq f 147 with
      | true =>
        rw [hf, cond_true] at h
        have e := Nat.eq_of_beq_eq_true hf
        subst e
        split at h
        · rename_i s
          cases hb : Nat.ble s.size 9223372036854775806 with
          | false => rw [hb] at h; cases h
          | true =>
            rw [hb, cond_true] at h
            split at h
            · rename_i v hv
              cases h
              exact atoi_h s (Nat.le_of_ble_eq_true hb) v hv
            · cases h
        · cases h
      | false =>
        rw [hf, cond_false] at h
        cases h
  | true =>
    rw [hf, cond_true] at h
    have e := Nat.eq_of_beq_eq_true hf
    subst e
    split at h
    · rename_i n
      cases hb : (ible (-9223372036854775808) n && ible n 9223372036854775807) with
      | false => rw [hb] at h; cases h
      | true =>
        rw [hb, cond_true] at h
        cases h
        simp only [Bool.and_eq_true] at hb
        exact itoa_h n ⟨jT hb.1, jT hb.2⟩
    · cases h
end Go.Proofs.YtppfcacnofjmdaaGreatDoor
namespace Go.Proofs.YtppfcacnofjmdaaGreatDoor
set_option linter.unusedVariables false
set_option linter.unusedSimpArgs false
open Go.RowKit
def Val.pv (x : Val) : List PV := [.v (.int .i64 x.kind), .v (.int .i64 x.n), .v (.string x.s)]
def Atr.pv (x : Atr) : List PV := [.v (.int .i64 x.cat), .v (.string x.name), .v (.bool x.must)]
def Mat.pv (x : Mat) : List PV := [.v (.int .i64 x.attr.cat), .v (.string x.attr.name), .v (.bool x.attr.must), .v (.int .i64 x.op), .v (.int .i64 x.val.kind), .v (.int .i64 x.val.n), .v (.string x.val.s)]
def valsP (l : List Val) : PV := .sl 3 (l.map Val.pv)
def Giv.pv (x : Giv) : List PV := [.v (.int .i64 x.cat), .v (.string x.name), valsP x.bag]
def zP (l : List Giv) : PV := .sl 3 (l.map Giv.pv)
def qaB (l : List Mat) : PV := .sl 7 (l.map Mat.pv)
def anyP (l : List (List Mat)) : PV := .sl 1 (l.map fun x => [qaB x])
def tgtP (l : List (List (List Mat))) : PV := .sl 1 (l.map fun x => [anyP x])
abbrev pI (n : Int) : PV := .v (.int .i64 n)
abbrev pB (b : Bool) : PV := .v (.bool b)
abbrev pS (s : ByteArray) : PV := .v (.string s)
end Go.Proofs.YtppfcacnofjmdaaGreatDoor
namespace Go.Proofs.YtppfcacnofjmdaaGreatDoor
open Go.RowKit
set_option linter.unusedSimpArgs false
set_option linter.unusedVariables false
attribute [local go_sem] ext_cell wi
attribute [local go_sem low] we jp
abbrev cntObj (c : Nat) : Obj := .cells #[.int .i64 (c : Int)] 92 (0, 0)
structure CntR (b c : Nat) (w w' : World) : Prop where
  os : w'.os = w.os
  tape : w'.tape = w.tape
  output : w'.output = w.output
  size : w.heap.size ≤ w'.heap.size
  block : ∀ k, k < w.heap.size → k ≠ b → w'.heap[k]? = w.heap[k]?
  cnt : w'.heap[b]? = some (cntObj c)
theorem CntR.below {b c : Nat} {w w' : World} (h : CntR b c w w') {B : Nat} (hB : B ≤ b) (hw : B ≤ w.heap.size) : Below B w w' :=
  ⟨h.os, h.tape, h.output, h.size, fun k hk => h.block k (by omega) (by omega)⟩
theorem CntR.trans {b c c' : Nat} {w w1 w2 : World} (h : CntR b c w w1) (k : CntR b c' w1 w2) : CntR b c' w w2 :=
  ⟨k.os.trans h.os, k.tape.trans h.tape, k.output.trans h.output, Nat.le_trans h.size k.size, fun i hi hb => (k.block i (Nat.lt_of_lt_of_le hi h.size) hb).trans (h.block i hi hb), k.cnt⟩
theorem CntR.refl {b c : Nat} {w : World} (h : w.heap[b]? = some (cntObj c)) : CntR b c w w := ⟨rfl, rfl, rfl, Nat.le_refl _, fun _ _ _ => rfl, h⟩
theorem heap_alloc {w : World} {b : Nat} {x : Obj} (h : w.heap[b]? = some x) (o : Obj) : (w.alloc o).heap[b]? = some x := (Below.heap_alloc w o b (lt_of_block h)).trans h
theorem CntR.alloc {b c : Nat} {w w1 : World} (h : CntR b c w w1) (o : Obj) : CntR b c w (w1.alloc o) :=
  ⟨h.os, h.tape, h.output, Nat.le_trans h.size (by simp), fun i hi hb => (Below.heap_alloc _ _ _ (Nat.lt_of_lt_of_le hi h.size)).trans (h.block i hi hb), heap_alloc h.cnt o⟩
theorem CntR.facts {b c : Nat} {w w' : World} (h : CntR b c w w') :
    (∀ g o, w'.cell? ⟨g, o, none⟩ = if g < b then (if g < w.heap.size then w.cell? ⟨g, o, none⟩ else cellIn w' ⟨g, o, none⟩) else if b < g then (if g < w.heap.size then w.cell? ⟨g, o, none⟩ else cellIn w' ⟨g, o, none⟩) else (#[Value.int .i64 (c : Int)])[o]?) ∧
    (∀ g o, w'.frozen? ⟨g, o, none⟩ = if g < b then (if g < w.heap.size then w.frozen? ⟨g, o, none⟩ else frozenIn w' ⟨g, o, none⟩) else if b < g then (if g < w.heap.size then w.frozen? ⟨g, o, none⟩ else frozenIn w' ⟨g, o, none⟩) else false) ∧
    w.heap.size ≤ w'.heap.size ∧ b < w'.heap.size := by
  refine ⟨fun g o => ?_, fun g o => ?_, h.size, lt_of_block h.cnt⟩
  · rcases Nat.lt_trichotomy g b with hg | rfl | hg
    · rw [if_pos hg]; split
      · rename_i hs; exact World.cell?_of_block (w := w) (a := ⟨g, o, none⟩) (h.block g hs (by omega))
      · rfl
    · rw [if_neg (Nat.lt_irrefl _), if_neg (Nat.lt_irrefl _)]; simp [World.cell?, h.cnt]
    · rw [if_neg (by omega), if_pos hg]; split
      · rename_i hs; exact World.cell?_of_block (w := w) (a := ⟨g, o, none⟩) (h.block g hs (by omega))
      · rfl
  · rcases Nat.lt_trichotomy g b with hg | rfl | hg
    · rw [if_pos hg]; split
      · rename_i hs; exact World.frozen?_of_block (w := w) (a := ⟨g, o, none⟩) (h.block g hs (by omega))
      · rfl
    · rw [if_neg (Nat.lt_irrefl _), if_neg (Nat.lt_irrefl _)]; simp [World.frozen?, h.cnt]
    · rw [if_neg (by omega), if_pos hg]; split
      · rename_i hs; exact World.frozen?_of_block (w := w) (a := ⟨g, o, none⟩) (h.block g hs (by omega))
      · rfl
def cntPost (b c k : Nat) (w : World) (e : Ending) (w' : World) : Prop := (∃ c' : Nat, e = .returned (.bool false) ∧ c' ≤ c ∧ CntR b c' w w') ∨ (∃ c' : Nat, e = .returned (.bool true) ∧ c' ≤ c ∧ Hid (k + c' = c) ∧ CntR b c' w w')
def qT {α : Type} (f : α → Nat) (l : List α) : Nat := (l.map f).sum
theorem zG {α : Type} {f : α → Nat} {l : List α} {k : Nat} (hk : k < l.length) : qT f (l.take (k + 1)) = qT f (l.take k) + f l[k] := by
  unfold qT
  rw [List.take_succ_eq_append_getElem hk, List.map_append, List.sum_append]; simp
theorem wb {α : Type} {f : α → Nat} {l : List α} {x : α} (h : x ∈ l) : f x ≤ qT f l := by
  unfold qT
  induction l with
  | nil => cases h
  | cons y l ih =>
    rcases List.mem_cons.1 h with rfl | h
    · simp
    · have := ih h; simp; omega
def txt (s : ByteArray) : Nat := 1 + s.size / 8
def msz (m : Mat) : Nat := txt m.attr.name + txt m.val.s
def asz (y : List Mat) : Nat := 1 + y.length + qT msz y
def xsz (x : List (List Mat)) : Nat := 1 + x.length + qT asz x
def tsz (t : List (List (List Mat))) : Nat := 1 + t.length + qT xsz t
theorem takes_any (b c n : Nat) (w : World) (hc : w.heap[b]? = some (cntObj c)) (hn : n ≤ 1000000000000000000) (hcc : c ≤ 3000) :
    Calls Tryz.prog 42 #[.pointer (some ⟨b, 0, none⟩), .int .i64 (n : Int)] w (cntPost b c n w) := by
  have h1 := cell_of_one hc
  have h2 := free_of_one hc
  have H := hide hc
  clear hc
  go_enter Tryz.func42, Tryz.ntmps42
  by_cases hlt : c < n
  · go_wp2
    go_ret
    exact Or.inl ⟨c, rfl, Nat.le_refl _, CntR.refl H.out⟩
  · go_wp2
    go_ret
    refine Or.inr ⟨c - n, rfl, by omega, hide (by omega), ⟨rfl, rfl, rfl, by simp [World.setCell], fun k _ hk => Below.heap_setCell _ _ _ _ hk, ?_⟩⟩
    have : ((c - n : Nat) : Int) = (c : Int) - (n : Int) := by omega
    unfold cntObj
    rw [this]
    exact one_setCell H.out
theorem jY (b c : Nat) (s : ByteArray) (w : World) (hc : w.heap[b]? = some (cntObj c)) (hn : s.size ≤ reachBytes) (hcc : c ≤ 3000) :
    Calls Tryz.prog 43 #[.pointer (some ⟨b, 0, none⟩), .string s] w (cntPost b c (txt s) w) := by
  unfold reachBytes at hn
  have H := hide hc
  clear hc
  have e : (1 : Int) + (s.size : Int) / 8 = ((txt s : Nat) : Int) := by unfold txt; omega
  have hn' : txt s ≤ 1000000000000000000 := by unfold txt; omega
  replace e := hide e
  go_enter Tryz.func43, Tryz.ntmps43
  go_wp2_with (go_at_call 42; rw [e.out]; refine (takes_any b c (txt s) _ H.out hn' hcc).mono ?_; rintro e w1 (⟨c', rfl, h1, h3⟩ | ⟨c', rfl, h1, h2, h3⟩))
  · go_ret
    exact Or.inl ⟨c', rfl, h1, h3⟩
  · go_ret
    exact Or.inr ⟨c', rfl, h1, h2, h3⟩
theorem wG (b c n : Nat) (z : Int) (w : World) (hz : z = (n : Int)) (hc : w.heap[b]? = some (cntObj c)) (hn : n ≤ 1000000000000000000) (hcc : c ≤ 3000) :
    Calls Tryz.prog 42 #[.pointer (some ⟨b, 0, none⟩), .int .i64 z] w (cntPost b c n w) := by
  subst hz; exact takes_any b c n w hc hn hcc
theorem Below.cnt {B b c : Nat} {w0 w w' : World} (h : Below B w0 w) (k : CntR b c w w') (hB : B ≤ b) (hw : B ≤ w0.heap.size) : Below B w0 w' := h.trans (k.below hB (Nat.le_trans hw h.size))
abbrev rTar' : Rp (List (List Mat)) := rSl (rSl rMat 7) 1
theorem SlAt.sl0 {α : Type} {R : Rp α} {size : Nat} {w0 w : World} {A : Option Addr} {l : List (List α)} (h : SlAt (rSl R size) 1 w0 A l) (hB : Below w0.heap.size w0 w) {k : Nat} (hk : k < l.length) :
    ∃ b o B c, A = some ⟨b, o, none⟩ ∧ b < w0.heap.size ∧ w.cell? ⟨b, o + k, none⟩ = some (.slice B l[k].length c) ∧ l[k].length ≤ c ∧ (l[k].length ≤ reachBytes ∧ c ≤ maxLen) ∧ SlAt R size w0 B l[k] := by
  obtain ⟨b, o, B, c, hA, hb, hc, h1, h2, h3⟩ := h.sl hk
  exact ⟨b, o, B, c, hA, hb, (hB.cell (p := ⟨b, o + k, none⟩) hb).trans hc, h1, h2, h3⟩
set_option maxRecDepth 100000 in
set_option maxHeartbeats 2000000 in
theorem cnt_target (b c : Nat) (t : List (List (List Mat))) (T : Option Addr) (d : Nat) (w0 w : World) (hT : SlAt rTar' 1 w0 T t) (ht : t.length ≤ reachBytes) (hB0 : Below w0.heap.size w0 w) (hb : w0.heap.size ≤ b)
    (hc : w.heap[b]? = some (cntObj c)) (hcc : c ≤ 3000) :
    Calls Tryz.prog 65 #[.pointer (some ⟨b, 0, none⟩), .slice T t.length d] w (cntPost b c (tsz t) w) := by
  unfold reachBytes at ht
  have HT := hide hT
  clear hT
  replace hc := hide hc
  go_enter Tryz.func65, Tryz.ntmps65
  go_upto_region 3 with (go_at_call 42; refine (wG b c (1 + t.length) _ _ (by simp) hc.out (by omega) hcc).mono ?_; rintro e w1 (⟨c1, rfl, h1, h3⟩ | ⟨c1, rfl, h1, h2, h3⟩))
  · go_ret
    exact Or.inl ⟨c1, rfl, h1, h3⟩
  · clear hc
    go_wp2
    go_loopw [19] (fun i wr => ∃ k c2 : Nat, k ≤ t.length ∧ i = .int .i64 k ∧ c2 ≤ c ∧ CntR b c2 w wr ∧ Hid (1 + t.length + qT xsz (t.take k) + c2 = c)) (fun i _ => t.length - (intOf i).toNat)
    case atStart => exact ⟨0, c1, Nat.zero_le _, rfl, h1, h3, h2.out⟩
    case round =>
      clear h1 h2 h3
      obtain ⟨k, c2, hk, rfl, h1, h3, h2⟩ := hrel
      have hB1 := Below.cnt hB0 h3 hb (Nat.le_refl _)
      by_cases hlt : k < t.length
      · obtain ⟨b2, o2, B2, cb2, rfl, hbb, d0, cl, cl', hX⟩ := HT.out.sl0 hB1 hlt
        unfold reachBytes at cl'
        have hs := hide (zG (f := xsz) hlt)
        replace hX := hide hX
        have hc := hide h3.cnt
        obtain ⟨wo, hwo⟩ : ∃ wo, wo = wr := ⟨_, rfl⟩
        go_upto_region 8 with (go_at_call 42; refine (wG b c2 (1 + t[k].length) _ _ (by simp) hc.out (by omega) (by omega)).mono ?_; rintro e w2 (⟨c3, rfl, h4, h6⟩ | ⟨c3, rfl, h4, h5, h6⟩))
        · go_ret
          exact Or.inl ⟨c3, rfl, by omega, h3.trans h6⟩
        · clear hc hbb d0
          go_wp2
          go_loopw [31] (fun i wr' => ∃ k' c4 : Nat, k' ≤ t[k].length ∧ i = .int .i64 k' ∧ c4 ≤ c ∧ CntR b c4 w wr' ∧ Hid (1 + t[k].length + qT asz (t[k].take k') + c4 = c2)) (fun i _ => t[k].length - (intOf i).toNat)
          case atStart => exact ⟨0, c3, Nat.zero_le _, rfl, by omega, h3.trans h6, h5.out⟩
          case round =>
            clear h4 h5 h6
            obtain ⟨k', c4, hk', rfl, h4, h6, h5⟩ := hrel
            have hB2 := Below.cnt hB0 h6 hb (Nat.le_refl _)
            by_cases hlt' : k' < t[k].length
            · obtain ⟨b3, o3, B3, cb3, rfl, hbb, d0, cm, cm', hY⟩ := hX.out.sl0 hB2 hlt'
              unfold reachBytes at cm'
              have hs' := hide (zG (f := asz) hlt')
              replace hY := hide hY
              have hc := hide h6.cnt
              go_upto_region 13 with (go_at_call 42; refine (wG b c4 (1 + t[k][k'].length) _ _ (by simp) hc.out (by omega) (by omega)).mono ?_; rintro e w2 (⟨c5, rfl, h7, h9⟩ | ⟨c5, rfl, h7, h8, h9⟩))
              · go_ret
                exact Or.inl ⟨c5, rfl, by omega, h6.trans h9⟩
              · clear hc hbb d0
                go_wp2
                go_loopw [10, 43] (fun _ i wr' => ∃ k'' c6 : Nat, k'' ≤ t[k][k'].length ∧ i = .int .i64 k'' ∧ c6 ≤ c ∧ CntR b c6 w wr' ∧ Hid (1 + t[k][k'].length + qT msz (t[k][k'].take k'') + c6 = c4)) (fun _ i _ => t[k][k'].length - (intOf i).toNat)
                case atStart => exact ⟨0, c5, Nat.zero_le _, rfl, by omega, h6.trans h9, h8.out⟩
                case round =>
                  clear h7 h8 h9
                  obtain ⟨k'', c6, hk'', rfl, h7, h9, h8⟩ := hrel
                  have hB3 := Below.cnt hB0 h9 hb (Nat.le_refl _)
                  by_cases hlt'' : k'' < t[k][k'].length
                  · obtain ⟨b4, o4, rfl, hbb, ⟨e0, e1, e2⟩, e3, ⟨e4, e5, e6⟩, hf⟩ := (hY.out.keep keeps_mat hB3).mat hlt''
                    have hs'' := hide (zG (f := msz) hlt'')
                    have n1 := hf.attr.name
                    have n2 := hf.val.s
                    have hc := hide h9.cnt
                    have hsz := lt_of_block h9.cnt
                    go_wp2_with (go_at_call 43; (first | (with_reducible refine (jY b c6 _ _ (heap_alloc hc.out _) n1 (by omega)).mono ?_) | (with_reducible refine (jY b _ _ _ (CntR.cnt (by assumption)) n2 (by omega)).mono ?_)); rintro e w2 (⟨c7, rfl, h10, h12⟩ | ⟨c7, rfl, h10, h11, h12⟩); all_goals (obtain ⟨q1, q2, q3, q4⟩ := CntR.facts h12; try simp only [World.size_alloc] at q1 q2 q3 q4))
                    · go_ret
                      exact Or.inl ⟨c7, rfl, by omega, (h9.alloc _).trans h12⟩
                    · go_ret
                      exact Or.inl ⟨c7, rfl, by omega, ((h9.alloc _).trans (by assumption)).trans h12⟩
                    · rename Hid (txt t[k][k'][k''].attr.name + _ = c6) => g1
                      go_roundw
                      case rel => exact ⟨k'' + 1, c7, by omega, by go_num, by omega, ((h9.alloc _).trans (by assumption)).trans h12, hide (by have := h8.out; have := hs''.out; have := h11.out; have := g1.out; have e : msz t[k][k'][k''] = txt t[k][k'][k''].attr.name + txt t[k][k'][k''].val.s := rfl; omega)⟩
                      case measure => simp [intOf]; omega
                  · obtain rfl : k'' = t[k][k'].length := by omega
                    rw [List.take_length] at h8
                    go_wp2
                    go_roundw
                    case rel => exact ⟨k' + 1, c6, by omega, by go_num, by omega, h9, hide (by have := h8.out; have := h5.out; have := hs'.out; have e : asz t[k][k'] = 1 + t[k][k'].length + qT msz t[k][k'] := rfl; omega)⟩
                    case measure => simp [intOf]; omega
            · obtain rfl : k' = t[k].length := by omega
              rw [List.take_length] at h5
              go_wp2
              go_roundw
              case rel => exact ⟨k + 1, c4, by omega, by go_num, by omega, h6, hide (by have := h5.out; have := h2.out; have := hs.out; have e : xsz t[k] = 1 + t[k].length + qT asz t[k] := rfl; omega)⟩
              case measure => simp [intOf]; omega
      · obtain rfl : k = t.length := by omega
        rw [List.take_length] at h2
        go_wp2
        go_ret
        exact Or.inr ⟨c2, rfl, h1, h2, h3⟩
end Go.Proofs.YtppfcacnofjmdaaGreatDoor
namespace Go.Proofs.YtppfcacnofjmdaaGreatDoor
set_option linter.unusedVariables false
set_option linter.unusedSimpArgs false
open Go.RowKit
structure Nod where
  op : Int
  val : Val
  attr : Atr
structure Obli where
  on : Int
  kind : Int
  arg : ByteArray
abbrev Tar := List (List (List Mat))
structure Rul where
  id : ByteArray
  deny : Bool
  target : Tar
  cond : List Nod
  obls : List Obli
inductive Pol where
  | mk (id : ByteArray) (set : Bool) (alg : Int) (target : Tar) (rules : List Rul) (kids : List Pol) (obls : List Obli)
def Pol.id : Pol → ByteArray | .mk x _ _ _ _ _ _ => x
def Pol.set : Pol → Bool | .mk _ x _ _ _ _ _ => x
def Pol.alg : Pol → Int | .mk _ _ x _ _ _ _ => x
def Pol.target : Pol → Tar | .mk _ _ _ x _ _ _ => x
def Pol.rules : Pol → List Rul | .mk _ _ _ _ x _ _ => x
def Pol.kids : Pol → List Pol | .mk _ _ _ _ _ x _ => x
def Pol.obls : Pol → List Obli | .mk _ _ _ _ _ _ x => x
structure Nod.Fit (x : Nod) : Prop where
  op : R64 x.op
  val : x.val.Fit
  attr : x.attr.Fit
structure Obli.Fit (x : Obli) : Prop where
  on : R64 x.on
  kind : R64 x.kind
  arg : x.arg.size ≤ reachBytes
def rNod : Rp Nod := fun _ cs x => cs = [.int .i64 x.op, .int .i64 x.val.kind, .int .i64 x.val.n, .string x.val.s, .int .i64 x.attr.cat, .string x.attr.name, .bool x.attr.must] ∧ x.Fit
def rObl : Rp Obli := fun _ cs x => cs = [.int .i64 x.on, .int .i64 x.kind, .string x.arg] ∧ x.Fit
theorem keeps_nod : Keeps rNod := fun _ _ _ _ _ h => h
theorem keeps_obl : Keeps rObl := fun _ _ _ _ _ h => h
def SlV {α : Type} (R : Rp α) (size : Nat) (w : World) (v : Value) (l : List α) : Prop := ∃ A c, v = .slice A l.length c ∧ l.length ≤ c ∧ (l.length ≤ reachBytes ∧ c ≤ maxLen) ∧ SlAt R size w A l
theorem SlV.keep {α : Type} {R : Rp α} (hR : Keeps R) {size : Nat} {w w' : World} {v : Value} {l : List α} (hb : Below w.heap.size w w') (h : SlV R size w v l) : SlV R size w' v l := by
  obtain ⟨A, c, h1, h2, h3, h4⟩ := h
  exact ⟨A, c, h1, h2, h3, h4.keep hR hb⟩
theorem SlV.of {α : Type} {R : Rp α} {size : Nat} {w : World} {v : Value} {l : List α} (h : rSl R size w [v] l) : SlV R size w v l := by
  obtain ⟨A, c, h1, h2⟩ := h
  simp only [List.cons.injEq, and_true] at h1
  exact ⟨A, c, h1, h2⟩
theorem SlV.nil {α : Type} (R : Rp α) (size : Nat) (w : World) : SlV R size w (.slice none 0 0) [] := ⟨none, 0, rfl, Nat.le_refl _, ⟨Nat.zero_le _, Nat.zero_le _⟩, SlAt.nil⟩
def rRul : Rp Rul := fun w cs x => ∃ c2 c3 c4, cs = [.string x.id, .bool x.deny, c2, c3, c4] ∧ x.id.size ≤ reachBytes ∧ SlV rTar' 1 w c2 x.target ∧ SlV rNod 7 w c3 x.cond ∧ SlV rObl 3 w c4 x.obls
def rPolN : Nat → Rp Pol
  | 0 => fun _ _ _ => False
  | n + 1 => fun w cs p => ∃ c3 c4 c5 c6, cs = [.string p.id, .bool p.set, .int .i64 p.alg, c3, c4, c5, c6] ∧ p.id.size ≤ reachBytes ∧ R64 p.alg ∧ SlV rTar' 1 w c3 p.target ∧ SlV rRul 5 w c4 p.rules ∧ SlV (rPolN n) 7 w c5 p.kids ∧ SlV rObl 3 w c6 p.obls
section
variable {w0 w : World} {A : Option Addr}
theorem SlAt.nod {l : List Nod} (h : SlAt rNod 7 w A l) {k : Nat} (hk : k < l.length) :
    ∃ b o, A = some ⟨b, o, none⟩ ∧ b < w.heap.size ∧ w.cell? ⟨b, o + k * 7, none⟩ = some (.int .i64 l[k].op) ∧
      (w.cell? ⟨b, o + k * 7 + 1, none⟩ = some (.int .i64 l[k].val.kind) ∧ w.cell? ⟨b, o + k * 7 + 2, none⟩ = some (.int .i64 l[k].val.n) ∧ w.cell? ⟨b, o + k * 7 + 3, none⟩ = some (.string l[k].val.s)) ∧
      (w.cell? ⟨b, o + k * 7 + 4, none⟩ = some (.int .i64 l[k].attr.cat) ∧ w.cell? ⟨b, o + k * 7 + 5, none⟩ = some (.string l[k].attr.name) ∧ w.cell? ⟨b, o + k * 7 + 6, none⟩ = some (.bool l[k].attr.must)) ∧ l[k].Fit := by
  obtain ⟨b, o, cs, hA, hlt, _, hc, rfl, hf⟩ := h.at_ hk
  exact ⟨b, o, hA, hlt, hc 0 _ rfl, ⟨hc 1 _ rfl, hc 2 _ rfl, hc 3 _ rfl⟩, ⟨hc 4 _ rfl, hc 5 _ rfl, hc 6 _ rfl⟩, hf⟩
theorem SlAt.obl {l : List Obli} (h : SlAt rObl 3 w A l) {k : Nat} (hk : k < l.length) :
    ∃ b o, A = some ⟨b, o, none⟩ ∧ b < w.heap.size ∧ w.cell? ⟨b, o + k * 3, none⟩ = some (.int .i64 l[k].on) ∧ w.cell? ⟨b, o + k * 3 + 1, none⟩ = some (.int .i64 l[k].kind) ∧ w.cell? ⟨b, o + k * 3 + 2, none⟩ = some (.string l[k].arg) ∧ l[k].Fit := by
  obtain ⟨b, o, cs, hA, hlt, _, hc, rfl, hf⟩ := h.at_ hk
  exact ⟨b, o, hA, hlt, hc 0 _ rfl, hc 1 _ rfl, hc 2 _ rfl, hf⟩
theorem SlAt.rul0 {l : List Rul} (h : SlAt rRul 5 w0 A l) (hB : Below w0.heap.size w0 w) {k : Nat} (hk : k < l.length) :
    ∃ b o c2 c3 c4, A = some ⟨b, o, none⟩ ∧ b < w0.heap.size ∧ w.cell? ⟨b, o + k * 5, none⟩ = some (.string l[k].id) ∧ w.cell? ⟨b, o + k * 5 + 1, none⟩ = some (.bool l[k].deny) ∧ w.cell? ⟨b, o + k * 5 + 2, none⟩ = some c2 ∧ w.cell? ⟨b, o + k * 5 + 3, none⟩ = some c3 ∧ w.cell? ⟨b, o + k * 5 + 4, none⟩ = some c4 ∧
      l[k].id.size ≤ reachBytes ∧ SlV rTar' 1 w0 c2 l[k].target ∧ SlV rNod 7 w0 c3 l[k].cond ∧ SlV rObl 3 w0 c4 l[k].obls := by
  obtain ⟨b, o, cs, hA, hlt, _, hc, c2, c3, c4, rfl, h1, h2, h3, h4⟩ := h.at_ hk
  have cell : ∀ j, w.cell? ⟨b, j, none⟩ = w0.cell? ⟨b, j, none⟩ := fun j => hB.cell (p := ⟨b, j, none⟩) hlt
  exact ⟨b, o, c2, c3, c4, hA, hlt, (cell _).trans (hc 0 _ rfl), (cell _).trans (hc 1 _ rfl), (cell _).trans (hc 2 _ rfl), (cell _).trans (hc 3 _ rfl), (cell _).trans (hc 4 _ rfl), h1, h2, h3, h4⟩
theorem SlAt.pol0 {n : Nat} {l : List Pol} (h : SlAt (rPolN n) 7 w0 A l) (hB : Below w0.heap.size w0 w) {k : Nat} (hk : k < l.length) :
    ∃ b o c3 c4 c5 c6, A = some ⟨b, o, none⟩ ∧ b < w0.heap.size ∧ w.cell? ⟨b, o + k * 7, none⟩ = some (.string l[k].id) ∧ w.cell? ⟨b, o + k * 7 + 1, none⟩ = some (.bool l[k].set) ∧ w.cell? ⟨b, o + k * 7 + 2, none⟩ = some (.int .i64 l[k].alg) ∧
      w.cell? ⟨b, o + k * 7 + 3, none⟩ = some c3 ∧ w.cell? ⟨b, o + k * 7 + 4, none⟩ = some c4 ∧ w.cell? ⟨b, o + k * 7 + 5, none⟩ = some c5 ∧ w.cell? ⟨b, o + k * 7 + 6, none⟩ = some c6 ∧
      rPolN n w0 [.string l[k].id, .bool l[k].set, .int .i64 l[k].alg, c3, c4, c5, c6] l[k] := by
  obtain ⟨b, o, cs, hA, hlt, _, hc, hr⟩ := h.at_ hk
  match n, hr with
  | n + 1, hr =>
    obtain ⟨c3, c4, c5, c6, rfl, h1, h2⟩ := hr
    have cell : ∀ j, w.cell? ⟨b, j, none⟩ = w0.cell? ⟨b, j, none⟩ := fun j => hB.cell (p := ⟨b, j, none⟩) hlt
    exact ⟨b, o, c3, c4, c5, c6, hA, hlt, (cell _).trans (hc 0 _ rfl), (cell _).trans (hc 1 _ rfl), (cell _).trans (hc 2 _ rfl), (cell _).trans (hc 3 _ rfl), (cell _).trans (hc 4 _ rfl), (cell _).trans (hc 5 _ rfl), (cell _).trans (hc 6 _ rfl), c3, c4, c5, c6, rfl, h1, h2⟩
end
theorem rPolN_form {n : Nat} {w : World} {s x a c3 c4 c5 c6 : Value} {p : Pol} (h : rPolN n w [s, x, a, c3, c4, c5, c6] p) :
    ∃ A3 d3 A4 d4 A5 d5 A6 d6, c3 = .slice A3 p.target.length d3 ∧ c4 = .slice A4 p.rules.length d4 ∧ c5 = .slice A5 p.kids.length d5 ∧ c6 = .slice A6 p.obls.length d6 := by
  match n, h with
  | n + 1, ⟨_, _, _, _, he, _, _, ⟨A3, d3, h3, _⟩, ⟨A4, d4, h4, _⟩, ⟨A5, d5, h5, _⟩, ⟨A6, d6, h6, _⟩⟩ =>
    simp only [List.cons.injEq, and_true] at he
    obtain ⟨_, _, _, rfl, rfl, rfl, rfl⟩ := he
    exact ⟨A3, d3, A4, d4, A5, d5, A6, d6, h3, h4, h5, h6⟩
def osz (l : List Obli) : Nat := l.length + qT (fun o => txt o.arg) l
def nsz (n : Nod) : Nat := txt n.attr.name + txt n.val.s
def rusz (r : Rul) : Nat := txt r.id + tsz r.target + r.cond.length + osz r.obls + qT nsz r.cond
mutual
def Pol.sz : Pol → Nat
  | .mk id _ _ t rs ks os => 1 + rs.length + txt id + tsz t + osz os + qT rusz rs + Pol.szs ks
def Pol.szs : List Pol → Nat
  | [] => 0
  | k :: ks => k.sz + Pol.szs ks
end
theorem Pol.szs_eq : ∀ l : List Pol, Pol.szs l = qT Pol.sz l
  | [] => rfl
  | k :: ks => by simp [Pol.szs, qT, Pol.szs_eq ks]
theorem Pol.sz_eq (p : Pol) : p.sz = 1 + p.rules.length + txt p.id + tsz p.target + osz p.obls + qT rusz p.rules + qT Pol.sz p.kids := by
  cases p with
  | mk id a b t rs ks os => rw [← Pol.szs_eq]; rfl
end Go.Proofs.YtppfcacnofjmdaaGreatDoor
namespace Go.Proofs.YtppfcacnofjmdaaGreatDoor
open Go.RowKit
set_option linter.unusedSimpArgs false
set_option linter.unusedVariables false
attribute [local go_sem] ext_cell wi
attribute [local go_sem low] we jp
set_option maxRecDepth 100000 in
set_option maxHeartbeats 2000000 in
theorem cnt_obls (b c : Nat) (l : List Obli) (L : Option Addr) (d : Nat) (w0 w : World) (hL : SlAt rObl 3 w0 L l) (hl : l.length ≤ reachBytes) (hB0 : Below w0.heap.size w0 w) (hb : w0.heap.size ≤ b)
    (hc : w.heap[b]? = some (cntObj c)) (hcc : c ≤ 3000) :
    Calls Tryz.prog 66 #[.pointer (some ⟨b, 0, none⟩), .slice L l.length d] w (cntPost b c (osz l) w) := by
  unfold reachBytes at hl
  have HL := hide hL
  clear hL
  replace hc := hide hc
  go_enter Tryz.func66, Tryz.ntmps66
  go_upto_region 3 with (go_at_call 42; refine (wG b c l.length _ _ (by simp) hc.out (by omega) hcc).mono ?_; rintro e w1 (⟨c1, rfl, h1, h3⟩ | ⟨c1, rfl, h1, h2, h3⟩))
  · go_ret
    exact Or.inl ⟨c1, rfl, h1, h3⟩
  · clear hc
    go_wp2
    go_loopw [6, 14] (fun _ i wr => ∃ k c2 : Nat, k ≤ l.length ∧ i = .int .i64 k ∧ c2 ≤ c ∧ CntR b c2 w wr ∧ Hid (l.length + qT (fun o : Obli => txt o.arg) (l.take k) + c2 = c)) (fun _ i _ => l.length - (intOf i).toNat)
    case atStart => exact ⟨0, c1, Nat.zero_le _, rfl, h1, h3, h2.out⟩
    case round =>
      clear h1 h2 h3
      obtain ⟨k, c2, hk, rfl, h1, h3, h2⟩ := hrel
      have hB1 := Below.cnt hB0 h3 hb (Nat.le_refl _)
      by_cases hlt : k < l.length
      · obtain ⟨b4, o4, rfl, hbb, e0, e1, e2, hf⟩ := (HL.out.keep keeps_obl hB1).obl hlt
        have hs := hide (zG (f := fun o : Obli => txt o.arg) hlt)
        have n1 := hf.arg
        have hc := hide h3.cnt
        have hsz := lt_of_block h3.cnt
        go_wp2_with (go_at_call 43; (with_reducible refine (jY b c2 _ _ (heap_alloc hc.out _) n1 (by omega)).mono ?_); rintro e w2 (⟨c7, rfl, h10, h12⟩ | ⟨c7, rfl, h10, h11, h12⟩); all_goals (first | replace hA := CntR.trans hA h12 | have hA := CntR.trans hR h12 | have hA := CntR.trans (CntR.alloc hR _) h12 | skip); all_goals (first | replace hL := CntR.trans hL h12 | have hL := h12); (try clear q1 q2 q3 q4); all_goals (clear h12; obtain ⟨q1, q2, q3, q4⟩ := CntR.facts hL; try simp only [World.size_alloc] at q1 q2 q3 q4))
        · go_ret
          exact Or.inl ⟨c7, rfl, by omega, (h3.alloc _).trans hL⟩
        · go_roundw
          case rel => exact ⟨k + 1, c7, by omega, by go_num, by omega, (h3.alloc _).trans hL, hide (by have := h2.out; have := hs.out; have := h11.out; omega)⟩
          case measure => simp [intOf]; omega
      · obtain rfl : k = l.length := by omega
        rw [List.take_length] at h2
        go_wp2
        go_ret
        exact Or.inr ⟨c2, rfl, h1, h2, h3⟩
def CntPolicy (n : Nat) : Prop := ∀ (b c : Nat) (p : Pol) (w0 w : World) (c3 c4 c5 c6 : Value), rPolN n w0 [.string p.id, .bool p.set, .int .i64 p.alg, c3, c4, c5, c6] p → Below w0.heap.size w0 w → w0.heap.size ≤ b →
    w.heap[b]? = some (cntObj c) → c ≤ 3000 →
    Calls Tryz.prog 41 #[.pointer (some ⟨b, 0, none⟩), .agg #[.string p.id, .bool p.set, .int .i64 p.alg, c3, c4, c5, c6]] w (cntPost b c p.sz w)
set_option maxRecDepth 100000 in
set_option maxHeartbeats 4000000 in
theorem cnt_policy_step (n : Nat) (ih : CntPolicy n) : CntPolicy (n + 1) := by
    intro b c p w0 w c3 c4 c5 c6 hp hB0 hb hc hcc
    obtain ⟨_, _, _, _, he, hid, halg, h3, h4, h5, h6⟩ := hp
    simp only [List.cons.injEq, true_and, and_true] at he
    obtain ⟨rfl, rfl, rfl, rfl⟩ := he
    obtain ⟨A3, d3, rfl, l3, m3, h3⟩ := h3
    obtain ⟨A4, d4, rfl, l4, m4, h4⟩ := h4
    obtain ⟨A5, d5, rfl, l5, m5, h5⟩ := h5
    obtain ⟨A6, d6, rfl, l6, m6, h6⟩ := h6
    replace h3 := hide h3
    replace h4 := hide h4
    replace h5 := hide h5
    replace h6 := hide h6
    have hsz := lt_of_block hc
    replace ih := hide ih
    simp only [reachBytes] at m3 m4 m5 m6
    have e := hide p.sz_eq
    replace hc := hide hc
    go_enter Tryz.func41, Tryz.ntmps41
    have hR : CntR b c (w.alloc (.cells #[.string p.id, .bool p.set, .int .i64 p.alg, .slice A3 (List.length p.target) d3, .slice A4 p.rules.length d4, .slice A5 p.kids.length d5, .slice A6 p.obls.length d6] 28)) (w.alloc (.cells #[.string p.id, .bool p.set, .int .i64 p.alg, .slice A3 (List.length p.target) d3, .slice A4 p.rules.length d4, .slice A5 p.kids.length d5, .slice A6 p.obls.length d6] 28)) := CntR.refl (heap_alloc hc.out _)
    go_upto_region 3 with (first | (go_at_call 42; (with_reducible refine (wG b c (1 + p.rules.length) _ _ (by simp) (heap_alloc hc.out _) (by omega) hcc).mono ?_); rintro e w2 (⟨c7, rfl, h10, h12⟩ | ⟨c7, rfl, h10, h11, h12⟩); all_goals (first | replace hA := CntR.trans hA h12 | have hA := CntR.trans hR h12 | have hA := CntR.trans (CntR.alloc hR _) h12 | skip); all_goals (first | replace hL := CntR.trans hL h12 | have hL := h12); (try clear q1 q2 q3 q4); all_goals (clear h12; obtain ⟨q1, q2, q3, q4⟩ := CntR.facts hL; try simp only [World.size_alloc] at q1 q2 q3 q4)) | (go_at_call 43; (with_reducible refine (jY b _ _ _ hA.cnt hid (by omega)).mono ?_); rintro e w2 (⟨c7, rfl, h10, h12⟩ | ⟨c7, rfl, h10, h11, h12⟩); all_goals (first | replace hA := CntR.trans hA h12 | have hA := CntR.trans hR h12 | have hA := CntR.trans (CntR.alloc hR _) h12 | skip); all_goals (first | replace hL := CntR.trans hL h12 | have hL := h12); (try clear q1 q2 q3 q4); all_goals (clear h12; obtain ⟨q1, q2, q3, q4⟩ := CntR.facts hL; try simp only [World.size_alloc] at q1 q2 q3 q4)) | (go_at_call 65; (with_reducible refine (cnt_target b _ p.target _ _ w0 _ h3.out (by simp only [reachBytes]; omega) (Below.cnt (Below.alloc1 hB0 _) hA hb (Nat.le_refl _)) hb hA.cnt (by omega)).mono ?_); rintro e w2 (⟨c7, rfl, h10, h12⟩ | ⟨c7, rfl, h10, h11, h12⟩); all_goals (first | replace hA := CntR.trans hA h12 | have hA := CntR.trans hR h12 | have hA := CntR.trans (CntR.alloc hR _) h12 | skip); all_goals (first | replace hL := CntR.trans hL h12 | have hL := h12); (try clear q1 q2 q3 q4); all_goals (clear h12; obtain ⟨q1, q2, q3, q4⟩ := CntR.facts hL; try simp only [World.size_alloc] at q1 q2 q3 q4)) | (go_at_call 66; (with_reducible refine (cnt_obls b _ p.obls _ _ w0 _ h6.out (by simp only [reachBytes]; omega) (Below.cnt (Below.alloc1 hB0 _) hA hb (Nat.le_refl _)) hb hA.cnt (by omega)).mono ?_); rintro e w2 (⟨c7, rfl, h10, h12⟩ | ⟨c7, rfl, h10, h11, h12⟩); all_goals (first | replace hA := CntR.trans hA h12 | have hA := CntR.trans hR h12 | have hA := CntR.trans (CntR.alloc hR _) h12 | skip); all_goals (first | replace hL := CntR.trans hL h12 | have hL := h12); (try clear q1 q2 q3 q4); all_goals (clear h12; obtain ⟨q1, q2, q3, q4⟩ := CntR.facts hL; try simp only [World.size_alloc] at q1 q2 q3 q4)))
    all_goals first | (go_ret; exact Or.inl ⟨_, rfl, by omega, (CntR.alloc (CntR.refl hc.out) _).trans hA⟩) | skip
    rename Hid (1 + p.rules.length + _ = c) => g1
    rename Hid (txt p.id + _ = _) => g2
    rename Hid (tsz p.target + _ = _) => g3
    replace hR := hA
    clear hA
    obtain ⟨k0, hk0⟩ : ∃ k0, k0 = 1 + p.rules.length + txt p.id + tsz p.target + osz p.obls := ⟨_, rfl⟩
    have g := hide (show k0 + c7 = c by have := g1.out; have := g2.out; have := g3.out; have := h11.out; omega)
    have hcc7 : c7 ≤ c := by omega
    replace hk0 := hide hk0
    clear g1 g2 g3 h11 q1 q2 q3 q4 h10 hL
    obtain ⟨q1, q2, q3, q4⟩ := CntR.facts hR
    simp only [World.size_alloc] at q3
    go_wp2
    clear q1 q2 q3 q4
    go_loopw [6, 8, 42] (fun _ _ i wr => ∃ k c2 : Nat, k ≤ p.rules.length ∧ i = .int .i64 k ∧ c2 ≤ c ∧ CntR b c2 (w.alloc (.cells #[.string p.id, .bool p.set, .int .i64 p.alg, .slice A3 (List.length p.target) d3, .slice A4 p.rules.length d4, .slice A5 p.kids.length d5, .slice A6 p.obls.length d6] 28)) wr ∧ Hid (k0 + qT rusz (p.rules.take k) + c2 = c)) (fun _ _ i _ => p.rules.length - (intOf i).toNat)
    case atStart => exact ⟨0, c7, Nat.zero_le _, rfl, hcc7, hR, g.out⟩
    case round =>
      clear hR g hcc7
      obtain ⟨k, c2, hk, rfl, hc2, hR, g⟩ := hrel
      have hB1 : Below w0.heap.size w0 wr := Below.cnt (Below.alloc1 hB0 _) hR hb (Nat.le_refl _)
      by_cases hlt : k < p.rules.length
      · obtain ⟨b2, o2, v2, v3, v4, rfl, hbb, e0, e1, e2, e3, e4, n1, s2, s3, s4⟩ := h4.out.rul0 hB1 hlt
        obtain ⟨B2, j2, rfl, u2, t2, s2⟩ := s2
        obtain ⟨B3, j3, rfl, u3, t3, s3⟩ := s3
        obtain ⟨B4, j4, rfl, u4, t4, s4⟩ := s4
        replace s2 := hide s2
        replace s3 := hide s3
        replace s4 := hide s4
        have hs := hide (zG (f := rusz) hlt)
        have hbw := hB1.size
        have hbr := lt_of_block hR.cnt
        simp only [reachBytes] at t2 t3 t4
        go_upto_region 8 with (first | (go_at_call 42; (with_reducible refine (wG b _ p.rules[k].cond.length _ _ (by simp) hA.cnt (by omega) (by omega)).mono ?_); rintro e w2 (⟨c7, rfl, h10, h12⟩ | ⟨c7, rfl, h10, h11, h12⟩); all_goals (first | replace hA := CntR.trans hA h12 | have hA := CntR.trans hR h12 | have hA := CntR.trans (CntR.alloc hR _) h12 | skip); all_goals (first | replace hL := CntR.trans hL h12 | have hL := h12); (try clear q1 q2 q3 q4); all_goals (clear h12; obtain ⟨q1, q2, q3, q4⟩ := CntR.facts hL; try simp only [World.size_alloc] at q1 q2 q3 q4)) | (go_at_call 43; (with_reducible refine (jY b _ _ _ (heap_alloc hR.cnt _) n1 (by omega)).mono ?_); rintro e w2 (⟨c7, rfl, h10, h12⟩ | ⟨c7, rfl, h10, h11, h12⟩); all_goals (first | replace hA := CntR.trans hA h12 | have hA := CntR.trans hR h12 | have hA := CntR.trans (CntR.alloc hR _) h12 | skip); all_goals (first | replace hL := CntR.trans hL h12 | have hL := h12); (try clear q1 q2 q3 q4); all_goals (clear h12; obtain ⟨q1, q2, q3, q4⟩ := CntR.facts hL; try simp only [World.size_alloc] at q1 q2 q3 q4)) | (go_at_call 65; (with_reducible refine (cnt_target b _ p.rules[k].target _ _ w0 _ s2.out (by simp only [reachBytes]; omega) (Below.cnt (Below.alloc1 hB0 _) hA hb (Nat.le_refl _)) hb hA.cnt (by omega)).mono ?_); rintro e w2 (⟨c7, rfl, h10, h12⟩ | ⟨c7, rfl, h10, h11, h12⟩); all_goals (first | replace hA := CntR.trans hA h12 | have hA := CntR.trans hR h12 | have hA := CntR.trans (CntR.alloc hR _) h12 | skip); all_goals (first | replace hL := CntR.trans hL h12 | have hL := h12); (try clear q1 q2 q3 q4); all_goals (clear h12; obtain ⟨q1, q2, q3, q4⟩ := CntR.facts hL; try simp only [World.size_alloc] at q1 q2 q3 q4)) | (go_at_call 66; (with_reducible refine (cnt_obls b _ p.rules[k].obls _ _ w0 _ s4.out (by simp only [reachBytes]; omega) (Below.cnt (Below.alloc1 hB0 _) hA hb (Nat.le_refl _)) hb hA.cnt (by omega)).mono ?_); rintro e w2 (⟨c7, rfl, h10, h12⟩ | ⟨c7, rfl, h10, h11, h12⟩); all_goals (first | replace hA := CntR.trans hA h12 | have hA := CntR.trans hR h12 | have hA := CntR.trans (CntR.alloc hR _) h12 | skip); all_goals (first | replace hL := CntR.trans hL h12 | have hL := h12); (try clear q1 q2 q3 q4); all_goals (clear h12; obtain ⟨q1, q2, q3, q4⟩ := CntR.facts hL; try simp only [World.size_alloc] at q1 q2 q3 q4)))
        all_goals first | (go_ret; exact Or.inl ⟨_, rfl, by omega, (CntR.alloc (CntR.refl hc.out) _).trans hA⟩) | skip
        rename Hid (txt p.rules[k].id + _ = _) => g1
        rename Hid (tsz p.rules[k].target + _ = _) => g2
        rename Hid (p.rules[k].cond.length + _ = _) => g3
        obtain ⟨k1, hk1⟩ : ∃ k1, k1 = txt p.rules[k].id + tsz p.rules[k].target + p.rules[k].cond.length + osz p.rules[k].obls := ⟨_, rfl⟩
        have g' := hide (show k1 + c7 = c2 by have := g1.out; have := g2.out; have := g3.out; have := h11.out; omega)
        have hcc7 : c7 ≤ c := by omega
        have e1 := hide (show rusz p.rules[k] = k1 + qT nsz p.rules[k].cond by subst hk1; rfl)
        clear g1 g2 g3 h11 h10 hk1
        go_wp2
        clear q1 q2 q3 q4
        replace hR := hA
        clear hA
        go_loopw [8, 76] (fun _ i wr' => ∃ k' c4 : Nat, k' ≤ p.rules[k].cond.length ∧ i = .int .i64 k' ∧ c4 ≤ c ∧ CntR b c4 (w.alloc (.cells #[.string p.id, .bool p.set, .int .i64 p.alg, .slice A3 (List.length p.target) d3, .slice (some ⟨b2, o2, none⟩) p.rules.length d4, .slice A5 p.kids.length d5, .slice A6 p.obls.length d6] 28)) wr' ∧ Hid (k1 + qT nsz (p.rules[k].cond.take k') + c4 = c2)) (fun _ i _ => p.rules[k].cond.length - (intOf i).toNat)
        case atStart => exact ⟨0, c7, Nat.zero_le _, rfl, hcc7, hR, g'.out⟩
        case round =>
          clear hR g' hcc7 hL hbb hB1
          obtain ⟨k', c4, hk', rfl, hc4, hR, g'⟩ := hrel
          have hB1 : Below w0.heap.size w0 wr := Below.cnt (Below.alloc1 hB0 _) hR hb (Nat.le_refl _)
          by_cases hlt' : k' < p.rules[k].cond.length
          · obtain ⟨b4, o4, rfl, hbb, e0, ⟨e3, e4, e5⟩, ⟨e6, e7, e8⟩, hf⟩ := (s3.out.keep keeps_nod hB1).nod hlt'
            have hs' := hide (zG (f := nsz) hlt')
            have n1 := hf.attr.name
            have n2 := hf.val.s
            have hbw := hB1.size
            have hbr := lt_of_block hR.cnt
            go_wp2_with (go_at_call 43; (first | (with_reducible refine (jY b c4 _ _ (heap_alloc hR.cnt _) n1 (by omega)).mono ?_) | (with_reducible refine (jY b _ _ _ hA.cnt n2 (by omega)).mono ?_)); rintro e w2 (⟨c7, rfl, h10, h12⟩ | ⟨c7, rfl, h10, h11, h12⟩); all_goals (first | replace hA := CntR.trans hA h12 | have hA := CntR.trans hR h12 | have hA := CntR.trans (CntR.alloc hR _) h12 | skip); all_goals (first | replace hL := CntR.trans hL h12 | have hL := h12); (try clear q1 q2 q3 q4); all_goals (clear h12; obtain ⟨q1, q2, q3, q4⟩ := CntR.facts hL; try simp only [World.size_alloc] at q1 q2 q3 q4))
            · go_ret
              exact Or.inl ⟨_, rfl, by omega, (CntR.alloc (CntR.refl hc.out) _).trans hA⟩
            · go_ret
              exact Or.inl ⟨_, rfl, by omega, (CntR.alloc (CntR.refl hc.out) _).trans hA⟩
            · rename Hid (txt p.rules[k].cond[k'].attr.name + _ = c4) => g1
              go_roundw
              case rel => exact ⟨k' + 1, c7, by omega, by go_num, by omega, hA, hide (by have := g'.out; have := hs'.out; have := h11.out; have := g1.out; have e : nsz p.rules[k].cond[k'] = txt p.rules[k].cond[k'].attr.name + txt p.rules[k].cond[k'].val.s := rfl; omega)⟩
              case measure => simp [intOf]; omega
          · obtain rfl : k' = p.rules[k].cond.length := by omega
            rw [List.take_length] at g'
            go_wp2
            go_roundw
            case rel => exact ⟨k + 1, c4, by omega, by go_num, hc4, hR, hide (by have := g.out; have := g'.out; have := hs.out; have := e1.out; omega)⟩
            case measure => simp [intOf]; omega
      · obtain rfl : k = p.rules.length := by omega
        rw [List.take_length] at g
        obtain ⟨q1, q2, q3, q4⟩ := CntR.facts hR
        simp only [World.size_alloc] at q3
        go_wp2
        clear q1 q2 q3 q4
        go_loopw [10, 99] (fun _ i wr' => ∃ k' c4 : Nat, k' ≤ p.kids.length ∧ i = .int .i64 k' ∧ c4 ≤ c ∧ CntR b c4 (w.alloc (.cells #[.string p.id, .bool p.set, .int .i64 p.alg, .slice A3 (List.length p.target) d3, .slice A4 p.rules.length d4, .slice A5 p.kids.length d5, .slice A6 p.obls.length d6] 28)) wr' ∧ Hid (k0 + qT rusz p.rules + qT Pol.sz (p.kids.take k') + c4 = c)) (fun _ i _ => p.kids.length - (intOf i).toNat)
        case atStart => exact ⟨0, c2, Nat.zero_le _, rfl, hc2, hR, g.out⟩
        case round =>
          clear hR g hB1 hc2
          obtain ⟨k', c4, hk', rfl, hc4, hR, g⟩ := hrel
          have hB1 : Below w0.heap.size w0 wr := Below.cnt (Below.alloc1 hB0 _) hR hb (Nat.le_refl _)
          by_cases hlt' : k' < p.kids.length
          · obtain ⟨b2, o2, v3, v4, v5, v6, rfl, hbb, e0, e1, e2, e3, e4, e5, e6, hr⟩ := h5.out.pol0 hB1 hlt'
            have hs' := hide (zG (f := Pol.sz) hlt')
            obtain ⟨B3, j3, B4, j4, B5, j5, B6, j6, rfl, rfl, rfl, rfl⟩ := rPolN_form hr
            replace hr := hide hr
            have hbw := hB1.size
            have hbr := lt_of_block hR.cnt
            go_wp2_with (go_at_call 41; refine (ih.out b c4 p.kids[k'] w0 _ _ _ _ _ hr.out (Below.alloc1 hB1 _) hb (heap_alloc hR.cnt _) (by omega)).mono ?_; rintro e w2 (⟨c7, rfl, h10, h12⟩ | ⟨c7, rfl, h10, h11, h12⟩); all_goals (first | replace hA := CntR.trans hA h12 | have hA := CntR.trans hR h12 | have hA := CntR.trans (CntR.alloc hR _) h12 | skip); all_goals (first | replace hL := CntR.trans hL h12 | have hL := h12); (try clear q1 q2 q3 q4); all_goals (clear h12; obtain ⟨q1, q2, q3, q4⟩ := CntR.facts hL; try simp only [World.size_alloc] at q1 q2 q3 q4))
            · go_ret
              exact Or.inl ⟨_, rfl, by omega, (CntR.alloc (CntR.refl hc.out) _).trans hA⟩
            · go_roundw
              case rel => exact ⟨k' + 1, c7, by omega, by go_num, by omega, hA, hide (by have := g.out; have := hs'.out; have := h11.out; omega)⟩
              case measure => simp [intOf]; omega
          · obtain rfl : k' = p.kids.length := by omega
            rw [List.take_length] at g
            go_wp2
            go_ret
            exact Or.inr ⟨c4, rfl, hc4, hide (by have := g.out; have := e.out; have := hk0.out; omega), (CntR.alloc (CntR.refl hc.out) _).trans hR⟩
theorem cnt_policy (n : Nat) : CntPolicy n := by
  induction n with
  | zero => intro b c p w0 w c3 c4 c5 c6 h; exact h.elim
  | succ n ih => exact cnt_policy_step n ih
def upTo (k m : Nat) (w : World) (e : Ending) (w' : World) : Prop := (e = .returned (.bool false) ∧ Below w.heap.size w w') ∨ (e = .returned (.bool true) ∧ Hid (k ≤ m) ∧ Below w.heap.size w w')
theorem heap_new (w : World) (o : Obj) : (w.alloc o).heap[w.heap.size]? = some o := by
  show (w.heap.push o)[w.heap.size]? = _
  simp
theorem heap_at (w : World) (o : Obj) (b : Nat) (hb : b = w.heap.size) : (w.alloc o).heap[b]? = some o := by subst hb; exact heap_new w o
theorem small_any (n : Nat) (p : Pol) (w : World) (c3 c4 c5 c6 : Value) (hp : rPolN n w [.string p.id, .bool p.set, .int .i64 p.alg, c3, c4, c5, c6] p) :
    Calls Tryz.prog 15 #[.agg #[.string p.id, .bool p.set, .int .i64 p.alg, c3, c4, c5, c6]] w (upTo p.sz 3000 w) := by
  obtain ⟨A3, d3, A4, d4, A5, d5, A6, d6, rfl, rfl, rfl, rfl⟩ := rPolN_form hp
  replace hp := hide hp
  go_enter Tryz.func15, Tryz.ntmps15
  go_wp2_with (go_at_call 41; refine (cnt_policy n (w.heap.size + 1) 3000 p w _ _ _ _ _ hp.out (by repeat (first | exact Below.refl _ _ | assumption | refine Below.alloc1 ?_ _ | refine Below.drew ?_ | refine qt ?_ | refine Below.setCell ?_ (by first | exact Nat.le_refl _ | (simp; done) | omega | (simp; omega)) _ | refine Below.lift ?_ (by assumption))) (by omega) ?_ (Nat.le_refl _)).mono ?_; exact heap_at _ _ _ (by simp); rintro e w2 (⟨c7, rfl, h10, h12⟩ | ⟨c7, rfl, h10, h11, h12⟩))
  · go_ret
    exact Or.inl ⟨rfl, ((Below.refl _ _).alloc (Nat.le_refl _) _).alloc (by simp) _ |>.trans (h12.below (by omega) (by simp; omega))⟩
  · go_ret
    exact Or.inr ⟨rfl, hide (by have := h11.out; omega), ((Below.refl _ _).alloc (Nat.le_refl _) _).alloc (by simp) _ |>.trans (h12.below (by omega) (by simp; omega))⟩
def gsz (g : Giv) : Nat := txt g.name + g.bag.length + qT (fun v : Val => txt v.s) g.bag
def fsz (l : List Giv) : Nat := 2 * l.length + qT gsz l
theorem SlAt.giv0 {w0 w : World} {A : Option Addr} {l : List Giv} (h : SlAt rGiv 3 w0 A l) (hB : Below w0.heap.size w0 w) {k : Nat} (hk : k < l.length) :
    ∃ b o B c, A = some ⟨b, o, none⟩ ∧ b < w0.heap.size ∧ w.cell? ⟨b, o + k * 3, none⟩ = some (.int .i64 l[k].cat) ∧ w.cell? ⟨b, o + k * 3 + 1, none⟩ = some (.string l[k].name) ∧
      w.cell? ⟨b, o + k * 3 + 2, none⟩ = some (.slice B l[k].bag.length c) ∧ R64 l[k].cat ∧ l[k].name.size ≤ reachBytes ∧ l[k].bag.length ≤ c ∧ (l[k].bag.length ≤ reachBytes ∧ c ≤ maxLen) ∧ SlAt rVal 3 w0 B l[k].bag := by
  obtain ⟨b, o, B, c, hA, hb, h0, h1, h2, h3⟩ := h.giv hk
  have cell : ∀ j, w.cell? ⟨b, j, none⟩ = w0.cell? ⟨b, j, none⟩ := fun j => hB.cell (p := ⟨b, j, none⟩) hb
  exact ⟨b, o, B, c, hA, hb, (cell _).trans h0, (cell _).trans h1, (cell _).trans h2, h3⟩
set_option maxRecDepth 100000 in
set_option maxHeartbeats 4000000 in
theorem few_any (l : List Giv) (A : Option Addr) (c : Nat) (w0 : World) (hl : l.length ≤ reachBytes) (h : SlAt rGiv 3 w0 A l) :
    Calls Tryz.prog 16 #[.slice A l.length c] w0 (upTo (fsz l) 1200 w0) := by
  unfold reachBytes at hl
  replace h := hide h
  have hb : w0.heap.size ≤ w0.heap.size := Nat.le_refl _
  have hB0 : Below w0.heap.size w0 w0 := Below.refl _ _
  have hc := hide (heap_new w0 (cntObj 1200))
  go_enter Tryz.func16, Tryz.ntmps16
  go_upto_region 4 with (go_at_call 42; refine (wG w0.heap.size 1200 (2 * l.length) _ _ (by simp) hc.out (by omega) (by omega)).mono ?_; rintro e w1 (⟨c1, rfl, h1, h3⟩ | ⟨c1, rfl, h1, h2, h3⟩))
  · go_ret
    exact Or.inl ⟨rfl, ((Below.refl _ _).alloc (Nat.le_refl _) _).trans (h3.below (by omega) (by simp))⟩
  · go_wp2
    go_loopw [5, 7, 18] (fun _ _ i wr => ∃ k c2 : Nat, k ≤ l.length ∧ i = .int .i64 k ∧ c2 ≤ 1200 ∧ CntR w0.heap.size c2 (w0.alloc (cntObj 1200)) wr ∧ Hid (2 * l.length + qT gsz (l.take k) + c2 = 1200)) (fun _ _ i _ => l.length - (intOf i).toNat)
    case atStart => exact ⟨0, c1, Nat.zero_le _, rfl, h1, h3, h2.out⟩
    case round =>
      clear h1 h2 h3
      obtain ⟨k, c2, hk, rfl, hc2, hR, g⟩ := hrel
      have hB1 : Below w0.heap.size w0 wr := Below.cnt (Below.alloc1 hB0 _) hR hb (Nat.le_refl _)
      by_cases hlt : k < l.length
      · obtain ⟨b2, o2, B2, j2, rfl, hbb, e0, e1, e2, hcat, n1, t1, t2, hbag⟩ := h.out.giv0 hB1 hlt
        have hs := hide (zG (f := gsz) hlt)
        replace hbag := hide hbag
        have hbw := hB1.size
        have hbr := lt_of_block hR.cnt
        simp only [reachBytes] at t2
        go_upto_region 9 with (first | (go_at_call 42; (with_reducible refine (wG _ _ l[k].bag.length _ _ (by simp) hA.cnt (by omega) (by omega)).mono ?_); rintro e w2 (⟨c7, rfl, h10, h12⟩ | ⟨c7, rfl, h10, h11, h12⟩); all_goals (first | replace hA := CntR.trans hA h12 | have hA := CntR.trans hR h12 | have hA := CntR.trans (CntR.alloc hR _) h12 | skip); all_goals (first | replace hL := CntR.trans hL h12 | have hL := h12); (try clear q1 q2 q3 q4); all_goals (clear h12; obtain ⟨q1, q2, q3, q4⟩ := CntR.facts hL; try simp only [World.size_alloc] at q1 q2 q3 q4)) | (go_at_call 43; (with_reducible refine (jY _ c2 _ _ (heap_alloc hR.cnt _) n1 (by omega)).mono ?_); rintro e w2 (⟨c7, rfl, h10, h12⟩ | ⟨c7, rfl, h10, h11, h12⟩); all_goals (first | replace hA := CntR.trans hA h12 | have hA := CntR.trans hR h12 | have hA := CntR.trans (CntR.alloc hR _) h12 | skip); all_goals (first | replace hL := CntR.trans hL h12 | have hL := h12); (try clear q1 q2 q3 q4); all_goals (clear h12; obtain ⟨q1, q2, q3, q4⟩ := CntR.facts hL; try simp only [World.size_alloc] at q1 q2 q3 q4)))
        · go_ret
          exact Or.inl ⟨rfl, ((Below.refl _ _).alloc (Nat.le_refl _) _).trans (hA.below (by omega) (by simp))⟩
        · go_ret
          exact Or.inl ⟨rfl, ((Below.refl _ _).alloc (Nat.le_refl _) _).trans (hA.below (by omega) (by simp))⟩
        · rename Hid (txt l[k].name + _ = _) => g1
          obtain ⟨k1, hk1⟩ : ∃ k1, k1 = txt l[k].name + l[k].bag.length := ⟨_, rfl⟩
          have g' := hide (show k1 + c7 = c2 by have := g1.out; have := h11.out; omega)
          have hcc7 : c7 ≤ 1200 := by omega
          have e1 := hide (show gsz l[k] = k1 + qT (fun v : Val => txt v.s) l[k].bag by subst hk1; rfl)
          clear g1 h11 h10 hk1
          go_wp2
          clear q1 q2 q3 q4
          replace hR := hA
          clear hA
          go_loopw [7, 38] (fun _ i wr' => ∃ k' c4 : Nat, k' ≤ l[k].bag.length ∧ i = .int .i64 k' ∧ c4 ≤ 1200 ∧ CntR w0.heap.size c4 (w0.alloc (cntObj 1200)) wr' ∧ Hid (k1 + qT (fun v : Val => txt v.s) (l[k].bag.take k') + c4 = c2)) (fun _ i _ => l[k].bag.length - (intOf i).toNat)
          case atStart => exact ⟨0, c7, Nat.zero_le _, rfl, hcc7, hR, g'.out⟩
          case round =>
            clear hR g' hcc7 hL hbb hB1
            obtain ⟨k', c4, hk', rfl, hc4, hR, g'⟩ := hrel
            have hB1 : Below w0.heap.size w0 wr := Below.cnt (Below.alloc1 hB0 _) hR hb (Nat.le_refl _)
            by_cases hlt' : k' < l[k].bag.length
            · obtain ⟨b4, o4, rfl, hbb, e3, e4, e5, hf⟩ := (hbag.out.keep qS hB1).val hlt'
              have hs' := hide (zG (f := fun v : Val => txt v.s) hlt')
              have n2 := hf.s
              have hbw := hB1.size
              have hbr := lt_of_block hR.cnt
              go_wp2_with (go_at_call 43; (with_reducible refine (jY _ c4 _ _ (heap_alloc hR.cnt _) n2 (by omega)).mono ?_); rintro e w2 (⟨c7, rfl, h10, h12⟩ | ⟨c7, rfl, h10, h11, h12⟩); all_goals (first | replace hA := CntR.trans hA h12 | have hA := CntR.trans hR h12 | have hA := CntR.trans (CntR.alloc hR _) h12 | skip); all_goals (first | replace hL := CntR.trans hL h12 | have hL := h12); (try clear q1 q2 q3 q4); all_goals (clear h12; obtain ⟨q1, q2, q3, q4⟩ := CntR.facts hL; try simp only [World.size_alloc] at q1 q2 q3 q4))
              · go_ret
                exact Or.inl ⟨rfl, ((Below.refl _ _).alloc (Nat.le_refl _) _).trans (hA.below (by omega) (by simp))⟩
              · go_roundw
                case rel => exact ⟨k' + 1, c7, by omega, by go_num, by omega, hA, hide (by have := g'.out; have := hs'.out; have := h11.out; omega)⟩
                case measure => simp [intOf]; omega
            · obtain rfl : k' = l[k].bag.length := by omega
              rw [List.take_length] at g'
              go_wp2
              go_roundw
              case rel => exact ⟨k + 1, c4, by omega, by go_num, hc4, hR, hide (by have := g.out; have := g'.out; have := hs.out; have := e1.out; omega)⟩
              case measure => simp [intOf]; omega
      · obtain rfl : k = l.length := by omega
        rw [List.take_length] at g
        go_wp2
        go_ret
        exact Or.inr ⟨rfl, hide (by have := g.out; unfold fsz; omega), ((Below.refl _ _).alloc (Nat.le_refl _) _).trans (hR.below (by omega) (by simp))⟩
end Go.Proofs.YtppfcacnofjmdaaGreatDoor
namespace Go.Proofs.YtppfcacnofjmdaaGreatDoor
set_option linter.unusedVariables false
set_option linter.unusedSimpArgs false
open Go.RowKit
theorem val_back {ok : Nat → Prop} {w : World} {cs : List Value} {x : Val} (h : rPV ok w cs x.pv) : cs = x.cells := rPV_plain (xs := x.cells) h
theorem val_pv {w : World} {cs : List Value} {x : Val} (h : rVal w cs x) : rPV (fun _ => True) w cs x.pv := by
  obtain ⟨rfl, _⟩ := h
  exact plain_rPV (xs := x.cells) (fun v hv => by simp [Val.cells] at hv; rcases hv with rfl | rfl | rfl <;> rfl)
theorem vals_typed {ok : Nat → Prop} {w : World} {u : Value} {l : List Val} (h : RelP ok w (valsP l) u) (hf : ∀ x ∈ l, x.Fit) : ∃ A c, u = .slice A l.length c ∧ l.length ≤ c ∧ (l.length ≤ reachBytes ∧ c ≤ maxLen) ∧ SlAt rVal 3 w A l :=
  sl_typed h fun x hx cs hcs => ⟨val_back hcs, hf x hx⟩
theorem SlAt.fit {α : Type} {R : Rp α} {size : Nat} {w : World} {A : Option Addr} {l : List α} {F : α → Prop} (h : SlAt R size w A l) (hR : ∀ cs x, R w cs x → F x) : ∀ x ∈ l, F x := fun x hx => by
  obtain ⟨i, hi, rfl⟩ := List.mem_iff_getElem.1 hx
  obtain ⟨b, o, _, _, hc⟩ := h (by omega)
  obtain ⟨cs, _, _, h3⟩ := hc i hi
  exact hR cs _ h3
end Go.Proofs.YtppfcacnofjmdaaGreatDoor
namespace Go.Proofs.YtppfcacnofjmdaaGreatDoor
set_option linter.unusedVariables false
set_option linter.unusedSimpArgs false
open Go.RowKit
theorem mat_back {ok : Nat → Prop} {w : World} {cs : List Value} {x : Mat} (h : rPV ok w cs x.pv) : cs = x.cells := rPV_plain (xs := x.cells) h
theorem mat_pv {w : World} {cs : List Value} {x : Mat} (h : rMat w cs x) : rPV (fun _ => True) w cs x.pv := by
  obtain ⟨rfl, _⟩ := h
  exact plain_rPV (xs := x.cells) (fun v hv => by simp [Mat.cells, Atr.cells, Val.cells] at hv; rcases hv with rfl | rfl | rfl | rfl | rfl | rfl | rfl <;> rfl)
theorem mats_typed {ok : Nat → Prop} {w : World} {u : Value} {l : List Mat} (h : RelP ok w (qaB l) u) (hf : ∀ x ∈ l, x.Fit) : ∃ A c, u = .slice A l.length c ∧ l.length ≤ c ∧ (l.length ≤ reachBytes ∧ c ≤ maxLen) ∧ SlAt rMat 7 w A l :=
  sl_typed h fun x hx cs hcs => ⟨mat_back hcs, hf x hx⟩
structure Giv.Fit (x : Giv) : Prop where
  cat : R64 x.cat
  name : x.name.size ≤ reachBytes
  bag : ∀ v ∈ x.bag, v.Fit
theorem giv_back {ok : Nat → Prop} {w : World} {cs : List Value} {x : Giv} (h : rPV ok w cs x.pv) (hf : x.Fit) : rGiv w cs x := by
  have h0 := h.1
  match cs, h0 with
  | [a, b, c], _ =>
    have h1 := h.2 0 _ a rfl rfl
    have h2 := h.2 1 _ b rfl rfl
    have h3 := h.2 2 _ c rfl rfl
    cases h1; cases h2
    obtain ⟨A, d, rfl, g1, g2, g3⟩ := vals_typed h3 hf.bag
    exact ⟨A, d, rfl, hf.cat, hf.name, g1, g2, g3⟩
theorem giv_pv {w : World} {cs : List Value} {x : Giv} (h : rGiv w cs x) : rPV (fun _ => True) w cs x.pv := by
  obtain ⟨A, c, rfl, h1, h2, h3, h4, h5⟩ := h
  refine ⟨rfl, fun j s u hs hu => ?_⟩
  match j with
  | 0 => cases hs; cases hu; exact .v rfl
  | 1 => cases hs; cases hu; exact .v rfl
  | 2 => cases hs; cases hu; exact rel_sl h5 h3 h4 (fun _ => ⟨rfl, rfl⟩) fun x _ cs hcs => val_pv hcs
  | j + 3 => simp [Giv.pv] at hs
theorem givs_typed {ok : Nat → Prop} {w : World} {u : Value} {l : List Giv} (h : RelP ok w (zP l) u) (hf : ∀ x ∈ l, x.Fit) : ∃ A c, u = .slice A l.length c ∧ l.length ≤ c ∧ (l.length ≤ reachBytes ∧ c ≤ maxLen) ∧ SlAt rGiv 3 w A l :=
  sl_typed h fun x hx cs hcs => giv_back hcs (hf x hx)
theorem givs_rel {w : World} {A : Option Addr} {c : Nat} {l : List Giv} (h : SlAt rGiv 3 w A l) (hl : l.length ≤ c) (hc : l.length ≤ reachBytes ∧ c ≤ maxLen) : RelP (fun _ => True) w (zP l) (.slice A l.length c) :=
  rel_sl h hl hc (fun _ => ⟨rfl, rfl⟩) fun x _ cs hcs => giv_pv hcs
theorem any_back {ok : Nat → Prop} {w : World} {cs : List Value} {x : List Mat} (h : rPV ok w cs [qaB x]) (hf : ∀ m ∈ x, m.Fit) : rSl rMat 7 w cs x := by
  have h0 := h.1
  match cs, h0 with
  | [a], _ =>
    obtain ⟨A, d, rfl, g1, g2, g3⟩ := mats_typed (h.2 0 _ a rfl rfl) hf
    exact ⟨A, d, rfl, g1, g2, g3⟩
theorem mats_pv {w : World} {cs : List Value} {x : List Mat} (h : rSl rMat 7 w cs x) : rPV (fun _ => True) w cs [qaB x] := by
  obtain ⟨A, c, rfl, h1, h2, h3⟩ := h
  refine ⟨rfl, fun j s u hs hu => ?_⟩
  match j with
  | 0 => cases hs; cases hu; exact rel_sl h3 h1 h2 (fun _ => ⟨rfl, rfl⟩) fun x _ cs hcs => mat_pv hcs
  | j + 1 => simp at hs
theorem anys_back {ok : Nat → Prop} {w : World} {cs : List Value} {x : List (List Mat)} (h : rPV ok w cs [anyP x]) (hf : ∀ l ∈ x, ∀ m ∈ l, m.Fit) : rTar' w cs x := by
  have h0 := h.1
  match cs, h0 with
  | [a], _ =>
    obtain ⟨A, d, rfl, g1, g2, g3⟩ := sl_typed (R := rSl rMat 7) (h.2 0 _ a rfl rfl) fun y hy cs hcs => any_back hcs (hf y hy)
    exact ⟨A, d, rfl, g1, g2, g3⟩
theorem anys_pv {w : World} {cs : List Value} {x : List (List Mat)} (h : rTar' w cs x) : rPV (fun _ => True) w cs [anyP x] := by
  obtain ⟨A, c, rfl, h1, h2, h3⟩ := h
  refine ⟨rfl, fun j s u hs hu => ?_⟩
  match j with
  | 0 => cases hs; cases hu; exact rel_sl h3 h1 h2 (fun _ => ⟨rfl, rfl⟩) fun x _ cs hcs => mats_pv hcs
  | j + 1 => simp at hs
theorem tgt_typed {ok : Nat → Prop} {w : World} {u : Value} {t : Tar} (h : RelP ok w (tgtP t) u) (hf : ∀ x ∈ t, ∀ l ∈ x, ∀ m ∈ l, m.Fit) : ∃ A c, u = .slice A t.length c ∧ t.length ≤ c ∧ (t.length ≤ reachBytes ∧ c ≤ maxLen) ∧ SlAt rTar' 1 w A t :=
  sl_typed h fun x hx cs hcs => anys_back hcs (hf x hx)
theorem tgt_rel {w : World} {A : Option Addr} {c : Nat} {t : Tar} (h : SlAt rTar' 1 w A t) (hl : t.length ≤ c) (hc : t.length ≤ reachBytes ∧ c ≤ maxLen) : RelP (fun _ => True) w (tgtP t) (.slice A t.length c) :=
  rel_sl h hl hc (fun _ => ⟨rfl, rfl⟩) fun x _ cs hcs => anys_pv hcs
theorem giv_fit {w : World} {cs : List Value} {x : Giv} (h : rGiv w cs x) : x.Fit := by
  obtain ⟨A, c, rfl, h1, h2, h3, h4, h5⟩ := h
  exact ⟨h1, h2, h5.fit fun _ _ h => h.2⟩
theorem tgt_fit {w : World} {A : Option Addr} {t : Tar} (h : SlAt rTar' 1 w A t) : ∀ x ∈ t, ∀ l ∈ x, ∀ m ∈ l, m.Fit :=
  h.fit fun cs x ⟨_, _, _, _, _, h1⟩ => h1.fit fun cs y ⟨_, _, _, _, _, h2⟩ => h2.fit fun _ _ h => h.2
end Go.Proofs.YtppfcacnofjmdaaGreatDoor
namespace Go.Proofs.YtppfcacnofjmdaaGreatDoor
open Go.RowKit
set_option linter.unusedSimpArgs false
set_option linter.unusedVariables false
attribute [local go_sem] ext_cell wi
attribute [local go_sem low] we jp
theorem eql_val (a b : Int) (s : ByteArray) (a' b' : Int) (s' : ByteArray) (w : World) :
    (binOp .eql 52 (.agg #[.int .i64 a, .int .i64 b, .string s]) (.agg #[.int .i64 a', .int .i64 b', .string s'])).run Tryz.prog w = .ok (.bool (jh ⟨a, b, s⟩ ⟨a', b', s'⟩)) w := by
  unfold jh
  by_cases h1 : a = a'
  · by_cases h2 : b = b'
    · by_cases h3 : s = s'
      · subst h1; subst h2; subst h3
        go_simp
      · have : s.toList ≠ s'.toList := fun h => h3 (toList_inj h)
        subst h1; subst h2
        go_simp
    · subst h1
      go_simp
  · go_simp
set_option maxHeartbeats 2000000 in
theorem name_any (s : ByteArray) (w : World) (hs : s.size ≤ reachBytes) :
    Calls Tryz.prog 105 #[.string s] w fun e w' => e = .returned (.bool (wO s)) ∧ w = w' := by
  unfold reachBytes at hs
  go_enter Tryz.func105, Tryz.ntmps105
  go_wp2
  go_loop [3, 4, 5, 6, 9] (fun _ _ _ _ i => ∃ k : Nat, k ≤ s.size ∧ i = .int .i64 k ∧ Hid (∀ i (h : i < s.size), i < k → okC (i == 0) s[i].toNat = true)) (fun _ _ _ _ i => s.size - (intOf i).toNat)
  case atStart => exact ⟨0, Nat.zero_le _, rfl, fun i _ h => absurd h (by omega)⟩
  case round =>
    obtain ⟨k, hk, rfl, hok⟩ := hrel
    by_cases hlt : k < s.size
    · skip
      go_upto_region 5 with (fail)
      refine wp_spec (by kernel_rfl) ?_
      repeat (refine qH ?_; intro K hK; go_big_quiet_op; go_big_quiet_on)
      refine zx ?_
      intro us
      simp only [junk, Act.put, List.setIfInBounds_toArray, List.set_cons_zero, List.set_cons_succ]
      go_upto_region 6 with (fail)
      refine wp_spec (by kernel_rfl) ?_
      repeat (refine qH ?_; intro K hK; go_big_quiet_op; go_big_quiet_on)
      refine zx ?_
      intro us
      simp only [junk, Act.put, List.setIfInBounds_toArray, List.set_cons_zero, List.set_cons_succ]
      go_upto_region 7 with (fail)
      refine wp_spec (by kernel_rfl) ?_
      repeat (refine qH ?_; intro K hK; go_big_quiet_op; go_big_quiet_on)
      refine zx ?_
      intro us
      simp only [junk, Act.put, List.setIfInBounds_toArray, List.set_cons_zero, List.set_cons_succ]
      go_wp2
      · go_ret
        refine ⟨wc (nameS_no hlt ?_).symm, rfl⟩
        go_light
        simp [okC] at *
        omega
      · go_round
        case rel =>
          refine ⟨k + 1, by omega, by go_num, name_step hlt hok.out ?_⟩
          go_light
          simp [okC] at *
          omega
        case measure => simp [intOf]; omega
    · obtain rfl : k = s.size := by omega
      have e1 := hide (nameS_end hok.out)
      go_upto_region 10 with (fail)
      refine wp_spec (by kernel_rfl) ?_
      repeat (refine qH ?_; intro K hK; go_big_quiet_op; go_big_quiet_on)
      refine zx ?_
      intro us
      simp only [junk, Act.put, List.setIfInBounds_toArray, List.set_cons_zero, List.set_cons_succ]
      go_wp2
      go_ret
      refine ⟨wc ?_, rfl⟩
      rw [e1.out, jg, Bool.eq_iff_iff]
      simp only [Bool.and_eq_true, decide_eq_true_eq, Bool.not_eq_true', decide_eq_false_iff_not]
      omega
theorem right_any (k n : Int) (s : ByteArray) (w : World) (hs : s.size ≤ reachBytes) :
    Calls Tryz.prog 103 #[.agg #[.int .i64 k, .int .i64 n, .string s]] w fun e w' => e = .returned (.bool (Val.right ⟨k, n, s⟩)) ∧ Below w.heap.size w w' := by
  unfold reachBytes at hs
  have hs' : s.size ≤ reachBytes := hs
  go_enter Tryz.func103, Tryz.ntmps103
  go_wp2_with (go_at_call 105; refine (name_any _ _ hs').mono ?_; rintro e w1 ⟨rfl, rfl⟩)
  all_goals
    go_ret
    refine ⟨wc ?_, (Below.refl _ _).alloc (Nat.le_refl _) _⟩
    go_light
    simp only [beq_iff_eq, beq_eq_false_iff_ne, ne_eq] at *
    simp [Val.right, jg, *]
    try omega
theorem texts_any (k : Int) (w : World) :
    Calls Tryz.prog 104 #[.int .i64 k] w fun e w' => e = .returned (.bool (textsS k)) ∧ w = w' := by
  go_enter Tryz.func104, Tryz.ntmps104
  go_upto_region 1 with (fail)
  refine wp_spec (by kernel_rfl) ?_
  repeat (refine qH ?_; intro K hK; go_big_quiet_op; go_big_quiet_on)
  refine zx ?_
  intro us
  simp only [junk, Act.put, List.setIfInBounds_toArray, List.set_cons_zero, List.set_cons_succ]
  go_wp2
  go_ret
  exact ⟨wc (by rw [Bool.eq_iff_iff]; simp [textsS]), rfl⟩
theorem less_any (k n : Int) (s : ByteArray) (k' n' : Int) (s' : ByteArray) (w : World) (hs : s.size ≤ reachBytes) (hs' : s'.size ≤ reachBytes) :
    Calls Tryz.prog 83 #[.agg #[.int .i64 k, .int .i64 n, .string s], .agg #[.int .i64 k', .int .i64 n', .string s']] w
      fun e w' => e = .returned (.tuple #[.bool (wN ⟨k, n, s⟩ ⟨k', n', s'⟩).1, .int .i64 (wN ⟨k, n, s⟩ ⟨k', n', s'⟩).2]) ∧ Below w.heap.size w w' := by
  go_enter Tryz.func83, Tryz.ntmps83
  go_upto_region 1 with (fail)
  refine wp_spec_ext (by kernel_rfl) ?_
  repeat (refine qH ?_; intro K hK; go_big_quiet_op; go_big_quiet_on)
  refine qH ?_; intro K hK; go_big_quiet_op
  refine ⟨_, fun _ => wQ (right_any _ _ _ _ hs), ?_⟩
  go_big_quiet_on
  repeat (refine qH ?_; intro K hK; go_big_quiet_op; go_big_quiet_on)
  refine qH ?_; intro K hK; go_big_quiet_op
  refine ⟨_, fun _ => wQ (right_any _ _ _ _ hs'), ?_⟩
  go_big_quiet_on
  repeat (refine qH ?_; intro K hK; go_big_quiet_op; go_big_quiet_on)
  refine zx ?_
  intro us w1 hB1
  simp only [junk, Act.put, List.setIfInBounds_toArray, List.set_cons_zero, List.set_cons_succ]
  obtain ⟨hc1, hf1⟩ := jF hB1; have hz1 := hB1.size; try simp only [World.size_alloc, World.size_drew] at hc1 hf1 hz1
  go_upto_region 3 with (fail)
  · go_ret2
    refine ⟨ret_bi ?_, (by repeat (first | exact Below.refl _ _ | assumption | refine Below.alloc1 ?_ _ | refine Below.drew ?_ | refine qt ?_ | refine Below.setCell ?_ (by first | exact Nat.le_refl _ | (simp; done) | omega | (simp; omega)) _ | refine Below.lift ?_ (by assumption)))⟩
    go_light
    simp_all [wN]
  · have h : (!{ kind := k, n := n, s := s : Val }.right) = false ∧ (!{ kind := k', n := n', s := s' : Val }.right) = false := by assumption
    have H := hide h
    clear h
    refine wp_spec (by kernel_rfl) ?_
    repeat (refine qH ?_; intro K hK; go_big_quiet_op; go_big_quiet_on)
    refine zx ?_
    intro us
    simp only [junk, Act.put, List.setIfInBounds_toArray, List.set_cons_zero, List.set_cons_succ]
    go_wp2_with (go_at_call 104; refine (texts_any _ _).mono ?_; rintro e w2 ⟨rfl, rfl⟩)
    all_goals
      go_ret2
      refine ⟨ret_bi ?_, (by repeat (first | exact Below.refl _ _ | assumption | refine Below.alloc1 ?_ _ | refine Below.drew ?_ | refine qt ?_ | refine Below.setCell ?_ (by first | exact Nat.le_refl _ | (simp; done) | omega | (simp; omega)) _ | refine Below.lift ?_ (by assumption)))⟩
      have h := H.out
      go_light
      simp_all [wN, lessB]
      try (intro h1; simp_all)
end Go.Proofs.YtppfcacnofjmdaaGreatDoor
namespace Go.Proofs.YtppfcacnofjmdaaGreatDoor
set_option linter.unusedVariables false
set_option linter.unusedSimpArgs false
def attrS (a : Atr) : Bool := decide (1 ≤ a.cat) && decide (a.cat ≤ 4) && wO a.name
def manyS (n : Nat) : Int := if n = 0 then 1 else if 8 < n then 6 else 0
def matchS (m : Mat) : Bool := attrS m.attr && decide (1 ≤ m.op) && decide (m.op ≤ 3) && m.val.right
def firstE {α : Type} (f : α → Int) : List α → Int
  | [] => 0
  | x :: r => if f x = 0 then firstE f r else f x
def okE (b : Bool) : Int := if b then 0 else 1
def allOfS (l : List Mat) : Int := if manyS l.length = 0 then firstE (fun m => okE (matchS m)) l else manyS l.length
def anyOfS (l : List (List Mat)) : Int := if manyS l.length = 0 then firstE allOfS l else manyS l.length
def zI (t : Tar) : Int := if 8 < t.length then 6 else firstE anyOfS t
def oblS (o : Obli) : Bool := decide (1 ≤ o.on) && decide (o.on ≤ 2) && decide (1 ≤ o.kind) && decide (o.kind ≤ 4) && wO o.arg
def oblsS (l : List Obli) : Int := if 8 < l.length then 6 else firstE (fun o => okE (oblS o)) l
def zu (op : Int) : Option (List Bool) :=
  if op = 1 ∨ op = 2 then some []
  else if op = 3 ∨ op = 4 then some [true]
  else if op = 5 then some [true, false]
  else if op = 11 then some [false]
  else if 6 ≤ op ∧ op ≤ 13 then some [false, false]
  else none
def isNoVal (v : Val) : Bool := decide (v.kind = 0) && decide (v.n = 0) && decide (v.s.size = 0)
def isNoAtr (a : Atr) : Bool := decide (a.cat = 0) && decide (a.name.size = 0) && !a.must
def ji (n : Nod) : Bool :=
  if n.op = 1 then n.val.right && isNoAtr n.attr
  else if n.op = 2 then attrS n.attr && isNoVal n.val
  else isNoVal n.val && isNoAtr n.attr
def zy (l : List Bool) (n : Nod) : Option (List Bool) := match zu n.op with
  | none => none
  | some w => if ji n = true ∧ w.length ≤ l.length ∧ l.drop (l.length - w.length) = w then some (l.take (l.length - w.length) ++ [decide (n.op = 2)]) else none
def qW : List Bool → List Nod → Option (List Bool)
  | l, [] => some l
  | l, n :: r => match zy l n with
    | some l' => qW l' r
    | none => none
def zo (l : List Nod) : Int :=
  if 32 < l.length then 6 else match qW [] l with
    | none => 1
    | some made => if l = [] ∨ made = [false] then 0 else 1
structure Wlk where
  met : List ByteArray
  rules : Int
def hasS (m : List ByteArray) (s : ByteArray) : Bool := m.any fun t => decide (s = t)
def zO (m : List ByteArray) (s : ByteArray) : Bool := !hasS m s && wO s
def nameM (m : List ByteArray) (s : ByteArray) : List ByteArray := if zO m s then m ++ [s] else m
def ruleE (r : Rul) : Int := if zI r.target = 0 then (if zo r.cond = 0 then oblsS r.obls else zo r.cond) else zI r.target
def zq (w : Wlk) (r : Rul) : Int × Wlk :=
  if zO w.met r.id then (if 64 < w.rules + 1 then 6 else ruleE r, ⟨w.met ++ [r.id], w.rules + 1⟩) else (1, w)
def headE (p : Pol) : Int :=
  if (p.set && decide (0 < p.rules.length)) || (!p.set && (decide (0 < p.kids.length) || decide (p.alg = 4))) then 1
  else if zI p.target = 0 then (if oblsS p.obls = 0 then (if 16 < p.rules.length ∨ 16 < p.kids.length then 6 else 0) else oblsS p.obls) else zI p.target
def zF (w : Wlk) (p : Pol) : Int × Wlk :=
  (if zO w.met p.id && decide (1 ≤ p.alg) && decide (p.alg ≤ 6) then headE p else 1, ⟨nameM w.met p.id, w.rules⟩)
def seqS {α : Type} (f : Wlk → α → Int × Wlk) : Wlk → List α → Int × Wlk
  | w, [] => (0, w)
  | w, x :: r => if (f w x).1 = 0 then seqS f (f w x).2 r else f w x
def polS : Nat → Wlk → Pol → Int × Wlk
  | 0, w, _ => (6, w)
  | n + 1, w, p =>
    if (zF w p).1 = 0 then
      if (seqS zq (zF w p).2 p.rules).1 = 0 then seqS (polS n) (seqS zq (zF w p).2 p.rules).2 p.kids
      else seqS zq (zF w p).2 p.rules
    else zF w p
def zb (p : Pol) : Int := (polS 4 ⟨[], 0⟩ p).1
theorem seqS_some {α : Type} {f : Wlk → α → Int × Wlk} : ∀ {l : List α} {w : Wlk} {k : Nat} (hk : k < l.length), (seqS f w (l.take k)).1 = 0 → seqS f w (l.take (k + 1)) = f (seqS f w (l.take k)).2 l[k]
  | x :: r, w, 0, _, _ => by
    simp only [Nat.zero_add, List.take_succ_cons, List.take_zero, seqS, List.getElem_cons_zero]
    split
    · rename_i h; rw [← h]
    · rfl
  | x :: r, w, k + 1, hk, h => by
    rw [List.take_succ_cons, seqS] at h
    rw [List.take_succ_cons, List.take_succ_cons, seqS, seqS]
    by_cases h0 : (f w x).1 = 0
    · rw [if_pos h0] at h
      rw [if_pos h0, if_pos h0]
      exact seqS_some (by simpa using hk) h
    · rw [if_neg h0] at h; exact absurd h h0
theorem seqS_stop {α : Type} {f : Wlk → α → Int × Wlk} : ∀ {l : List α} {w : Wlk} (k : Nat), (seqS f w (l.take k)).1 ≠ 0 → seqS f w l = seqS f w (l.take k)
  | [], w, k, _ => by simp
  | x :: r, w, 0, h => by simp [seqS] at h
  | x :: r, w, k + 1, h => by
    rw [List.take_succ_cons, seqS] at h ⊢
    rw [seqS]
    by_cases h0 : (f w x).1 = 0
    · rw [if_pos h0] at h ⊢
      rw [if_pos h0]
      exact seqS_stop k h
    · rw [if_neg h0, if_neg h0]
theorem wV {α : Type} {f : α → Int} : ∀ {l : List α} {k : Nat} (hk : k < l.length), (∀ x ∈ l.take k, f x = 0) → f l[k] ≠ 0 → firstE f l = f l[k]
  | x :: r, 0, _, _, h => by simp only [List.getElem_cons_zero] at h ⊢; rw [firstE, if_neg h]
  | x :: r, k + 1, hk, ha, h => by
    have h0 : f x = 0 := ha x (by simp)
    rw [firstE, if_pos h0]
    simp only [List.getElem_cons_succ] at h ⊢
    exact wV (by simpa using hk) (fun y hy => ha y (by rw [List.take_succ_cons]; exact List.mem_cons_of_mem _ hy)) h
theorem wT {α : Type} {f : α → Int} : ∀ {l : List α}, (∀ x ∈ l, f x = 0) → firstE f l = 0
  | [], _ => rfl
  | x :: r, h => by rw [firstE, if_pos (h x List.mem_cons_self)]; exact wT fun y hy => h y (List.mem_cons_of_mem _ hy)
theorem take_ok {α : Type} {p : α → Prop} {l : List α} {k : Nat} (h : k < l.length) (ha : ∀ x ∈ l.take k, p x) (hk : p l[k]) : ∀ x ∈ l.take (k + 1), p x := by
  intro x hx
  rw [List.take_succ_eq_append_getElem h, List.mem_append, List.mem_singleton] at hx
  rcases hx with hx | rfl
  · exact ha x hx
  · exact hk
end Go.Proofs.YtppfcacnofjmdaaGreatDoor
namespace Go.Proofs.YtppfcacnofjmdaaGreatDoor
set_option linter.unusedVariables false
set_option linter.unusedSimpArgs false
open Go.RowKit
set_option maxHeartbeats 1000000
theorem one_arg {vs : List Value} (h : vs.length = 1) : ∃ u, vs = [u] := by
  match vs, h with
  | [u], _ => exact ⟨u, rfl⟩
theorem name_h (s : ByteArray) (hs : s.size ≤ reachBytes) : Holds Tryz.prog 105 [pS s] (.p (pB (wO s))) [] :=
  .of_calls Tryz.func105 (by kernel_rfl) rfl (fun w vs hl hr => by
    obtain ⟨u, rfl⟩ := one_arg hl
    have h := zX (hr 0 _ u rfl rfl) rfl
    subst h
    exact (name_any s w hs).mono fun e w' ⟨h1, h2⟩ => ⟨h1, h2 ▸ Below.refl _ _⟩) rfl fun w => .p (.v rfl)
theorem qad (v : Val) (hs : v.s.size ≤ reachBytes) : Holds Tryz.prog 103 [.agg v.pv] (.p (pB v.right)) [] :=
  .of_calls Tryz.func103 (by kernel_rfl) rfl (fun w vs hl hr => by
    obtain ⟨u, rfl⟩ := one_arg hl
    have h := zX (hr 0 _ u rfl rfl) rfl
    subst h
    exact right_any v.kind v.n v.s w hs) rfl fun w => .p (.v rfl)
theorem beq_bytes2 (a b : ByteArray) : (a.toList == b.toList) = decide (a = b) := by
  rw [Bool.eq_iff_iff]
  simp only [beq_iff_eq, decide_eq_true_eq]
  exact ⟨toList_inj, fun h => by rw [h]⟩
theorem eqL_val (x y : Val) : eqL x.pv y.pv = some (jh x y) := by
  have h : eqL x.pv y.pv = some ((x.kind == y.kind) && ((x.n == y.n) && ((x.s.toList == y.s.toList) && true))) := rfl
  rw [h, beq_bytes2, Bool.and_true]
  congr 1
  rw [Bool.eq_iff_iff]
  simp [jh, and_assoc]
theorem opR_eqV {T : TT} {K : List Nat} {st : St} {o : Op} {t t' : TypeId} {a b : Operand} (x y : Val) (ho : o = .binOp .eql t a b t') {n m : Nat} {d : Ty} {z : List Value} (ht : lk t T = some ⟨n, m, d, z, true⟩) (ha : evS st a = some (.p (.agg x.pv))) (hb : evS st b = some (.p (.agg y.pv))) : opR T K st o = some (zm x.pv z = true, .p (pB (jh x y))) := by
  subst ho
  show rBin T .eql t (evS st a) (evS st b) = _
  rw [ha, hb]
  unfold rBin
  simp only [ht, eqL_val]
end Go.Proofs.YtppfcacnofjmdaaGreatDoor
namespace Go.Proofs.YtppfcacnofjmdaaGreatDoor
set_option linter.unusedVariables false
set_option linter.unusedSimpArgs false
open Go.RowKit
set_option maxHeartbeats 1000000
def Nod.pv (x : Nod) : List PV := [pI x.op, pI x.val.kind, pI x.val.n, pS x.val.s, pI x.attr.cat, pS x.attr.name, pB x.attr.must]
def Obli.pv (x : Obli) : List PV := [pI x.on, pI x.kind, pS x.arg]
def qar (l : List Nod) : PV := .sl 7 (l.map Nod.pv)
def zQ (l : List Obli) : PV := .sl 3 (l.map Obli.pv)
def jA (l : List Bool) : List (List PV) := l.map fun b => [pB b]
def zt (r : Rul) : List PV := [pS r.id, pB r.deny, tgtP r.target, qar r.cond, zQ r.obls]
theorem attr_h (a : Atr) (ha : a.name.size ≤ reachBytes) : Holds Tryz.prog 143 [.agg a.pv] (.p (pB (attrS a))) [] := by
  refine qA (ts := [2]) Tryz.func143 (by kernel_rfl) rfl rfl rfl ?_
  (repeat refine qb ?_); refine qa ?_
  repeat (first | refine zR ?_ | refine zK ?_ | refine zM ?_ | refine zB ?_ | refine zA ?_ | refine zS ?_ | refine zL ?_)
  refine qc ?_
  (repeat refine qb ?_); refine qs (by kernel_rfl) ?_
  repeat (refine qr qe rfl (by exact True.intro) rfl ?_)
  refine zj rfl rfl rfl rfl (name_h a.name ha) rfl rfl ?_
  repeat (refine qr qe rfl (by exact True.intro) rfl ?_)
  refine qQ ?_
  (repeat refine qb ?_); refine qk ?_
  refine wS rfl ?_
  unfold attrS
  cases h1 : decide (1 ≤ a.cat) <;> cases h2 : decide (a.cat ≤ 4) <;> simp_all
theorem many_h (n : Nat) : Holds Tryz.prog 134 [pI n] (.p (pI (manyS n))) [] := by
  refine qA (ts := [2]) Tryz.func134 (by kernel_rfl) rfl rfl rfl ?_
  (repeat refine qb ?_); refine qa ?_
  repeat (first | refine zR ?_ | refine zK ?_ | refine zM ?_ | refine zB ?_ | refine zA ?_ | refine zS ?_ | refine zL ?_)
  refine qc ?_
  (repeat refine qb ?_); refine ql ?_
  (repeat refine qb ?_); refine qa ?_
  repeat (first | refine zR ?_ | refine zK ?_ | refine zM ?_ | refine zB ?_ | refine zA ?_ | refine zS ?_ | refine zL ?_)
  refine qc ?_
  (repeat refine qb ?_); refine qf rfl (fun h => ?_) (fun h => ?_)
  · have h0 : n = 0 := by simpa using h
    subst h0
    (repeat refine qb ?_); refine qa ?_
    repeat (first | refine zR ?_ | refine zK ?_ | refine zM ?_ | refine zB ?_ | refine zA ?_ | refine zS ?_ | refine zL ?_)
    refine qc ?_
    (repeat refine qb ?_); refine qk ?_
    exact zg rfl rfl
  · have h0 : n ≠ 0 := by simpa using h
    (repeat refine qb ?_); refine qa ?_
    repeat (first | refine zR ?_ | refine zK ?_ | refine zM ?_ | refine zB ?_ | refine zA ?_ | refine zS ?_ | refine zL ?_)
    refine qc ?_
    (repeat refine qb ?_); refine qf rfl (fun h2 => ?_) (fun h2 => ?_)
    · (repeat refine qb ?_); refine qa ?_
      repeat (first | refine zR ?_ | refine zK ?_ | refine zM ?_ | refine zB ?_ | refine zA ?_ | refine zS ?_ | refine zL ?_)
      refine qc ?_
      (repeat refine qb ?_); refine qk ?_
      refine zg rfl ?_
      simp at h2
      simp [manyS, h0]; omega
    · refine qm ?_
      (repeat refine qb ?_); refine qa ?_
      repeat (first | refine zR ?_ | refine zK ?_ | refine zM ?_ | refine zB ?_ | refine zA ?_ | refine zS ?_ | refine zL ?_)
      refine qc ?_
      (repeat refine qb ?_); refine qk ?_
      refine zg rfl ?_
      simp at h2
      simp [manyS, h0]; omega
theorem match_h (m : Mat) (hm : m.Fit) : Holds Tryz.prog 153 [.agg m.pv] (.p (pB (matchS m))) [] := by
  refine qA (ts := [2]) Tryz.func153 (by kernel_rfl) rfl rfl rfl ?_
  (repeat refine qb ?_); refine qa ?_
  repeat (first | refine zR ?_ | refine zK ?_ | refine zM ?_ | refine zB ?_ | refine zA ?_ | refine zS ?_ | refine zL ?_)
  refine qc ?_
  (repeat refine qb ?_); refine qs (by kernel_rfl) ?_
  repeat (refine qr qe rfl (by exact True.intro) rfl ?_)
  refine zj rfl rfl rfl rfl (attr_h m.attr hm.attr.name) rfl rfl ?_
  repeat (refine qr qe rfl (by exact True.intro) rfl ?_)
  refine zj rfl rfl rfl rfl (qad m.val hm.val.s) rfl rfl ?_
  repeat (refine qr qe rfl (by exact True.intro) rfl ?_)
  refine qQ ?_
  (repeat refine qb ?_); refine qk ?_
  refine wS rfl ?_
  unfold matchS
  cases attrS m.attr <;> cases h1 : decide (1 ≤ m.op) <;> cases h2 : decide (m.op ≤ 3) <;> simp_all
theorem allOf_h (l : List Mat) (hf : ∀ x ∈ l, x.Fit) : Holds Tryz.prog 135 [qaB l] (.p (pI (allOfS l))) [] := by
  refine qA (ts := [2]) Tryz.func135 (by kernel_rfl) rfl rfl rfl ?_
  refine sw_len (t := 0) (z := 7) (l := l.map Mat.pv) rfl fun hlen => ?_
  rw [List.length_map] at hlen
  unfold reachBytes at hlen
  (repeat refine qb ?_); refine qa ?_
  repeat (first | refine zR ?_ | refine zK ?_ | refine zM ?_ | refine zB ?_ | refine zA ?_ | refine zS ?_ | refine zL ?_)
  refine qc ?_
  (repeat refine qb ?_); refine qa ?_
  repeat (first | refine zR ?_ | refine zK ?_ | refine zM ?_ | refine zB ?_ | refine zA ?_ | refine zS ?_ | refine zL ?_)
  refine qn rfl (qg rfl rfl rfl rfl (many_h (l.map Mat.pv).length) rfl rfl ?_)
  repeat (first | refine zR ?_ | refine zK ?_ | refine zM ?_ | refine zB ?_ | refine zA ?_ | refine zS ?_ | refine zL ?_)
  refine qc ?_
  (repeat refine qb ?_); refine qa ?_
  repeat (first | refine zR ?_ | refine zK ?_ | refine zM ?_ | refine zB ?_ | refine zA ?_ | refine zS ?_ | refine zL ?_)
  refine qc ?_
  rw [List.length_map]
  (repeat refine qb ?_); refine qf rfl (fun hm => ?_) (fun hm => ?_)
  · (repeat refine qb ?_); refine qa ?_
    repeat (first | refine zR ?_ | refine zK ?_ | refine zM ?_ | refine zB ?_ | refine zA ?_ | refine zS ?_ | refine zL ?_)
    refine qc ?_
    (repeat refine qb ?_); refine qk ?_
    refine zg rfl ?_
    have h0 : manyS l.length ≠ 0 := by simpa using hm
    simp [allOfS, h0]
  · refine qm ?_
    have h0 : manyS l.length = 0 := by simpa using hm
    (repeat refine qb ?_); refine qa ?_
    repeat (first | refine zR ?_ | refine zK ?_ | refine zM ?_ | refine zB ?_ | refine zA ?_ | refine zS ?_ | refine zL ?_)
    refine qc ?_
    (repeat refine qb ?_); refine ql ?_
    refine SW.wk (qq [12, 13, 14] [] rfl rfl) ?_
    refine qO (fun n s => ∃ (k : Nat) (kk : Int), k ≤ l.length ∧ n = l.length - k ∧ kk = k ∧ (∀ x ∈ l.take k, (fun m => okE (matchS m)) x = 0) ∧ s = ⟨22, [(12, .p (qaB l)), (13, .p (pI (l.map Mat.pv).length)), (14, .p (pI kk))], []⟩) l.length ⟨0, 0, Nat.zero_le _, rfl, rfl, by simp, rfl⟩ ?_
    rintro n s ⟨k, _, hk, rfl, rfl, ha, rfl⟩
    (repeat refine qb ?_); refine qa ?_
    repeat (first | refine zR ?_ | refine zK ?_ | refine zM ?_ | refine zB ?_ | refine zA ?_ | refine zS ?_ | refine zL ?_)
    refine qc ?_
    (repeat refine qb ?_); refine qf rfl (fun hlt => ?_) (fun hlt => ?_)
    · refine qm ?_
      simp only [List.length_map, decide_eq_true_eq] at hlt
      have hlt' : k < l.length := by omega
      (repeat refine qb ?_); refine ql ?_
      (repeat refine qb ?_); refine qa ?_
      repeat (first | refine zR ?_ | refine zK ?_ | refine zM ?_ | refine zB ?_ | refine zA ?_ | refine zS ?_ | refine zL ?_)
      refine qw qe rfl rfl (by simp only [List.length_map]; omega) rfl ?_
      rw [qJ hlt']
      repeat (first | refine zR ?_ | refine zK ?_ | refine zM ?_ | refine zB ?_ | refine zA ?_ | refine zS ?_ | refine zL ?_)
      refine qc ?_
      (repeat refine qb ?_); refine qa ?_
      repeat (first | refine zR ?_ | refine zK ?_ | refine zM ?_ | refine zB ?_ | refine zA ?_ | refine zS ?_ | refine zL ?_)
      refine qn rfl (qg rfl rfl rfl rfl (match_h l[k] (hf _ (List.getElem_mem hlt'))) rfl rfl ?_)
      repeat (first | refine zR ?_ | refine zK ?_ | refine zM ?_ | refine zB ?_ | refine zA ?_ | refine zS ?_ | refine zL ?_)
      refine qc ?_
      (repeat refine qb ?_); refine qf rfl (fun hp => ?_) (fun hp => ?_)
      · (repeat refine qb ?_); refine qa ?_
        repeat (first | refine zR ?_ | refine zK ?_ | refine zM ?_ | refine zB ?_ | refine zA ?_ | refine zS ?_ | refine zL ?_)
        refine qc ?_
        (repeat refine qb ?_); refine qk ?_
        refine zg rfl ?_
        have hq : okE (matchS l[k]) = 1 := by simpa [okE] using hp
        rw [allOfS, if_pos h0, wV (f := fun m => okE (matchS m)) hlt' ha (by rw [hq]; decide), hq]
      · refine qm ?_
        (repeat refine qb ?_); refine qa ?_
        repeat (first | refine zR ?_ | refine zK ?_ | refine zM ?_ | refine zB ?_ | refine zA ?_ | refine zS ?_ | refine zL ?_)
        refine qc ?_
        refine ⟨_, _, ?_, qq [12, 13, 14] [] rfl rfl, k + 1, _, hlt', rfl, qz hlt' (by omega), take_ok hlt' ha (by simpa [okE] using hp), rfl⟩
        omega
    · refine qK ?_
      simp only [List.length_map, decide_eq_false_iff_not] at hlt
      have hkk : k = l.length := by omega
      subst hkk
      rw [List.take_length] at ha
      (repeat refine qb ?_); refine qa ?_
      repeat (first | refine zR ?_ | refine zK ?_ | refine zM ?_ | refine zB ?_ | refine zA ?_ | refine zS ?_ | refine zL ?_)
      refine qc ?_
      (repeat refine qb ?_); refine qk ?_
      refine zg rfl ?_
      simp [allOfS, h0, wT ha]
theorem anyOf_h (l : List (List Mat)) (hf : ∀ x ∈ l, ∀ m ∈ x, m.Fit) : Holds Tryz.prog 106 [anyP l] (.p (pI (anyOfS l))) [] := by
  refine qA (ts := [2]) Tryz.func106 (by kernel_rfl) rfl rfl rfl ?_
  refine sw_len (t := 0) (z := 1) (l := l.map (fun x => [qaB x])) rfl fun hlen => ?_
  rw [List.length_map] at hlen
  unfold reachBytes at hlen
  (repeat refine qb ?_); refine qa ?_
  repeat (first | refine zR ?_ | refine zK ?_ | refine zM ?_ | refine zB ?_ | refine zA ?_ | refine zS ?_ | refine zL ?_)
  refine qc ?_
  (repeat refine qb ?_); refine qa ?_
  repeat (first | refine zR ?_ | refine zK ?_ | refine zM ?_ | refine zB ?_ | refine zA ?_ | refine zS ?_ | refine zL ?_)
  refine qn rfl (qg rfl rfl rfl rfl (many_h (l.map (fun x => [qaB x])).length) rfl rfl ?_)
  repeat (first | refine zR ?_ | refine zK ?_ | refine zM ?_ | refine zB ?_ | refine zA ?_ | refine zS ?_ | refine zL ?_)
  refine qc ?_
  (repeat refine qb ?_); refine qa ?_
  repeat (first | refine zR ?_ | refine zK ?_ | refine zM ?_ | refine zB ?_ | refine zA ?_ | refine zS ?_ | refine zL ?_)
  refine qc ?_
  rw [List.length_map]
  (repeat refine qb ?_); refine qf rfl (fun hm => ?_) (fun hm => ?_)
  · (repeat refine qb ?_); refine qa ?_
    repeat (first | refine zR ?_ | refine zK ?_ | refine zM ?_ | refine zB ?_ | refine zA ?_ | refine zS ?_ | refine zL ?_)
    refine qc ?_
    (repeat refine qb ?_); refine qk ?_
    refine zg rfl ?_
    have h0 : manyS l.length ≠ 0 := by simpa using hm
    simp [anyOfS, h0]
  · refine qm ?_
    have h0 : manyS l.length = 0 := by simpa using hm
    (repeat refine qb ?_); refine qa ?_
    repeat (first | refine zR ?_ | refine zK ?_ | refine zM ?_ | refine zB ?_ | refine zA ?_ | refine zS ?_ | refine zL ?_)
    refine qc ?_
    (repeat refine qb ?_); refine ql ?_
    refine SW.wk (qq [13, 14, 15] [] rfl rfl) ?_
    refine qO (fun n s => ∃ (k : Nat) (kk : Int), k ≤ l.length ∧ n = l.length - k ∧ kk = k ∧ (∀ x ∈ l.take k, allOfS x = 0) ∧ s = ⟨25, [(13, .p (anyP l)), (14, .p (pI (l.map (fun x => [qaB x])).length)), (15, .p (pI kk))], []⟩) l.length ⟨0, 0, Nat.zero_le _, rfl, rfl, by simp, rfl⟩ ?_
    rintro n s ⟨k, _, hk, rfl, rfl, ha, rfl⟩
    (repeat refine qb ?_); refine qa ?_
    repeat (first | refine zR ?_ | refine zK ?_ | refine zM ?_ | refine zB ?_ | refine zA ?_ | refine zS ?_ | refine zL ?_)
    refine qc ?_
    (repeat refine qb ?_); refine qf rfl (fun hlt => ?_) (fun hlt => ?_)
    · refine qm ?_
      simp only [List.length_map, decide_eq_true_eq] at hlt
      have hlt' : k < l.length := by omega
      (repeat refine qb ?_); refine ql ?_
      (repeat refine qb ?_); refine qa ?_
      repeat (first | refine zR ?_ | refine zK ?_ | refine zM ?_ | refine zB ?_ | refine zA ?_ | refine zS ?_ | refine zL ?_)
      refine qw qe rfl rfl (by simp only [List.length_map]; omega) rfl ?_
      rw [qJ hlt']
      repeat (first | refine zR ?_ | refine zK ?_ | refine zM ?_ | refine zB ?_ | refine zA ?_ | refine zS ?_ | refine zL ?_)
      refine qc ?_
      (repeat refine qb ?_); refine qa ?_
      repeat (first | refine zR ?_ | refine zK ?_ | refine zM ?_ | refine zB ?_ | refine zA ?_ | refine zS ?_ | refine zL ?_)
      refine qn rfl (qg rfl rfl rfl rfl (allOf_h l[k] (hf _ (List.getElem_mem hlt'))) rfl rfl ?_)
      repeat (first | refine zR ?_ | refine zK ?_ | refine zM ?_ | refine zB ?_ | refine zA ?_ | refine zS ?_ | refine zL ?_)
      refine qc ?_
      (repeat refine qb ?_); refine qa ?_
      repeat (first | refine zR ?_ | refine zK ?_ | refine zM ?_ | refine zB ?_ | refine zA ?_ | refine zS ?_ | refine zL ?_)
      refine qc ?_
      (repeat refine qb ?_); refine qf rfl (fun hp => ?_) (fun hp => ?_)
      · (repeat refine qb ?_); refine qa ?_
        repeat (first | refine zR ?_ | refine zK ?_ | refine zM ?_ | refine zB ?_ | refine zA ?_ | refine zS ?_ | refine zL ?_)
        refine qc ?_
        (repeat refine qb ?_); refine qk ?_
        refine zg rfl ?_
        have hq : allOfS l[k] ≠ 0 := by simpa using hp
        rw [anyOfS, if_pos h0, wV hlt' ha hq]
      · refine qm ?_
        (repeat refine qb ?_); refine qa ?_
        repeat (first | refine zR ?_ | refine zK ?_ | refine zM ?_ | refine zB ?_ | refine zA ?_ | refine zS ?_ | refine zL ?_)
        refine qc ?_
        refine ⟨_, _, ?_, qq [13, 14, 15] [] rfl rfl, k + 1, _, hlt', rfl, qz hlt' (by omega), take_ok hlt' ha (by simpa using hp), rfl⟩
        omega
    · refine qK ?_
      simp only [List.length_map, decide_eq_false_iff_not] at hlt
      have hkk : k = l.length := by omega
      subst hkk
      rw [List.take_length] at ha
      (repeat refine qb ?_); refine qa ?_
      repeat (first | refine zR ?_ | refine zK ?_ | refine zM ?_ | refine zB ?_ | refine zA ?_ | refine zS ?_ | refine zL ?_)
      refine qc ?_
      (repeat refine qb ?_); refine qk ?_
      refine zg rfl ?_
      simp [anyOfS, h0, wT ha]
theorem target_h (l : List (List (List Mat))) (hf : ∀ x ∈ l, ∀ y ∈ x, ∀ m ∈ y, m.Fit) : Holds Tryz.prog 85 [tgtP l] (.p (pI (zI l))) [] := by
  refine qA (ts := [2]) Tryz.func85 (by kernel_rfl) rfl rfl rfl ?_
  refine sw_len (t := 0) (z := 1) (l := l.map (fun x => [anyP x])) rfl fun hlen => ?_
  rw [List.length_map] at hlen
  unfold reachBytes at hlen
  (repeat refine qb ?_); refine qa ?_
  repeat (first | refine zR ?_ | refine zK ?_ | refine zM ?_ | refine zB ?_ | refine zA ?_ | refine zS ?_ | refine zL ?_)
  refine qc ?_
  (repeat refine qb ?_); refine qa ?_
  repeat (first | refine zR ?_ | refine zK ?_ | refine zM ?_ | refine zB ?_ | refine zA ?_ | refine zS ?_ | refine zL ?_)
  refine qc ?_
  rw [List.length_map]
  (repeat refine qb ?_); refine qf rfl (fun hm => ?_) (fun hm => ?_)
  · (repeat refine qb ?_); refine qa ?_
    repeat (first | refine zR ?_ | refine zK ?_ | refine zM ?_ | refine zB ?_ | refine zA ?_ | refine zS ?_ | refine zL ?_)
    refine qc ?_
    (repeat refine qb ?_); refine qk ?_
    refine zg rfl ?_
    have h0 : 8 < l.length := by simp at hm; omega
    simp [zI, h0]
  · refine qm ?_
    have h0 : ¬ 8 < l.length := by simp at hm; omega
    (repeat refine qb ?_); refine qa ?_
    repeat (first | refine zR ?_ | refine zK ?_ | refine zM ?_ | refine zB ?_ | refine zA ?_ | refine zS ?_ | refine zL ?_)
    refine qc ?_
    (repeat refine qb ?_); refine ql ?_
    refine SW.wk (qq [9, 10, 11] [] rfl rfl) ?_
    refine qO (fun n s => ∃ (k : Nat) (kk : Int), k ≤ l.length ∧ n = l.length - k ∧ kk = k ∧ (∀ x ∈ l.take k, anyOfS x = 0) ∧ s = ⟨21, [(9, .p (tgtP l)), (10, .p (pI (l.map (fun x => [anyP x])).length)), (11, .p (pI kk))], []⟩) l.length ⟨0, 0, Nat.zero_le _, rfl, rfl, by simp, rfl⟩ ?_
    rintro n s ⟨k, _, hk, rfl, rfl, ha, rfl⟩
    (repeat refine qb ?_); refine qa ?_
    repeat (first | refine zR ?_ | refine zK ?_ | refine zM ?_ | refine zB ?_ | refine zA ?_ | refine zS ?_ | refine zL ?_)
    refine qc ?_
    (repeat refine qb ?_); refine qf rfl (fun hlt => ?_) (fun hlt => ?_)
    · refine qm ?_
      simp only [List.length_map, decide_eq_true_eq] at hlt
      have hlt' : k < l.length := by omega
      (repeat refine qb ?_); refine ql ?_
      (repeat refine qb ?_); refine qa ?_
      repeat (first | refine zR ?_ | refine zK ?_ | refine zM ?_ | refine zB ?_ | refine zA ?_ | refine zS ?_ | refine zL ?_)
      refine qw qe rfl rfl (by simp only [List.length_map]; omega) rfl ?_
      rw [qJ hlt']
      repeat (first | refine zR ?_ | refine zK ?_ | refine zM ?_ | refine zB ?_ | refine zA ?_ | refine zS ?_ | refine zL ?_)
      refine qc ?_
      (repeat refine qb ?_); refine qa ?_
      repeat (first | refine zR ?_ | refine zK ?_ | refine zM ?_ | refine zB ?_ | refine zA ?_ | refine zS ?_ | refine zL ?_)
      refine qn rfl (qg rfl rfl rfl rfl (anyOf_h l[k] (hf _ (List.getElem_mem hlt'))) rfl rfl ?_)
      repeat (first | refine zR ?_ | refine zK ?_ | refine zM ?_ | refine zB ?_ | refine zA ?_ | refine zS ?_ | refine zL ?_)
      refine qc ?_
      (repeat refine qb ?_); refine qa ?_
      repeat (first | refine zR ?_ | refine zK ?_ | refine zM ?_ | refine zB ?_ | refine zA ?_ | refine zS ?_ | refine zL ?_)
      refine qc ?_
      (repeat refine qb ?_); refine qf rfl (fun hp => ?_) (fun hp => ?_)
      · (repeat refine qb ?_); refine qa ?_
        repeat (first | refine zR ?_ | refine zK ?_ | refine zM ?_ | refine zB ?_ | refine zA ?_ | refine zS ?_ | refine zL ?_)
        refine qc ?_
        (repeat refine qb ?_); refine qk ?_
        refine zg rfl ?_
        have hq : anyOfS l[k] ≠ 0 := by simpa using hp
        rw [zI, if_neg h0, wV hlt' ha hq]
      · refine qm ?_
        (repeat refine qb ?_); refine qa ?_
        repeat (first | refine zR ?_ | refine zK ?_ | refine zM ?_ | refine zB ?_ | refine zA ?_ | refine zS ?_ | refine zL ?_)
        refine qc ?_
        refine ⟨_, _, ?_, qq [9, 10, 11] [] rfl rfl, k + 1, _, hlt', rfl, qz hlt' (by omega), take_ok hlt' ha (by simpa using hp), rfl⟩
        omega
    · refine qK ?_
      simp only [List.length_map, decide_eq_false_iff_not] at hlt
      have hkk : k = l.length := by omega
      subst hkk
      rw [List.take_length] at ha
      (repeat refine qb ?_); refine qa ?_
      repeat (first | refine zR ?_ | refine zK ?_ | refine zM ?_ | refine zB ?_ | refine zA ?_ | refine zS ?_ | refine zL ?_)
      refine qc ?_
      (repeat refine qb ?_); refine qk ?_
      refine zg rfl ?_
      simp [zI, h0, wT ha]
theorem oblS_eq (o : Obli) : (!oblS o) = (decide (o.on < 1) || decide (2 < o.on) || decide (o.kind < 1) || decide (4 < o.kind) || !wO o.arg) := by
  rw [Bool.eq_iff_iff]
  simp [oblS]
theorem obls_h (l : List Obli) (hf : ∀ x ∈ l, x.Fit) : Holds Tryz.prog 86 [zQ l] (.p (pI (oblsS l))) [] := by
  refine qA (ts := [2]) Tryz.func86 (by kernel_rfl) rfl rfl rfl ?_
  refine sw_len (t := 0) (z := 3) (l := l.map Obli.pv) rfl fun hlen => ?_
  rw [List.length_map] at hlen
  unfold reachBytes at hlen
  (repeat refine qb ?_); refine qa ?_
  repeat (first | refine zR ?_ | refine zK ?_ | refine zM ?_ | refine zB ?_ | refine zA ?_ | refine zS ?_ | refine zL ?_)
  refine qc ?_
  (repeat refine qb ?_); refine qa ?_
  repeat (first | refine zR ?_ | refine zK ?_ | refine zM ?_ | refine zB ?_ | refine zA ?_ | refine zS ?_ | refine zL ?_)
  refine qc ?_
  rw [List.length_map]
  (repeat refine qb ?_); refine qf rfl (fun hm => ?_) (fun hm => ?_)
  · (repeat refine qb ?_); refine qa ?_
    repeat (first | refine zR ?_ | refine zK ?_ | refine zM ?_ | refine zB ?_ | refine zA ?_ | refine zS ?_ | refine zL ?_)
    refine qc ?_
    (repeat refine qb ?_); refine qk ?_
    refine zg rfl ?_
    have h0 : 8 < l.length := by simp at hm; omega
    simp [oblsS, h0]
  · refine qm ?_
    have h0 : ¬ 8 < l.length := by simp at hm; omega
    (repeat refine qb ?_); refine qa ?_
    repeat (first | refine zR ?_ | refine zK ?_ | refine zM ?_ | refine zB ?_ | refine zA ?_ | refine zS ?_ | refine zL ?_)
    refine qc ?_
    (repeat refine qb ?_); refine ql ?_
    refine SW.wk (qq [8, 9, 10] [] rfl rfl) ?_
    refine qO (fun n s => ∃ (k : Nat) (kk : Int), k ≤ l.length ∧ n = l.length - k ∧ kk = k ∧ (∀ x ∈ l.take k, (fun m => okE (oblS m)) x = 0) ∧ s = ⟨39, [(8, .p (zQ l)), (9, .p (pI (l.map Obli.pv).length)), (10, .p (pI kk))], []⟩) l.length ⟨0, 0, Nat.zero_le _, rfl, rfl, by simp, rfl⟩ ?_
    rintro n s ⟨k, _, hk, rfl, rfl, ha, rfl⟩
    (repeat refine qb ?_); refine qa ?_
    repeat (first | refine zR ?_ | refine zK ?_ | refine zM ?_ | refine zB ?_ | refine zA ?_ | refine zS ?_ | refine zL ?_)
    refine qc ?_
    (repeat refine qb ?_); refine qf rfl (fun hlt => ?_) (fun hlt => ?_)
    · refine qm ?_
      simp only [List.length_map, decide_eq_true_eq] at hlt
      have hlt' : k < l.length := by omega
      (repeat refine qb ?_); refine ql ?_
      (repeat refine qb ?_); refine qa ?_
      repeat (first | refine zR ?_ | refine zK ?_ | refine zM ?_ | refine zB ?_ | refine zA ?_ | refine zS ?_ | refine zL ?_)
      refine qw qe rfl rfl (by simp only [List.length_map]; omega) rfl ?_
      rw [qJ hlt']
      repeat (first | refine zR ?_ | refine zK ?_ | refine zM ?_ | refine zB ?_ | refine zA ?_ | refine zS ?_ | refine zL ?_)
      refine qc ?_
      (repeat refine qb ?_); refine qs (by kernel_rfl) ?_
      repeat (refine qr qe rfl (by exact True.intro) rfl ?_)
      refine zj rfl rfl rfl rfl (name_h l[k].arg (hf _ (List.getElem_mem hlt')).arg) rfl rfl ?_
      repeat (refine qr qe rfl (by exact True.intro) rfl ?_)
      refine qQ ?_
      (repeat refine qb ?_); refine qf rfl (fun hp => ?_) (fun hp => ?_)
      · (repeat refine qb ?_); refine qa ?_
        repeat (first | refine zR ?_ | refine zK ?_ | refine zM ?_ | refine zB ?_ | refine zA ?_ | refine zS ?_ | refine zL ?_)
        refine qc ?_
        (repeat refine qb ?_); refine qk ?_
        refine zg rfl ?_
        have hq : okE (oblS l[k]) = 1 := by
          have := oblS_eq l[k]
          cases h1 : oblS l[k] with
          | false => rfl
          | true =>
            exfalso
            rw [h1] at this
            simp at this hp
            rcases hp with ((((h | h) | h) | h) | h) <;> first | omega | simp_all
        rw [oblsS, if_neg h0, wV (f := fun m => okE (oblS m)) hlt' ha (by rw [hq]; decide), hq]
      · refine qm ?_
        (repeat refine qb ?_); refine qa ?_
        repeat (first | refine zR ?_ | refine zK ?_ | refine zM ?_ | refine zB ?_ | refine zA ?_ | refine zS ?_ | refine zL ?_)
        refine qc ?_
        refine ⟨_, _, ?_, qq [8, 9, 10] [] rfl rfl, k + 1, _, hlt', rfl, qz hlt' (by omega), take_ok hlt' ha ?_, rfl⟩
        · omega
        · have := oblS_eq l[k]
          cases h1 : oblS l[k] with
          | true => simp [okE, h1]
          | false =>
            exfalso
            rw [h1] at this
            simp at this hp
            rcases this with ((((h | h) | h) | h) | h) <;> first | omega | simp_all
    · refine qK ?_
      simp only [List.length_map, decide_eq_false_iff_not] at hlt
      have hkk : k = l.length := by omega
      subst hkk
      rw [List.take_length] at ha
      (repeat refine qb ?_); refine qa ?_
      repeat (first | refine zR ?_ | refine zK ?_ | refine zM ?_ | refine zB ?_ | refine zA ?_ | refine zS ?_ | refine zL ?_)
      refine qc ?_
      (repeat refine qb ?_); refine qk ?_
      refine zg rfl ?_
      simp [oblsS, h0, wT ha]
theorem wk_nilp {st : St} (t d : Nat) (e : TypeId) (z : Nat) (ht : lk t st.fr = some (.p (.v (.slice none 0 0)))) (hd : lk d st.own = none) (hdl : Nat.blt d 1000000 = true := by rfl) : Wk st (St.frz ⟨st.n, (t, .row d) :: st.fr, (d, .row e z []) :: st.own⟩ d z []) :=
  (jP t d e z ht hd hdl).trans (zN (e := e) (by show lk d ((d, Box.row e z []) :: st.own) = _; rw [qE, if_pos rfl]))
theorem wants_h (op : Int) : Holds Tryz.prog 113 [pI op] (.tup [.p (.sl 1 (jA ((zu op).getD []))), .p (pB (zu op).isSome)]) [] := by
  refine qA (ts := [2,3]) Tryz.func113 (by kernel_rfl) rfl rfl rfl ?_
  (repeat refine qb ?_); refine qa ?_
  repeat (first | refine zR ?_ | refine zK ?_ | refine zM ?_ | refine zB ?_ | refine zA ?_ | refine zS ?_ | refine zL ?_)
  refine qc ?_
  (repeat refine qb ?_); refine ql ?_
  (repeat refine qb ?_); refine qs (by kernel_rfl) ?_
  repeat (refine qr qe rfl (by exact True.intro) rfl ?_)
  refine qQ ?_
  (repeat refine qb ?_); refine qf rfl (fun h => ?_) (fun h => ?_)
  · have e : zu op = some [] := by
      unfold zu; rw [if_pos (by simpa using h)]
    rw [e]
    (repeat refine qb ?_); refine qa ?_
    repeat (first | refine zR ?_ | refine zK ?_ | refine zM ?_ | refine zB ?_ | refine zA ?_ | refine zS ?_ | refine zL ?_)
    refine qc ?_
    (repeat refine qb ?_); refine qk ?_
    exact ⟨Or.inr rfl, _, _, [], wk_nilp 2 0 4 1 rfl rfl, rfl, rfl, rfl, rfl⟩
  · have n1 : ¬ (op = 1 ∨ op = 2) := by simpa using h
    (repeat refine qb ?_); refine qs (by kernel_rfl) ?_
    repeat (refine qr qe rfl (by exact True.intro) rfl ?_)
    refine qQ ?_
    (repeat refine qb ?_); refine qf rfl (fun h => ?_) (fun h => ?_)
    · have e : zu op = some [true] := by
        unfold zu; rw [if_neg n1, if_pos (by simpa using h)]
      rw [e]
      (repeat refine qb ?_); refine qa ?_
      repeat (first | refine zR ?_ | refine zK ?_ | refine zM ?_ | refine zB ?_ | refine zA ?_ | refine zS ?_ | refine zL ?_)
      refine qc ?_
      (repeat refine qb ?_); refine qk ?_
      exact ⟨Or.inr rfl, _, _, [], zN (k := 18) rfl, rfl, rfl, rfl, rfl⟩
    · have n2 : ¬ (op = 3 ∨ op = 4) := by simpa using h
      (repeat refine qb ?_); refine qa ?_
      repeat (first | refine zR ?_ | refine zK ?_ | refine zM ?_ | refine zB ?_ | refine zA ?_ | refine zS ?_ | refine zL ?_)
      refine qc ?_
      (repeat refine qb ?_); refine qf rfl (fun h => ?_) (fun h => ?_)
      · have e : zu op = some [true, false] := by
          unfold zu; rw [if_neg n1, if_neg n2, if_pos (by simpa using h)]
        rw [e]
        (repeat refine qb ?_); refine qa ?_
        repeat (first | refine zR ?_ | refine zK ?_ | refine zM ?_ | refine zB ?_ | refine zA ?_ | refine zS ?_ | refine zL ?_)
        refine qc ?_
        (repeat refine qb ?_); refine qk ?_
        exact ⟨Or.inr rfl, _, _, [], zN (k := 22) rfl, rfl, rfl, rfl, rfl⟩
      · have n3 : ¬ op = 5 := by simpa using h
        (repeat refine qb ?_); refine qa ?_
        repeat (first | refine zR ?_ | refine zK ?_ | refine zM ?_ | refine zB ?_ | refine zA ?_ | refine zS ?_ | refine zL ?_)
        refine qc ?_
        (repeat refine qb ?_); refine qf rfl (fun h => ?_) (fun h => ?_)
        · have e : zu op = some [false] := by
            unfold zu; rw [if_neg n1, if_neg n2, if_neg n3, if_pos (by simpa using h)]
          rw [e]
          (repeat refine qb ?_); refine qa ?_
          repeat (first | refine zR ?_ | refine zK ?_ | refine zM ?_ | refine zB ?_ | refine zA ?_ | refine zS ?_ | refine zL ?_)
          refine qc ?_
          (repeat refine qb ?_); refine qk ?_
          exact ⟨Or.inr rfl, _, _, [], zN (k := 26) rfl, rfl, rfl, rfl, rfl⟩
        · have n4 : ¬ op = 11 := by simpa using h
          (repeat refine qb ?_); refine qs (by kernel_rfl) ?_
          repeat (refine qr qe rfl (by exact True.intro) rfl ?_)
          refine qQ ?_
          (repeat refine qb ?_); refine qf rfl (fun h => ?_) (fun h => ?_)
          · have e : zu op = some [false, false] := by
              unfold zu; rw [if_neg n1, if_neg n2, if_neg n3, if_neg n4, if_pos (by simp at h; omega)]
            rw [e]
            (repeat refine qb ?_); refine qa ?_
            repeat (first | refine zR ?_ | refine zK ?_ | refine zM ?_ | refine zB ?_ | refine zA ?_ | refine zS ?_ | refine zL ?_)
            refine qc ?_
            (repeat refine qb ?_); refine qk ?_
            exact ⟨Or.inr rfl, _, _, [], zN (k := 34) rfl, rfl, rfl, rfl, rfl⟩
          · have e : zu op = none := by
              unfold zu; rw [if_neg n1, if_neg n2, if_neg n3, if_neg n4, if_neg (by simp at h; omega)]
            rw [e]
            refine qm ?_
            (repeat refine qb ?_); refine qa ?_
            repeat (first | refine zR ?_ | refine zK ?_ | refine zM ?_ | refine zB ?_ | refine zA ?_ | refine zS ?_ | refine zL ?_)
            refine qc ?_
            (repeat refine qb ?_); refine qk ?_
            exact ⟨Or.inr rfl, _, _, [], wk_nilp 2 0 4 1 rfl rfl, rfl, rfl, rfl, rfl⟩
theorem noVal_eq (v : Val) : (v.kind == 0 && (v.n == 0 && v.s.toList.isEmpty)) = isNoVal v := by
  rw [jg, Bool.eq_iff_iff]
  simp [isNoVal, and_assoc]
theorem noAtr_eq (a : Atr) : (a.cat == 0 && (a.name.toList.isEmpty && !a.must)) = isNoAtr a := by
  rw [jg, Bool.eq_iff_iff]
  simp [isNoAtr, and_assoc]
theorem fields_h (n : Nod) (hn : n.Fit) : Holds Tryz.prog 114 [.agg n.pv] (.p (pB (ji n))) [] := by
  refine qA (ts := [2]) Tryz.func114 (by kernel_rfl) rfl rfl rfl ?_
  (repeat refine qb ?_); refine qa ?_
  repeat (first | refine zR ?_ | refine zK ?_ | refine zM ?_ | refine zB ?_ | refine zA ?_ | refine zS ?_ | refine zL ?_)
  refine qc ?_
  (repeat refine qb ?_); refine qa ?_
  repeat (first | refine zR ?_ | refine zK ?_ | refine zM ?_ | refine zB ?_ | refine zA ?_ | refine zS ?_ | refine zL ?_)
  refine qc ?_
  (repeat refine qb ?_); refine ql ?_
  (repeat refine qb ?_); refine qa ?_
  repeat (first | refine zR ?_ | refine zK ?_ | refine zM ?_ | refine zB ?_ | refine zA ?_ | refine zS ?_ | refine zL ?_)
  refine qc ?_
  (repeat refine qb ?_); refine qf rfl (fun h => ?_) (fun h => ?_)
  · have h1 : n.op = 1 := by simpa using h
    (repeat refine qb ?_); refine qs (by kernel_rfl) ?_
    repeat (refine qr qe rfl (by exact True.intro) rfl ?_)
    refine zj rfl rfl rfl rfl (qad n.val hn.val.s) rfl rfl ?_
    repeat (refine qr qe rfl (by exact True.intro) rfl ?_)
    refine qr qe rfl (rfl) rfl ?_
    repeat (refine qr qe rfl (by exact True.intro) rfl ?_)
    refine qQ ?_
    (repeat refine qb ?_); refine qk ?_
    refine wS rfl ?_
    unfold ji
    rw [if_pos h1]
    cases n.val.right <;> simp [← noAtr_eq]
  · have n1 : ¬ n.op = 1 := by simpa using h
    (repeat refine qb ?_); refine qa ?_
    repeat (first | refine zR ?_ | refine zK ?_ | refine zM ?_ | refine zB ?_ | refine zA ?_ | refine zS ?_ | refine zL ?_)
    refine qc ?_
    (repeat refine qb ?_); refine qf rfl (fun h => ?_) (fun h => ?_)
    · have h2 : n.op = 2 := by simpa using h
      (repeat refine qb ?_); refine qs (by kernel_rfl) ?_
      repeat (refine qr qe rfl (by exact True.intro) rfl ?_)
      refine zj rfl rfl rfl rfl (attr_h n.attr hn.attr.name) rfl rfl ?_
      repeat (refine qr qe rfl (by exact True.intro) rfl ?_)
      refine qr qe rfl (rfl) rfl ?_
      repeat (refine qr qe rfl (by exact True.intro) rfl ?_)
      refine qQ ?_
      (repeat refine qb ?_); refine qk ?_
      refine wS rfl ?_
      unfold ji
      rw [if_neg n1, if_pos h2]
      cases attrS n.attr <;> simp [← noVal_eq]
    · have n2 : ¬ n.op = 2 := by simpa using h
      refine qm ?_
      (repeat refine qb ?_); refine qs (by kernel_rfl) ?_
      repeat (refine qr qe rfl (by exact True.intro) rfl ?_)
      refine qr qe rfl (rfl) rfl ?_
      repeat (refine qr qe rfl (by exact True.intro) rfl ?_)
      refine qr qe rfl (rfl) rfl ?_
      repeat (refine qr qe rfl (by exact True.intro) rfl ?_)
      refine qQ ?_
      (repeat refine qb ?_); refine qk ?_
      refine wS rfl ?_
      unfold ji
      rw [if_neg n1, if_neg n2]
      simp [← noVal_eq, ← noAtr_eq]
end Go.Proofs.YtppfcacnofjmdaaGreatDoor
namespace Go.Proofs.YtppfcacnofjmdaaGreatDoor
set_option linter.unusedVariables false
set_option linter.unusedSimpArgs false
open Go.RowKit
def isG (cat : Int) (name : ByteArray) (g : Giv) : Bool := decide (g.cat = cat) && decide (g.name = name)
def placeS (cat : Int) (name : ByteArray) (l : List Giv) : Int := if l.findIdx (isG cat name) < l.length then (l.findIdx (isG cat name) : Int) else -1
theorem placeS_at {cat : Int} {name : ByteArray} {l : List Giv} {k : Nat} (hk : k < l.length) (h : ∀ g ∈ l.take k, isG cat name g = false) (hg : isG cat name l[k] = true) : placeS cat name l = k := by
  have e : l.findIdx (isG cat name) = k := (List.findIdx_eq hk).2 ⟨hg, fun j hj => h _ (List.mem_take_iff_getElem.2 ⟨j, by omega, rfl⟩)⟩
  unfold placeS
  rw [e, if_pos hk]
theorem placeS_no {cat : Int} {name : ByteArray} {l : List Giv} (h : ∀ g ∈ l, isG cat name g = false) : placeS cat name l = -1 := by
  have e : l.findIdx (isG cat name) = l.length := List.findIdx_eq_length.2 h
  unfold placeS
  rw [e, if_neg (Nat.lt_irrefl _)]
def bagS (cat : Int) (name : ByteArray) (l : List Giv) : List Val := match l.find? (isG cat name) with | some g => g.bag | none => []
def getS (a : Atr) (l : List Giv) : List Val × Int := if (bagS a.cat a.name l).isEmpty && a.must then ([], 4) else (bagS a.cat a.name l, 0)
theorem bagS_no {cat : Int} {name : ByteArray} {l : List Giv} (h : ∀ g ∈ l, isG cat name g = false) : bagS cat name l = [] := by
  have : l.find? (isG cat name) = none := List.find?_eq_none.2 fun g hg => by simp [h g hg]
  simp [bagS, this]
theorem bagS_at {cat : Int} {name : ByteArray} {l : List Giv} {k : Nat} (hk : k < l.length) (h : ∀ g ∈ l.take k, isG cat name g = false) (hg : isG cat name l[k] = true) : bagS cat name l = l[k].bag := by
  have e : l = l.take k ++ l[k] :: l.drop (k + 1) := by rw [← List.drop_eq_getElem_cons hk, List.take_append_drop]
  have : l.find? (isG cat name) = some l[k] := by
    conv => lhs; rw [e]
    rw [List.find?_append, List.find?_eq_none.2 fun g hm => by simp [h g hm], List.find?_cons, hg]
    rfl
  simp [bagS, this]
theorem place_cases (cat : Int) (name : ByteArray) (l : List Giv) : (placeS cat name l = -1 ∧ bagS cat name l = [] ∧ ∀ g ∈ l, isG cat name g = false) ∨ ∃ (k : Nat) (hk : k < l.length), placeS cat name l = k ∧ bagS cat name l = l[k].bag ∧ isG cat name l[k] = true ∧ ∀ g ∈ l.take k, isG cat name g = false := by
  by_cases h : l.findIdx (isG cat name) < l.length
  · right
    have h1 : isG cat name l[l.findIdx (isG cat name)] = true := List.findIdx_getElem (w := h)
    have h2 : ∀ g ∈ l.take (l.findIdx (isG cat name)), isG cat name g = false := by
      intro g hg
      obtain ⟨j, hj, rfl⟩ := List.mem_take_iff_getElem.1 hg
      exact List.not_of_lt_findIdx (by omega)
    exact ⟨_, h, placeS_at h h2 h1, bagS_at h h2 h1, h1, h2⟩
  · left
    have h1 : l.findIdx (isG cat name) = l.length := Nat.le_antisymm List.findIdx_le_length (by omega)
    have h2 := List.findIdx_eq_length.1 h1
    exact ⟨placeS_no h2, bagS_no h2, h2⟩
end Go.Proofs.YtppfcacnofjmdaaGreatDoor
namespace Go.Proofs.YtppfcacnofjmdaaGreatDoor
set_option linter.unusedVariables false
set_option linter.unusedSimpArgs false
def hasV (l : List Val) (v : Val) : Bool := l.any fun x => jh v x
end Go.Proofs.YtppfcacnofjmdaaGreatDoor
namespace Go.Proofs.YtppfcacnofjmdaaGreatDoor
set_option linter.unusedVariables false
set_option linter.unusedSimpArgs false
open Go.RowKit
theorem wd {a : List Nod} (h : zo a = 0) (hn : a ≠ []) : qW [] a = some [false] ∧ a.length ≤ 32 := by
  unfold zo at h
  split at h
  · cases h
  · cases hs : qW [] a with
    | none => rw [hs] at h; cases h
    | some m =>
      rw [hs] at h
      simp only at h
      split at h
      · rename_i hc
        rcases hc with hc | hc
        · exact absurd hc hn
        · subst hc; exact ⟨rfl, by omega⟩
      · cases h
structure Itm where
  bag : List Val
  v : Val
  e : Int
def Itm.pv (x : Itm) : List PV := [valsP x.bag, pI x.v.kind, pI x.v.n, pS x.v.s, pI x.e]
def noItm : Itm := ⟨[], noVal, 0⟩
def itmT (b : Bool) : Itm := ⟨[], jo b, 0⟩
def isT (v : Val) (n : Int) : Bool := jh v ⟨1, n, ⟨#[]⟩⟩
def Itm.is (x : Itm) (n : Int) : Bool := decide (x.e = 0) && isT x.v n
def qL (op : Int) : Nat := if op = 1 ∨ op = 2 then 0 else if op = 3 ∨ op = 4 ∨ op = 11 then 1 else 2
def decS (op : Int) (l : List Itm) : Bool := (decide (op = 12) || decide (op = 13)) && ((l.getD 0 noItm).is (op - 12) || (l.getD 1 noItm).is (op - 12))
def errS : List Itm → Int
  | [] => 0
  | x :: r => if x.e = 0 then errS r else x.e
def lastS (op : Int) (l : List Itm) : Itm :=
  if op = 3 then (if (l.getD 0 noItm).bag.length = 1 then ⟨[], (l.getD 0 noItm).bag.getD 0 noVal, 0⟩ else ⟨[], noVal, 4⟩)
  else if op = 4 then ⟨[], ⟨2, (l.getD 0 noItm).bag.length, ⟨#[]⟩⟩, 0⟩
  else if op = 5 then itmT (hasV (l.getD 0 noItm).bag (l.getD 1 noItm).v)
  else ⟨[], (qN op (l.map Itm.v)).1, (qN op (l.map Itm.v)).2⟩
def zc (n : Nod) (l : List Itm) (g : List Giv) : Itm :=
  if n.op = 1 then ⟨[], n.val, 0⟩
  else if n.op = 2 then ⟨(getS n.attr g).1, noVal, (getS n.attr g).2⟩
  else if decS n.op l then itmT (decide (n.op = 13))
  else if errS l ≠ 0 then ⟨[], noVal, errS l⟩
  else lastS n.op l
def zJ (g : List Giv) (s : List Itm) (n : Nod) : List Itm := s.take (s.length - qL n.op) ++ [zc n (s.drop (s.length - qL n.op)) g]
def jV (g : List Giv) (l : List Nod) : List Itm := l.foldl (zJ g) []
def zk (l : List Nod) (g : List Giv) : Val × Int :=
  if l = [] ∨ zo l ≠ 0 then (noVal, 1) else (((jV g l).getD 0 noItm).v, ((jV g l).getD 0 noItm).e)
def ww (x : Val × Int) : Int := if (Itm.mk [] x.1 x.2).is 1 then 2 else if (Itm.mk [] x.1 x.2).is 0 then 0 else 1
def qam (l : List Nod) (g : List Giv) : Int := if l = [] then 2 else ww (zk l g)
theorem operandsS_wants {op : Int} {w : List Bool} (h : zu op = some w) : w.length = qL op := by
  unfold zu at h
  unfold qL
  repeat' split at h
  all_goals (cases h; try (simp; try omega))
  all_goals (try (split <;> simp_all <;> omega))
theorem stepI_len {g : List Giv} {s : List Itm} {n : Nod} {l l' : List Bool} (hl : s.length = l.length) (h : zy l n = some l') : (zJ g s n).length = l'.length ∧ qL n.op ≤ s.length := by
  unfold zy at h
  split at h
  · cases h
  · rename_i w hw
    split at h
    · rename_i hc
      cases h
      have := operandsS_wants hw
      simp only [zJ, List.length_append, List.length_take, List.length_singleton]
      omega
    · cases h
theorem evalI_len {g : List Giv} : ∀ {r : List Nod} {s : List Itm} {l l' : List Bool}, s.length = l.length → qW l r = some l' → (r.foldl (zJ g) s).length = l'.length
  | [], s, l, l', hl, h => by cases h; exact hl
  | n :: r, s, l, l', hl, h => by
    rw [qW] at h
    cases hs : zy l n with
    | none => rw [hs] at h; cases h
    | some m =>
      rw [hs] at h
      rw [List.foldl_cons]
      exact evalI_len (s := zJ g s n) (l := m) (stepI_len (g := g) hl hs).1 h
theorem evalI_one {g : List Giv} {l : List Nod} (h : zo l = 0) (hn : l ≠ []) : ∃ x, jV g l = [x] := by
  have h1 := evalI_len (g := g) (s := []) (l := []) rfl (wd h hn).1
  exact List.length_eq_one_iff.1 h1
theorem zp {g : List Giv} {l : List Nod} {x : Itm} (h : zo l = 0) (hn : l ≠ []) (hx : jV g l = [x]) : zk l g = (x.v, x.e) := by
  unfold zk
  rw [if_neg (by simp [h, hn]), hx]; rfl
end Go.Proofs.YtppfcacnofjmdaaGreatDoor
namespace Go.Proofs.YtppfcacnofjmdaaGreatDoor
set_option linter.unusedVariables false
set_option linter.unusedSimpArgs false
open Go.RowKit
section
variable {s : ByteArray} (hs : wO s = true)
include hs
end
end Go.Proofs.YtppfcacnofjmdaaGreatDoor
namespace Go.Proofs.YtppfcacnofjmdaaGreatDoor
set_option linter.unusedVariables false
set_option linter.unusedSimpArgs false
open Go.RowKit
def againstT (m : Mat) (v : Val) : Bool × Int :=
  if m.op = 1 then (if v.kind ≠ m.val.kind then (false, 2) else (jh v m.val, 0)) else if m.op = 2 then wN v m.val else wN m.val v
def okT (m : Mat) (v : Val) : Bool := (againstT m v).1
def badT (m : Mat) (v : Val) : Bool := decide ((againstT m v).2 ≠ 0)
def qax (m : Mat) (l : List Giv) : Int :=
  if (getS m.attr l).2 ≠ 0 then 1 else if (getS m.attr l).1.any (okT m) then 2 else if (getS m.attr l).1.any (badT m) then 1 else 0
def allTT (l : List Mat) (g : List Giv) : Int := l.foldl (fun o m => min o (qax m g)) 2
def anyTT (l : List (List Mat)) (g : List Giv) : Int := l.foldl (fun o x => max o (allTT x g)) 0
def metT (t : Tar) (g : List Giv) : Int := t.foldl (fun o x => min o (anyTT x g)) 2
theorem matchT_range (m : Mat) (l : List Giv) : 0 ≤ qax m l ∧ qax m l ≤ 2 := by
  unfold qax
  split
  · omega
  · split
    · omega
    · split <;> omega
theorem foldl_min {α : Type} {f : α → Int} (hf : ∀ x, 0 ≤ f x ∧ f x ≤ 2) : ∀ (l : List α) (o : Int), 0 ≤ o ∧ o ≤ 2 → 0 ≤ l.foldl (fun o x => min o (f x)) o ∧ l.foldl (fun o x => min o (f x)) o ≤ 2
  | [], o, h => h
  | x :: l, o, h => by
    rw [List.foldl_cons]
    have := hf x
    exact foldl_min hf l _ (by omega)
theorem foldl_max {α : Type} {f : α → Int} (hf : ∀ x, 0 ≤ f x ∧ f x ≤ 2) : ∀ (l : List α) (o : Int), 0 ≤ o ∧ o ≤ 2 → 0 ≤ l.foldl (fun o x => max o (f x)) o ∧ l.foldl (fun o x => max o (f x)) o ≤ 2
  | [], o, h => h
  | x :: l, o, h => by
    rw [List.foldl_cons]
    have := hf x
    exact foldl_max hf l _ (by omega)
theorem allTT_range (l : List Mat) (g : List Giv) : 0 ≤ allTT l g ∧ allTT l g ≤ 2 := foldl_min (fun m => matchT_range m g) l 2 (by omega)
theorem anyTT_range (l : List (List Mat)) (g : List Giv) : 0 ≤ anyTT l g ∧ anyTT l g ≤ 2 := foldl_max (fun m => allTT_range m g) l 0 (by omega)
abbrev Mk := Nat × Nat
def mks : List Mk := [(0, 0), (2, 0), (0, 2), (1, 0), (0, 1), (1, 1)]
def qaA (a b : Mk) : Mk := (max a.1 b.1, max a.2 b.2)
def overM (j : Mk) : Mk := if j.2 = 2 then (0, 2) else if j.2 = 1 ∧ 1 ≤ j.1 then (1, 1) else if j.2 = 1 then (0, 1) else if j.1 = 2 then (2, 0) else if j.1 = 1 then (1, 0) else (0, 0)
def turnM (j : Mk) : Mk := (j.2, j.1)
def qat (m : Mk) : Mk := if m = (2, 0) then (1, 0) else if m = (0, 2) then (0, 1) else m
def qaC (l : List Mk) : Mk := l.foldl qaA (0, 0)
def wy : List Mk → Mk
  | [] => (0, 0)
  | m :: r => if m = (0, 0) then wy r else m
def sureM (m : Mk) : Bool := decide (m = (0, 0)) || decide (m = (2, 0)) || decide (m = (0, 2))
def stepJ (j m : Mk) : Mk := if j = (0, 0) then m else if m ≠ (0, 0) then (1, 1) else j
def onlyM : Mk → List Mk → Mk
  | j, [] => j
  | j, m :: r => if sureM m then onlyM (stepJ j m) r else (1, 1)
def zY (l : List Mk) (m other : Mk) : Mk := if other ∈ l then other else m
def allM (alg : Int) (l : List Mk) : Mk :=
  if alg = 1 then overM (qaC l) else if alg = 2 then turnM (overM (turnM (qaC l))) else if alg = 3 then wy l
  else if alg = 4 then onlyM (0, 0) l else if alg = 5 then zY l (0, 2) (2, 0) else if alg = 6 then zY l (2, 0) (0, 2) else (0, 0)
theorem overM_mem (j : Mk) : overM j ∈ mks := by
  unfold overM mks
  repeat' split
  all_goals simp
theorem turnM_mem {j : Mk} (h : j ∈ mks) : turnM j ∈ mks := by
  unfold mks at h ⊢
  simp only [List.mem_cons, List.not_mem_nil, or_false] at h
  rcases h with rfl | rfl | rfl | rfl | rfl | rfl <;> simp [turnM]
theorem qau {j : Mk} (h : j ∈ mks) : qat j ∈ mks := by
  unfold mks at h ⊢
  simp only [List.mem_cons, List.not_mem_nil, or_false] at h
  rcases h with rfl | rfl | rfl | rfl | rfl | rfl <;> simp [qat]
theorem firstM_mem : ∀ {l : List Mk}, (∀ m ∈ l, m ∈ mks) → wy l ∈ mks
  | [], _ => by simp [wy, mks]
  | m :: r, h => by
    rw [wy]
    split
    · exact firstM_mem fun x hx => h x (List.mem_cons_of_mem _ hx)
    · exact h m (by simp)
theorem onlyM_mem : ∀ {l : List Mk} {j : Mk}, j ∈ mks → (∀ m ∈ l, m ∈ mks) → onlyM j l ∈ mks
  | [], j, hj, _ => hj
  | m :: r, j, hj, h => by
    rw [onlyM]
    split
    · refine onlyM_mem ?_ fun x hx => h x (List.mem_cons_of_mem _ hx)
      unfold stepJ
      split
      · exact h m (by simp)
      · split
        · simp [mks]
        · exact hj
    · simp [mks]
theorem allM_mem {alg : Int} {l : List Mk} (h : ∀ m ∈ l, m ∈ mks) : allM alg l ∈ mks := by
  unfold allM zY
  repeat' split
  all_goals first | exact overM_mem _ | exact turnM_mem (overM_mem _) | exact firstM_mem h | exact onlyM_mem (by simp [mks]) h | (simp [mks])
structure Rs where
  m : Mk
  obls : List Obli
def noRs : Rs := ⟨(0, 0), []⟩
def dutyS (m : Mk) (o : Obli) : Bool := (decide (o.on = 1) && decide (m = (2, 0))) || (decide (o.on = 2) && decide (m = (0, 2)))
def jm (l : List Obli) (m : Mk) : List Obli := l.filter (dutyS m)
def effM (r : Rul) : Mk := if r.deny then (0, 2) else (2, 0)
def jW (r : Rul) (t c : Int) : Rs :=
  if t = 0 ∨ (t = 2 ∧ c = 0) then ⟨(0, 0), []⟩ else if t = 1 ∨ c = 1 then ⟨qat (effM r), []⟩ else ⟨effM r, jm r.obls (effM r)⟩
def qaw (g : List Giv) (r : Rul) : Rs := jW r (metT r.target g) (qam r.cond g)
def wF (alg : Int) (m : Mk) : List Rs → List Obli
  | [] => []
  | x :: r => if x.m = m then (if alg = 3 then x.obls else x.obls ++ wF alg m r) else wF alg m r
def wM (p : Pol) (t : Int) (parts : List Rs) : Rs :=
  if t = 0 then ⟨(0, 0), []⟩ else if t = 1 then ⟨qat (allM p.alg (parts.map Rs.m)), []⟩
  else if allM p.alg (parts.map Rs.m) ≠ (2, 0) ∧ allM p.alg (parts.map Rs.m) ≠ (0, 2) then ⟨allM p.alg (parts.map Rs.m), []⟩
  else ⟨allM p.alg (parts.map Rs.m), wF p.alg (allM p.alg (parts.map Rs.m)) parts ++ jm p.obls (allM p.alg (parts.map Rs.m))⟩
def qF (g : List Giv) : Nat → Pol → Rs
  | 0, _ => noRs
  | n + 1, p => if metT p.target g = 0 then noRs else wM p (metT p.target g) (p.rules.map (qaw g) ++ p.kids.map (qF g n))
def evalS (p : Pol) (g : List Giv) : Rs × Int := if zb p = 0 then (qF g 4 p, 0) else (noRs, 1)
theorem effM_mem (r : Rul) : effM r ∈ mks := by unfold effM mks; split <;> simp
theorem qan (r : Rul) (t c : Int) : (jW r t c).m ∈ mks := by
  unfold jW
  repeat' split
  · simp [mks]
  · exact qau (effM_mem r)
  · exact effM_mem r
theorem joinR_mem {p : Pol} {t : Int} {l : List Rs} (h : ∀ x ∈ l, x.m ∈ mks) : (wM p t l).m ∈ mks := by
  have h0 : allM p.alg (l.map Rs.m) ∈ mks := allM_mem fun m hm => by
    obtain ⟨x, hx, rfl⟩ := List.mem_map.1 hm
    exact h x hx
  unfold wM
  repeat' split
  · simp [mks]
  · exact qau h0
  · exact h0
  · exact h0
theorem qaa (g : List Giv) : ∀ (n : Nat) (p : Pol), (qF g n p).m ∈ mks
  | 0, _ => by simp [qF, noRs, mks]
  | n + 1, p => by
    rw [qF]
    split
    · simp [noRs, mks]
    · refine joinR_mem fun x hx => ?_
      rcases List.mem_append.1 hx with hx | hx
      · obtain ⟨r, _, rfl⟩ := List.mem_map.1 hx
        exact qan _ _ _
      · obtain ⟨k, _, rfl⟩ := List.mem_map.1 hx
        exact qaa g n k
def Rs.ok (x : Rs) : Prop := x.m ∈ mks ∧ (x.m ≠ (2, 0) → x.m ≠ (0, 2) → x.obls = [])
end Go.Proofs.YtppfcacnofjmdaaGreatDoor
