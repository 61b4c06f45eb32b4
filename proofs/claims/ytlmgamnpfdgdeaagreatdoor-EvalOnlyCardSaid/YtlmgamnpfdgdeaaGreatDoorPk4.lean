/-
  What the statement leans on, part 4: Eval, EvalOk, Itoa, TextH, ShowP, EvQ, ShowQ, Join, JoinH, Fork, ShowH, ShowE, ShowT, AskG, ShowI, FnsM, MkH.
-/
import Derived.Scope
import Derived.Laws.BytesString
import Derived.Shelf.Strconv.Itoa3
import Derived.Shelf.Small.Strs
import Derived.Shelf.Strconv.AtoiAll
import Derived.Lib.Join
import Derived.Shelf.Strings.OnBuilder
import Derived.Test.YtlmgamnpfdgdeaaGreatDoorRows
import Derived.Test.YtlmgamnpfdgdeaaGreatDoorPk1
import Derived.Test.YtlmgamnpfdgdeaaGreatDoorPk2
import Derived.Test.YtlmgamnpfdgdeaaGreatDoorPk3
namespace Go.Proofs.YtlmgamnpfdgdeaaGreatDoor
set_option linter.unusedVariables false
set_option linter.unusedSimpArgs false
open Go.RowKit
section
variable {α : Type}
def fNat (n : Nat) (k : Nat → α) : α := match n with
  | 0 => k 0
  | .succ m => k (.succ m)
theorem wX (n : Nat) (k : Nat → α) : fNat n k = k n := by cases n <;> rfl
def fInt (n : Int) (k : Int → α) : α := match n with
  | .ofNat a => fNat a fun a => k (.ofNat a)
  | .negSucc a => fNat a fun a => k (.negSucc a)
theorem fInt_eq (n : Int) (k : Int → α) : fInt n k = k n := by cases n <;> simp [fInt, wX]
def fBool (b : Bool) (k : Bool → α) : α := match b with
  | true => k true
  | false => k false
theorem fBool_eq (b : Bool) (k : Bool → α) : fBool b k = k b := by cases b <;> rfl
def fList {β : Type} : List β → (List β → α) → α
  | [], k => k []
  | x :: r, k => fList r fun r => k (x :: r)
theorem jE {β : Type} : ∀ (l : List β) (k : List β → α), fList l k = k l
  | [], k => rfl
  | x :: r, k => by rw [fList, jE r]
def fStr (s : ByteArray) (k : ByteArray → α) : α := match s with
  | ⟨⟨l⟩⟩ => fList l fun l => k ⟨⟨l⟩⟩
theorem fStr_eq (s : ByteArray) (k : ByteArray → α) : fStr s k = k s := by
  obtain ⟨⟨l⟩⟩ := s; simp [fStr, jE]
def fVal (v : Value) (k : Value → α) : α := match v with
  | .int q n => fInt n fun n => k (.int q n)
  | .bool b => fBool b fun b => k (.bool b)
  | .string s => fStr s fun s => k (.string s)
  | v => k v
theorem fVal_eq (v : Value) (k : Value → α) : fVal v k = k v := by
  cases v <;> simp [fVal, fInt_eq, fBool_eq, fStr_eq]
def fLeaf (p : PV) (k : PV → α) : α := match p with
  | .v x => fVal x fun x => k (.v x)
  | p => k p
theorem fLeaf_eq (p : PV) (k : PV → α) : fLeaf p k = k p := by cases p <;> simp [fLeaf, fVal_eq]
def fLeafs : List PV → (List PV → α) → α
  | [], k => k []
  | p :: r, k => fLeaf p fun p => fLeafs r fun r => k (p :: r)
theorem fLeafs_eq : ∀ (l : List PV) (k : List PV → α), fLeafs l k = k l
  | [], k => rfl
  | p :: r, k => by rw [fLeafs, fLeaf_eq, fLeafs_eq r]
def fPV (p : PV) (k : PV → α) : α := match p with
  | .v x => fVal x fun x => k (.v x)
  | .agg cs => fLeafs cs fun cs => k (.agg cs)
  | .rp cs => fLeafs cs fun cs => k (.rp cs)
  | .sl z l => fList l fun l => k (.sl z l)
  | p => k p
theorem fPV_eq (p : PV) (k : PV → α) : fPV p k = k p := by cases p <;> simp [fPV, fVal_eq, fLeafs_eq, jE]
def fOne (s : SV) (k : SV → α) : α := match s with
  | .p x => fPV x fun x => k (.p x)
  | .ptr i o => fNat i fun i => fNat o fun o => k (.ptr i o)
  | .eptr i z x o => fNat x fun x => fNat o fun o => k (.eptr i z x o)
  | .view i z lo hi => fNat lo fun lo => fNat hi fun hi => k (.view i z lo hi)
  | s => k s
theorem fOne_eq (s : SV) (k : SV → α) : fOne s k = k s := by cases s <;> simp [fOne, fPV_eq, wX]
def fOnes : List SV → (List SV → α) → α
  | [], k => k []
  | s :: r, k => fOne s fun s => fOnes r fun r => k (s :: r)
theorem fOnes_eq : ∀ (l : List SV) (k : List SV → α), fOnes l k = k l
  | [], k => rfl
  | s :: r, k => by rw [fOnes, fOne_eq, fOnes_eq r]
def fMid (s : SV) (k : SV → α) : α := match s with
  | .agg cs => fOnes cs fun cs => k (.agg cs)
  | .fn f cs => fOnes cs fun cs => k (.fn f cs)
  | s => fOne s k
theorem fMid_eq (s : SV) (k : SV → α) : fMid s k = k s := by cases s <;> simp [fMid, fOne_eq, fOnes_eq]
def fMids : List SV → (List SV → α) → α
  | [], k => k []
  | s :: r, k => fMid s fun s => fMids r fun r => k (s :: r)
theorem fMids_eq : ∀ (l : List SV) (k : List SV → α), fMids l k = k l
  | [], k => rfl
  | s :: r, k => by rw [fMids, fMid_eq, fMids_eq r]
def fSV (s : SV) (k : SV → α) : α := match s with
  | .tup cs => fMids cs fun cs => k (.tup cs)
  | s => fMid s k
theorem fSV_eq (s : SV) (k : SV → α) : fSV s k = k s := by cases s <;> simp [fSV, fMid_eq, fMids_eq]
def fFr : List (Nat × SV) → (List (Nat × SV) → α) → α
  | [], k => k []
  | (t, s) :: r, k => fMid s fun s => fFr r fun r => k ((t, s) :: r)
theorem fFr_eq : ∀ (l : List (Nat × SV)) (k : List (Nat × SV) → α), fFr l k = k l
  | [], k => rfl
  | (t, s) :: r, k => by rw [fFr, fMid_eq, fFr_eq r]
def fEls : List (List PV) → (List (List PV) → α) → α
  | [], k => k []
  | e :: r, k => fLeafs e fun e => fEls r fun r => k (e :: r)
theorem fEls_eq : ∀ (l : List (List PV)) (k : List (List PV) → α), fEls l k = k l
  | [], k => rfl
  | e :: r, k => by rw [fEls, fLeafs_eq, fEls_eq r]
def fMap : List (Value × PV) → (List (Value × PV) → α) → α
  | [], k => k []
  | (v, p) :: r, k => fVal v fun v => fPV p fun p => fMap r fun r => k ((v, p) :: r)
theorem fMap_eq : ∀ (l : List (Value × PV)) (k : List (Value × PV) → α), fMap l k = k l
  | [], k => rfl
  | (v, p) :: r, k => by rw [fMap, fVal_eq, fPV_eq, fMap_eq r]
def fBox (b : Box) (k : Box → α) : α := match b with
  | .row e z l => fList l fun l => k (.row e z l)
  | .cells cs => fOnes cs fun cs => k (.cells cs)
  | .mp es => fList es fun es => k (.mp es)
  | .rws e z pre mid post => fOnes mid fun mid => k (.rws e z pre mid post)
theorem fBox_eq (b : Box) (k : Box → α) : fBox b k = k b := by cases b <;> simp [fBox, jE, fOnes_eq]
def fOwn : List (Nat × Box) → (List (Nat × Box) → α) → α
  | [], k => k []
  | (i, b) :: r, k => fNat i fun i => fBox b fun b => fOwn r fun r => k ((i, b) :: r)
theorem fOwn_eq : ∀ (l : List (Nat × Box)) (k : List (Nat × Box) → α), fOwn l k = k l
  | [], k => rfl
  | (i, b) :: r, k => by rw [fOwn, wX, fBox_eq, fOwn_eq r]
end
def ible (a b : Int) : Bool := match a, b with
  | .ofNat a, .ofNat b => Nat.ble a b
  | .negSucc _, .ofNat _ => true
  | .ofNat _, .negSucc _ => false
  | .negSucc a, .negSucc b => Nat.ble b a
theorem jC {a b : Int} (h : ible a b = true) : a ≤ b := by
  cases a <;> cases b <;> simp only [ible, Nat.ble_eq] at h <;> first | (cases h; done) | (simp only [Int.ofNat_eq_natCast, Int.negSucc_eq]; omega)
def wb (n : Int) (m : Nat) : Bool := match n with
  | .ofNat a => Nat.blt a m
  | .negSucc _ => false
theorem zD {n : Int} {m : Nat} (h : wb n m = true) : 0 ≤ n ∧ n < m := by
  cases n <;> simp [wb, Nat.blt] at h
  simp only [Int.ofNat_eq_natCast]; omega
def sEq : List UInt8 → List UInt8 → Bool
  | [], [] => true
  | a :: r, b :: s => bif Nat.beq a.toNat b.toNat then sEq r s else false
  | _, _ => false
noncomputable def lkF {α : Type} (t : Nat) (l : List (Nat × α)) : Option α := @List.rec (Nat × α) (fun _ => Option α) none (fun p _ ih => @Prod.rec Nat α (fun _ => Option α) (fun u s => @Bool.rec (fun _ => Option α) ih (some s) (Nat.beq t u)) p) l
theorem qT {α : Type} (t : Nat) : ∀ l : List (Nat × α), lkF t l = lk t l
  | [] => rfl
  | (u, s) :: r => by
    have ih := qT t r
    unfold lkF at ih ⊢
    rw [lk]
    show @Bool.rec (fun _ => Option α) _ _ _ = _
    cases h : Nat.beq t u <;> simp [ih]
noncomputable def evF (st : St) (x : Operand) : Option SV := match x with
  | .tmp t => lkF t st.fr
  | x => evS st x
theorem evF_eq (st : St) (x : Operand) : evF st x = evS st x := by cases x <;> simp [evF, evS, qT]
noncomputable section
def binC (op : BinOp) (a b : Value) : Bool := match op with
  | .shl => (match b with | .int _ b => ible 0 b | _ => false)
  | .shr => (match b with | .int _ b => ible 0 b | _ => false)
  | .quo => (match b with | .int _ b => !(decide (b = 0)) | _ => false)
  | .rem => (match b with | .int _ b => !(decide (b = 0)) | _ => false)
  | .add => (match a, b with | .string a, .string b => Nat.ble (a.size + b.size) 9223372036854775807 | _, _ => true)
  | _ => true
def rBinC (T : TT) (op : BinOp) (t : TypeId) (a b : Option SV) : Bool := match a, b with
  | some (.p (.v a)), some (.p (.v b)) => binC op a b
  | some (.p (.agg xs)), some (.p (.agg _)) => (match lkF t T with
    | some ⟨_, _, _, z, _⟩ => zg xs z
    | none => false)
  | _, _ => false
def zT (T : TT) (st : St) (t : TypeId) (a i : Option SV) : Bool := match i with
  | some (.p (.v (.int _ n))) => (match a with
    | some (.p (.sl _ l)) => wb n l.length
    | some (.row j) => (match lkF j st.own with
      | some (.row _ _ l) => wb n l.length
      | some (.rws _ z pre mid post) => wb n (pre.length + (mid.length / z + post.length))
      | _ => false)
    | some (.view _ _ lo hi) => wb n (hi - lo)
    | _ => (match lkF t T with
      | some ⟨_, _, .arr len _, _, _⟩ => wb n len
      | _ => false))
  | _ => false
def rIndexC (T : TT) (t : TypeId) (a i : Option SV) : Bool := match i with
  | some (.p (.v (.int _ n))) => (match a with
    | some (.p (.v (.string s))) => wb n s.size
    | _ => (match lkF t T with
      | some ⟨_, _, .arr len _, _, _⟩ => wb n len
      | _ => false))
  | _ => false
def endsC (st : St) (n : Nat) (lo hi : Option Operand) : Bool := match ends st n lo hi with
  | some (l, h) => (ible 0 l && ible l h) && ible h (.ofNat n)
  | none => false
def rSliceC (st : St) (a : Option SV) (lo hi : Option Operand) : Bool := match a with
  | some (.p (.v (.string s))) => endsC st s.size lo hi
  | some (.p (.sl _ xs)) => endsC st xs.length lo hi
  | some (.row j) => (match lkF j st.own with
    | some (.row _ _ xs) => endsC st xs.length lo hi
    | _ => false)
  | some (.view _ _ lo0 hi0) => endsC st (hi0 - lo0) lo hi
  | _ => false
def rLoadC (st : St) (a : Option SV) : Bool := match a with
  | some (.eptr j _ k _) => (match lkF j st.own with
    | some (.row _ _ l) => Nat.blt k l.length
    | _ => false)
  | _ => true
def rLookupC (T : TT) (st : St) (t : TypeId) (m : Option SV) : Bool := match m, lkF t T with
  | some (.row j), some ⟨_, _, .mp kt _, _, _⟩ => (match lkF kt T, lkF j st.own with
    | some ki, some (.mp es) => es.all fun x => kdOk ki.d x.1
    | _, _ => false)
  | _, _ => false
section
variable {β : Type}
def goF (r : Option (Prop × SV)) (c : Bool) (k : SV → Option β) : Option β := match r with
  | some (_, s) => bif c then fSV s k else none
  | none => none
def goP (r : Option (Prop × SV)) (k : SV → Option β) : Option β := match r with
  | some (_, s) => k s
  | none => none
def goS (r : Option SV) (k : SV → Option β) : Option β := match r with
  | some s => k s
  | none => none
def eStr (op : BinOp) (a b : ByteArray) (k : SV → Option β) : Option β := match op with
  | .eql => fBool (sEq a.data.toList b.data.toList) fun r => k (.p (.v (.bool r)))
  | .neq => fBool (!(sEq a.data.toList b.data.toList)) fun r => k (.p (.v (.bool r)))
  | .add => bif Nat.ble (a.size + b.size) 9223372036854775807 then fList (a.data.toList ++ b.data.toList) fun l => k (.p (.v (.string ⟨⟨l⟩⟩))) else none
  | .lss => fBool (Op.bytesLess a.data.toList b.data.toList) fun r => k (.p (.v (.bool r)))
  | .geq => fBool (!(Op.bytesLess a.data.toList b.data.toList)) fun r => k (.p (.v (.bool r)))
  | .leq => fBool (Op.bytesLess a.data.toList b.data.toList || sEq a.data.toList b.data.toList) fun r => k (.p (.v (.bool r)))
  | .gtr => fBool (!(Op.bytesLess a.data.toList b.data.toList || sEq a.data.toList b.data.toList)) fun r => k (.p (.v (.bool r)))
  | _ => none
def isNil (T : TT) (st : St) (t : TypeId) (ptr : Bool) (a : SV) : Option Bool := match lkF t T, ptr with
  | some ⟨_, _, .sl _, _, _⟩, false => (match a with
    | .p (.v (.slice none 0 0)) => some true
    | .p (.sl _ (_ :: _)) => some false
    | .row j => (match lkF j st.own with
      | some (.row _ _ (_ :: _)) => some false
      | _ => none)
    | _ => none)
  | some ⟨_, _, .ptr, _, _⟩, true => (match a with
    | .p (.v (.pointer none)) => some true
    | .p (.rp _) => some false
    | .ptr _ _ => some false
    | .eptr _ _ _ _ => some false
    | _ => none)
  | _, _ => none
def eIfc (T : TT) (op : BinOp) (t t' : TypeId) (a : Option SV) (k : SV → Option β) : Option β := match a, lkF t T, Nat.beq t t' with
  | some (.p (.v .nilIface)), some ⟨_, _, .ifc, _, _⟩, true => (match op with
    | .eql => k (.p (.v (.bool true)))
    | .neq => k (.p (.v (.bool false)))
    | _ => none)
  | _, _, _ => none
def eNil (T : TT) (st : St) (op : BinOp) (t t' : TypeId) (ptr : Bool) (a : Option SV) (k : SV → Option β) : Option β := match a, Nat.beq t t' with
  | some a, true => (match isNil T st t ptr a, op with
    | some b, .eql => k (.p (.v (.bool b)))
    | some true, .neq => k (.p (.v (.bool false)))
    | some false, .neq => k (.p (.v (.bool true)))
    | _, _ => none)
  | _, _ => none
def isConst : Operand → Bool
  | .const _ => true
  | _ => false
def eBin (T : TT) (st : St) (op : BinOp) (t t' : TypeId) (cst : Bool) (a b : Option SV) (k : SV → Option β) : Option β := match a, b with
  | some (.p (.v (.string a))), some (.p (.v (.string b))) => eStr op a b k
  | a, some (.p (.v (.slice none 0 0))) => eNil T st op t t' false a k
  | a, some (.p (.v (.pointer none))) => eNil T st op t t' true a k
  | a, some (.p (.v .nilIface)) => bif cst then eIfc T op t t' a k else none
  | a, b => goF (rBin T op t a b) (rBinC T op t a b) k
def eIndex (T : TT) (t : TypeId) (a i : Option SV) (k : SV → Option β) : Option β := match a, i with
  | some (.p (.v (.string s))), some (.p (.v (.int _ n))) => (match lkF t T with
    | some ⟨_, _, .str, _, _⟩ => (match s.data.toList[n.toNat]? with
      | some b => bif wb n s.size then fNat b.toNat fun b => k (.p (.v (.int .u8 (.ofNat b)))) else none
      | none => none)
    | _ => none)
  | a, i => goF (rIndex T t a i) (rIndexC T t a i) k
def eSliceX (T : TT) (st : St) (t : TypeId) (a : Option SV) (lo hi : Option Operand) (k : SV → Option β) : Option β := match lkF t T with
  | some ⟨_, _, .sl e, _, _⟩ => (match a, ends st 0 lo hi with
    | some (.p (.v (.slice none 0 0))), some (l, h) => bif (lkF e T).isSome && (ible 0 l && ible l h && ible h 0) then k (.p (.v (.slice none 0 0))) else none
    | _, _ => none)
  | _ => none
def eSlice (T : TT) (st : St) (t : TypeId) (a : Option SV) (lo hi mx : Option Operand) (k : SV → Option β) : Option β := match a with
  | some (.p (.v (.string s))) => (match mx, lkF t T, ends st s.size lo hi with
    | none, some ⟨_, _, .str, _, _⟩, some (l, h) => bif (ible 0 l && ible l h) && ible h (.ofNat s.size) then fList ((s.data.toList.drop l.toNat).take (h.toNat - l.toNat)) fun l => k (.p (.v (.string ⟨⟨l⟩⟩))) else none
    | _, _, _ => none)
  | some (.p (.v (.slice none 0 0))) => (match mx with
    | none => eSliceX T st t a lo hi k
    | some _ => none)
  | a => goF (rSlice T st t a lo hi mx) (rSliceC st a lo hi) k
def eCall (T : TT) (st : St) (c : Call) (k : SV → Option β) : Option β := match c.callee with
  | .builtin .len => (match c.args.toList, c.argTypes.toList with
    | [x], [t] => goF (rLen T st t (evF st x)) true k
    | _, _ => none)
  | .builtin .min => (match c.args.toList with
    | [x, y] => goF (rMinMax true (evF st x) (evF st y)) true k
    | _ => none)
  | .builtin .max => (match c.args.toList with
    | [x, y] => goF (rMinMax false (evF st x) (evF st y)) true k
    | _ => none)
  | .builtin .real => (match c.args.toList with
    | [x] => goP (rReal (evF st x)) k
    | _ => none)
  | .builtin .imag => (match c.args.toList with
    | [x] => goP (rImag (evF st x)) k
    | _ => none)
  | .builtin .complex => (match c.args.toList with
    | [x, y] => goP (rCplx (evF st x) (evF st y)) k
    | _ => none)
  | _ => none
def eUn (op : UnOp) (x : Option SV) (k : SV → Option β) : Option β := match x with
  | some (.p (.v v)) => (match unS op v with
    | some v => fVal v fun v => k (.p (.v v))
    | none => none)
  | _ => none
def eFn (T : TT) (K : List Nat) (st : St) (o : Op) (k : SV → Option β) : Option β := goF (opR T K st o) true k
def eExtract (x : Option SV) (n : Nat) (k : SV → Option β) : Option β := match x with
  | some (.tup cs) => goS cs[n]? k
  | _ => none
def byteOf : List PV → Option UInt8
  | [.v (.int .u8 n)] => some (UInt8.ofNat n.toNat)
  | _ => none
def bytesOf : List (List PV) → Option (List UInt8)
  | [] => some []
  | c :: r => match byteOf c with
    | some b => match bytesOf r with
      | some l => some (b :: l)
      | none => none
    | none => none
def eText (T : TT) (s d : TypeId) (l : List (List PV)) (k : SV → Option β) : Option β := match lkF s T, lkF d T with
  | some ⟨_, _, .sl e, _, _⟩, some ⟨_, _, .str, _, _⟩ => (match lkF e T, bytesOf l with
    | some ⟨_, _, .int .u8, _, _⟩, some bs => fList bs fun bs => k (.p (.v (.string ⟨⟨bs⟩⟩)))
    | _, _ => none)
  | _, _ => none
def eConv (T : TT) (K : List Nat) (st : St) (s d : TypeId) (a : Option SV) (k : SV → Option β) : Option β := match a with
  | some (.p (.sl _ l)) => eText T s d l k
  | some (.p (.v (.slice none 0 0))) => eText T s d [] k
  | some (.row j) => bif K.contains j then none else (match lkF j st.own with
    | some (.row _ _ l) => eText T s d l k
    | _ => none)
  | a => goF (rConv T s d a) true k
def isRd (o : Op) : Bool := match o with
  | .move _ => true | .assign _ => true | .pick _ _ _ => true | .binOp _ _ _ _ _ => true | .unOp _ _ _ => true | .convert _ _ _ => true | .field _ _ _ => true | .fieldAddr _ _ _ => true
  | .indexAddr _ _ _ => true | .index _ _ _ => true | .slice _ _ _ _ _ => true | .load _ _ => true | .extract _ _ => true | .makeFunc _ _ _ => true | .lookup _ _ _ _ => true | .build _ _ => true | .nilCheck _ => true
  | .call c => (match c.callee with | .builtin .append => false | .builtin _ => true | _ => false)
  | _ => false
def opE (T : TT) (K : List Nat) (st : St) (o : Op) (k : SV → Option β) : Option β := match o with
  | .move x => goS (evF st x) k
  | .assign x => goS (evF st x) k
  | .pick c a b => goP (rPick (evF st c) (evF st a) (evF st b)) k
  | .binOp op t x y t' => eBin T st op t t' (isConst y) (evF st x) (evF st y) k
  | .unOp op _ x => eUn op (evF st x) k
  | .convert s d x => eConv T K st s d (evF st x) k
  | .field t x f => goF (rField T t (evF st x) f) true k
  | .fieldAddr t x f => goF (wB T t (evF st x) f) true k
  | .indexAddr t x i => goF (jO T st t (evF st x) (evF st i)) (zT T st t (evF st x) (evF st i)) k
  | .index t x i => eIndex T t (evF st x) (evF st i) k
  | .slice t x lo hi mx => eSlice T st t (evF st x) lo hi mx k
  | .load t a => goF (rLoad T K st t (evF st a)) (rLoadC st (evF st a)) k
  | .extract x n => eExtract (evF st x) n k
  | .makeFunc f first caps => eFn T K st (.makeFunc f first caps) k
  | .call c => eCall T st c k
  | .lookup t m key true => goF (rLookup T K st t (evF st m) (evF st key)) (rLookupC T st t (evF st m)) k
  | .build t parts => eFn T K st (.build t parts) k
  | .nilCheck x => eFn T K st (.nilCheck x) k
  | _ => none
end
def mem (i : Nat) : List Nat → Bool
  | [] => false
  | j :: r => bif Nat.beq i j then true else mem i r
mutual
def refs : SV → List Nat
  | .p _ => []
  | .junk => []
  | .row i => [i]
  | .ptr i _ => [i]
  | .eptr i _ _ _ => [i]
  | .view i _ _ _ => [i]
  | .agg cs => refss cs
  | .tup cs => refss cs
  | .fn _ cs => refss cs
def refss : List SV → List Nat
  | [] => []
  | s :: r => refs s ++ refss r
end
def reach (own : List (Nat × Box)) : Nat → List Nat → List Nat → List Nat
  | 0, _, seen => seen
  | _ + 1, [], seen => seen
  | f + 1, i :: todo, seen => bif mem i seen then reach own f todo seen else match lkF i own with
    | some (.cells cs) => reach own f (refss cs ++ todo) (i :: seen)
    | some _ => reach own f todo (i :: seen)
    | none => reach own f todo seen
def number (big : Bool) : Nat → List Nat → List (Nat × Nat)
  | _, [] => []
  | k, i :: r => bif !big && Nat.ble 1000000 i then (i, i) :: number big k r else (i, k) :: number big (k + 1) r
def rowsIn (st : St) : List Nat → List Nat
  | [] => []
  | i :: r => match lkF i st.own with
    | some (.row _ _ _) => i :: rowsIn st r
    | _ => rowsIn st r
def keys : List (Nat × SV) → List Nat → List Nat
  | [], acc => acc
  | (t, .junk) :: r, acc => keys r acc
  | (t, _) :: r, acc => bif mem t acc then keys r acc else keys r (t :: acc)
section
variable {α : Type}
def fNats : List Nat → (List Nat → α) → α
  | [], k => k []
  | i :: r, k => fNat i fun i => fNats r fun r => k (i :: r)
theorem fNats_eq : ∀ (l : List Nat) (k : List Nat → α), fNats l k = k l
  | [], k => rfl
  | i :: r, k => by rw [fNats, wX, fNats_eq r]
def fRen : List (Nat × Nat) → (List (Nat × Nat) → α) → α
  | [], k => k []
  | (i, j) :: r, k => fNat i fun i => fNat j fun j => fRen r fun r => k ((i, j) :: r)
theorem fRen_eq : ∀ (l : List (Nat × Nat)) (k : List (Nat × Nat) → α), fRen l k = k l
  | [], k => rfl
  | (i, j) :: r, k => by rw [fRen, wX, wX, fRen_eq r]
def fSt (st : St) (k : St → α) : α := match st with
  | ⟨n, fr, own⟩ => fNat n fun n => fFr fr fun fr => fOwn own fun own => k ⟨n, fr, own⟩
theorem fSt_eq (st : St) (k : St → α) : fSt st k = k st := by cases st; simp [fSt, wX, fFr_eq, fOwn_eq]
def fN (st : St) (k : St → α) : α := match st with
  | ⟨n, fr, own⟩ => fNat n fun n => k ⟨n, fr, own⟩
theorem fN_eq (st : St) (k : St → α) : fN st k = k st := by cases st; simp [fN, wX]
def putE (st : St) (dst : Option Tmp) (s : SV) (k : St → α) : α := match dst, st with
  | some d, ⟨n, fr, own⟩ => k ⟨n, (d, s) :: fr, own⟩
  | none, st => k st
theorem putE_eq (st : St) (dst : Option Tmp) (s : SV) (k : St → α) : putE st dst s k = k (st.put dst s) := by cases dst <;> rfl
end
section
variable {β : Type}
def frzAll : List Nat → St → (St → Option β) → Option β
  | [], st, k => k st
  | i :: r, st, k => match lkF i st.own with
    | some (.row _ z l) => fSt (st.frz i z l) fun st => frzAll r st k
    | _ => frzAll r st k
structure FnI where
  n : Nat
  c : Code
  ts : List ResultVar
  ords : List (Nat × List (Nat × Bool))
structure Cx where
  T : TT
  F : List (FuncId × FnI)
  C : FuncId → List PV → Option SV
abbrev Ret := Option (SV × List (Nat × Box))
def newBox (st : St) (d : Nat) (s : SV) (bx : Box) (k : List Nat → St → Option β) : Option β :=
  bif (lkF d st.own).isNone && Nat.blt d st.n then fBox bx fun bx => fN ⟨st.n, (d, s) :: st.fr, (d, bx) :: st.own⟩ fun st => k [] st else none
def rhoOk (ρ : List (Nat × Nat)) : Bool := (dist (ρ.map (·.1)) && dist (ρ.map (·.2))) && ρ.all (fun p => Nat.ble 1000000 p.2)
def backE (st : St) (o : Oper) (ρ : List (Nat × Nat)) (rt : Ret) (k : List Nat → St → Option β) : Option β := match rt with
  | some (r, own') => bif zn st o.dst && backOk st ρ o.dst own' then (match st.back ρ o.dst r own' with
    | some st' => fSt st' fun st' => k (ρ.map (·.1)) st'
    | none => none) else none
  | none => none
def enterE (ev : FuncId → FnI → List SV → List (Nat × Box) → Ret) (st : St) (o : Oper) (f : FuncId) (fi : FnI) (caps : List SV) (xs : List Operand) (ρ : List (Nat × Nat)) (k : List Nat → St → Option β) : Option β := match ownR ρ st.own ρ, argWs st ρ xs, mapRs ρ caps with
  | some own, some a, some c => bif rhoOk ρ then (fOnes (a ++ c) fun args => fOwn own fun own => backE st o ρ (ev f fi args own) k) else none
  | _, _, _ => none
def callE (cx : Cx) (ev : FuncId → FnI → List SV → List (Nat × Box) → Ret) (st : St) (o : Oper) (pf : Bool) (f : FuncId) (caps : List SV) (xs : List Operand) (k : List Nat → St → Option β) : Option β :=
  match lkF f cx.F with
  | some fi => (match evs st xs with
    | some ss => fRen (number true 1000000 (reach st.own 1000 (refss ss ++ refss caps) [])) fun ρ => enterE ev st o f fi caps xs ρ k
    | none => none)
  | none => (match pf, pures caps, argPs st xs with
    | true, some cps, some (ps, _) => (match cx.C f (ps ++ cps) with
      | some r => bif flatS r && zn st o.dst then (putE st o.dst r fun st => k [] st) else none
      | none => none)
    | _, _, _ => none)
def isPS : SV → Bool
  | .p _ => true
  | _ => false
def appRow (st : St) (d : Nat) (e : TypeId) (ei : TyI) (j : Nat) (s2 : Option SV) (k : St → Option β) : Option β := match lkF j st.own, s2 with
  | some (.row e' z l), some s2 => (match srcL st ei.size (some j) s2 with
    | some l2 => bif Nat.beq e' e && Nat.beq z ei.size && Nat.ble (l.length + l2.length) reachBytes && Nat.ble ((l.length + l2.length) * ei.bytes) 140737488355328 && (lk d (killO j st.own)).isNone then
      (fList (l ++ l2) fun l3 => fSt ⟨st.n, (d, .row d) :: killF j st.fr, (d, .row e ei.size l3) :: killO j st.own⟩ k) else none
    | none => none)
  | _, _ => none
def shrunk (st : St) (t j z m : Nat) (e : TypeId) (l : List (List PV)) : St := ⟨st.n, (t, .row 904999) :: killF j st.fr, (904999, .row e z (l.take m)) :: killO j st.own⟩
def appView (st : St) (d : Nat) (e : TypeId) (ei : TyI) (sx xx : Operand) (j zv m : Nat) (k : St → Option β) : Option β := match sx, lkF j st.own with
  | .tmp t, some (.row e' z l0) => bif (lk 904999 st.own).isNone && Nat.beq zv z then fSt (shrunk st t j z m e' l0) fun st1 => appRow st1 d e ei 904999 (evF st1 xx) k else none
  | _, _ => none
def appNil (st : St) (d : Nat) (e : TypeId) (ei : TyI) (s2 : Option SV) (k : List Nat → St → Option β) : Option β := match s2 with
  | some s2 => (match srcL st ei.size none s2 with
    | some l2 => bif Nat.ble (l2.length * ei.bytes) 140737488355328 then newBox st d (.row d) (.row e ei.size l2) k else none
    | none => none)
  | none => none
def appE (T : TT) (st : St) (o : Oper) (sx xx : Operand) (t : TypeId) (k : List Nat → St → Option β) : Option β := match o.dst, lkF t T with
  | some d, some ⟨_, _, .sl e, _, _⟩ => (match lkF e T with
    | some ei => bif Nat.blt 0 ei.size && Nat.beq ei.zero.length ei.size && Nat.blt d st.n then (match evF st sx with
      | some (.p (.v (.slice none 0 0))) => appNil st d e ei (evF st xx) k
      | some (.row j) => appRow st d e ei j (evF st xx) fun st => k [j] st
      | some (.view j z 0 m) => appView st d e ei sx xx j z m fun st => k [j] st
      | _ => none) else none
    | none => none)
  | _, _ => none
def boxE (st : St) (dst : Option Tmp) (s : Option SV) (k : List Nat → St → Option β) : Option β := match dst, s with
  | some d, some s => (match cellsOf s with
    | some cs => bif cs.all oneS then newBox st d (.ptr d 0) (.cells cs) k else none
    | none => none)
  | _, _ => none
def allocE (T : TT) (st : St) (dst : Option Tmp) (e : TypeId) (k : List Nat → St → Option β) : Option β := match dst, lkF e T with
  | some d, some i => bif i.zero.all plain then newBox st d (.ptr d 0) (.cells (i.zero.map fun z => .p (.v z))) k else none
  | _, _ => none
def buildE (T : TT) (st : St) (dst : Option Tmp) (t : TypeId) (len : Nat) (xs : List Operand) (k : List Nat → St → Option β) : Option β := match dst, lkF t T, evs st xs with
  | some d, some ⟨_, _, .sl e, _, _⟩, some ss => (match lkF e T with
    | some ei => bif Nat.blt 0 ei.size && Nat.ble (len * ei.size) 16777216 && Nat.beq xs.length len then
        (fNats (rowsIn st (refss ss)) fun ids => frzAll ids st fun st => match bElems st ei.size xs with
          | some l => fEls l fun l => newBox st d (.row d) (.row e ei.size l) k
          | none => none)
        else none
    | none => none)
  | _, _, _ => none
def storeE (T : TT) (st : St) (t : TypeId) (ad x : Option SV) (k : List Nat → St → Option β) : Option β := match lkF t T, ad, x with
  | some ti, some (.ptr j off), some s => (match lkF j st.own, cellsOf s with
    | some (.cells cs), some xs => bif xs.all oneS && Nat.beq xs.length ti.size && Nat.ble (off + xs.length) cs.length then
        (fOnes (cs.take off ++ xs ++ cs.drop (off + xs.length)) fun cs => fOwn (setB j (.cells cs) st.own) fun own => fN ⟨st.n, st.fr, own⟩ fun st => k [j] st) else none
    | _, _ => none)
  | some ti, some (.eptr j z i off), some s => (match lkF j st.own, cellsP s with
    | some (.row e z' l), some xs => bif Nat.beq z z' && xs.all oneP && Nat.beq xs.length ti.size && Nat.ble (off + xs.length) z && Nat.blt i l.length then
        (fLeafs ((l.getD i []).take off ++ xs ++ (l.getD i []).drop (off + xs.length)) fun c => fList (l.set i c) fun l => fOwn (setB j (.row e z l) st.own) fun own => fN ⟨st.n, st.fr, own⟩ fun st => k [j] st) else none
    | _, _ => none)
  | _, _, _ => none
def mapE (T : TT) (st : St) (t : TypeId) (m key x : Option SV) (k : List Nat → St → Option β) : Option β := match lkF t T, m, key, x with
  | some ⟨_, _, .mp kt _, _, _⟩, some (.row j), some (.p (.v kv)), some (.p p) => (match lkF kt T, lkF j st.own with
    | some ki, some (.mp es) => bif kdOk ki.d kv && es.all (fun x => kdOk ki.d x.1) && (mfind kv es).isNone then
        (fMap (es ++ [(kv, p)]) fun es => fOwn (setB j (.mp es) st.own) fun own => fN ⟨st.n, st.fr, own⟩ fun st => k [j] st) else none
    | _, _ => none)
  | _, _, _, _ => none
def acallE (cx : Cx) (ev : FuncId → FnI → List SV → List (Nat × Box) → Ret) (st : St) (o : Oper) (c : Call) (k : List Nat → St → Option β) : Option β := match c.callee with
  | .builtin .append => (match c.args.toList, c.argTypes.toList with
    | [sx, xx], [t, t'] => bif Nat.beq t t' then appE cx.T st o sx xx t k else none
    | _, _ => none)
  | .value fo => (match evF st fo with
    | some s => (match fnOf s with
      | some (f, caps) => callE cx ev st o (isPS s) f caps c.args.toList k
      | none => none)
    | none => none)
  | _ => none
def actE (cx : Cx) (ev : FuncId → FnI → List SV → List (Nat × Box) → Ret) (st : St) (o : Oper) (k : List Nat → St → Option β) : Option β := match o.op with
  | .alloc e => allocE cx.T st o.dst e k
  | .box _ x => boxE st o.dst (evF st x) k
  | .buildSlice t len parts => (match zy 0 parts.toList with
    | some xs => buildE cx.T st o.dst t len xs k
    | none => none)
  | .store t ad x => (match o.dst with
    | none => storeE cx.T st t (evF st ad) (evF st x) k
    | some _ => none)
  | .makeMap _ none => (match o.dst with
    | some d => newBox st d (.row d) (.mp []) k
    | none => none)
  | .mapUpdate t m key x => (match o.dst with
    | none => mapE cx.T st t (evF st m) (evF st key) (evF st x) k
    | some _ => none)
  | .call c => acallE cx ev st o c k
  | _ => none
def stepE (cx : Cx) (ev : FuncId → FnI → List SV → List (Nat × Box) → Ret) (K : List Nat) (st : St) (o : Oper) (k : List Nat → St → Option β) : Option β :=
  bif isRd o.op then (bif zn st o.dst then opE cx.T K st o.op fun s => putE st o.dst s fun st => k [] st else none) else actE cx ev st o k
end
def evT (cx : Cx) (ev : FuncId → FnI → List SV → List (Nat × Box) → Ret) (ops : List Oper) : List Oper → St → Option St
  | [], st => some st
  | o :: r, st => match zF ops st o with
    | some true => stepE cx ev [] st o fun _ st' => evT cx ev ops r st'
    | some false => bif zn st o.dst then putE st o.dst (.tup []) fun st => evT cx ev ops r st else none
    | none => none
def kapOf (K : List Nat) (st : St) (o : Op) : List Nat := match o with
  | .load _ a => (match evF st a with
    | some s => K.filter fun j => !mem j (refs s)
    | none => K)
  | .lookup _ m _ _ => (match evF st m with
    | some s => K.filter fun j => !mem j (refs s)
    | none => K)
  | .convert _ _ x => (match evF st x with
    | some (.row j) => K.filter fun i => !(Nat.beq i j)
    | _ => K)
  | _ => K
def okW (w : List Nat) (κ : Kap) : Bool := κ.all fun p => w.all fun i => mem i p.2
def evM (cx : Cx) (ev : FuncId → FnI → List SV → List (Nat × Box) → Ret) (ops : List Oper) (K : List Nat) (chk : Bool) : List (Nat × Bool) → Kap → List Nat → St → Option (List Nat × St)
  | [], _, ws, st => some (ws, st)
  | (i, b) :: r, κ, ws, st => match nthO ops i with
    | some o => match zF ops st o with
      | some true => bif b then (bif zn st o.dst then fNats (kapOf K st o.op) fun Ki => opE cx.T Ki st o.op fun s => putE st o.dst s fun st => evM cx ev ops K chk r ((i, Ki) :: κ) ws st else none)
        else stepE cx ev [] st o fun w st' => bif !chk || okW w (kapB o κ) then evM cx ev ops K chk r (kapB o κ) (w ++ ws) st' else none
      | some false => bif zn st o.dst then putE st o.dst (.tup []) fun st => evM cx ev ops K chk r κ ws st else none
      | none => none
    | none => none
def dstsOf : List Oper → List Nat
  | [] => []
  | o :: r => match o.dst with
    | some d => d :: (1000 * (d + 1)) :: dstsOf r
    | none => dstsOf r
def idsOf : List (Nat × Box) → List Nat
  | [] => []
  | (i, _) :: r => i :: idsOf r
def evReg (cx : Cx) (ev : FuncId → FnI → List SV → List (Nat × Box) → Ret) (ords : List (Nat × List (Nat × Bool))) (id : Nat) (ops : List Oper) (st : St) : Bool → Option St
  | false => evT cx ev ops ops st
  | true => match lkF id ords with
    | some od => fNats (idsOf st.own ++ dstsOf ops) fun K0 => match evM cx ev ops K0 true od [] [] st with
      | some (_, st') => some st'
      | none => match evM cx ev ops [] false od [] [] st with
        | some ([], st') => some st'
        | some (ws, _) => fNats ws fun ws => match evM cx ev ops ws true od [] [] st with
          | some (_, st') => some st'
          | none => none
        | none => none
    | none => none
def lent : List (Nat × Box) → List Nat
  | [] => []
  | (i, _) :: r => bif Nat.ble 1000000 i then i :: lent r else lent r
def turnE {β : Type} (ts : List Nat) (st : St) (k : St → Option β) : Option β :=
  fRen (number false 905000 (reach st.own 1000 (match frR (st.own.map fun p => (p.1, p.1)) st.fr ts with | some fr => refss (fr.map (·.2)) ++ lent st.own | none => lent st.own) [])) fun ρ => bif renOk ρ then (match st.only ts ρ with
    | some st' => fSt st' k
    | none => none) else none
def evC (cx : Cx) (ev : FuncId → FnI → List SV → List (Nat × Box) → Ret) (ords : List (Nat × List (Nat × Bool))) (again : Code → St → Option (SEx × St)) (jump : Code → Nat → St → Option (SEx × St)) : Code → St → Option (SEx × St)
  | .skip, st => some (.normal, st)
  | .region id ops d, st => match evReg cx ev ords id ops.toList st d with
    | some st' => some (.normal, st')
    | none => none
  | .seq a b, st => match evC cx ev ords again jump a st with
    | some (.normal, st') => evC cx ev ords again jump b st'
    | r => r
  | .cond c a b, st => match evF st c with
    | some (.p (.v (.bool true))) => evC cx ev ords again jump a st
    | some (.p (.v (.bool false))) => evC cx ev ords again jump b st
    | _ => none
  | .block id b, st => match evC cx ev ords again jump b st with
    | some (.exit i, st') => bif Nat.beq i id then some (.normal, st') else some (.exit i, st')
    | r => r
  | .loop b, st => fNats (keys st.fr []) fun ts => match evC cx ev ords again jump b st with
    | some (.normal, st') => turnE ts st' fun st'' => again (.loop b) st''
    | r => r
  | .exit id, st => some (.exit id, st)
  | .ret, st => some (.ret, st)
  | .label _, st => some (.normal, st)
  | .goto l, st => some (.goto l, st)
  | .scope b, st => match evC cx ev ords again jump b st with
    | some (.goto l, st') => turnE (keys st'.fr []) st' fun st'' => jump b l st''
    | r => r
  | _, _ => none
def resO (T : TT) (st : St) : ResultVar → Option SV
  | .tmp t => lk t st.fr
  | .cell a t => match rLoad T [] st t (lk a st.fr), lk a st.fr with
    | some (_, s), some (.ptr _ _) => some s
    | _, _ => none
def resOs (T : TT) (st : St) : List ResultVar → Option (List SV)
  | [] => some []
  | t :: r => match resO T st t with
    | some s => match resOs T st r with
      | some l => some (s :: l)
      | none => none
    | none => none
def resC (T : TT) (st : St) : List ResultVar → Option SV
  | [t] => resO T st t
  | ts => match resOs T st ts with
    | some l => some (.tup l)
    | none => none
def finE (T : TT) (ts : List ResultVar) (st : St) : Ret := match resC T st ts with
  | some s => fRen (number false 0 (reach st.own 1000 (refs s ++ lent st.own) [])) fun ρ => match s.mapR ρ, ownR ρ st.own ρ with
    | some r, some own => bif renOk ρ then fSV r fun r => fOwn own fun own => some (r, own) else none
    | _, _ => none
  | none => none
def finR (T : TT) (ts : List ResultVar) (r : Option (SEx × St)) : Ret := match r with
  | some (.normal, st') => finE T ts st'
  | some (.ret, st') => finE T ts st'
  | _ => none
def jumpE (run : Code → St → Option (SEx × St)) (go : St → Option (SEx × St)) (b : Code) (l : Nat) (st : St) : Option (SEx × St) := match findLabel b l with
  | some rest => (match run rest st with
    | some (.goto l', st') => bif Nat.beq l' l then turnE (keys st'.fr []) st' go else none
    | r => r)
  | none => none
abbrev Ords := List (Nat × List (Nat × Bool))
def evNJ (cx : Cx) : Nat → (Ords → Code → St → Option (SEx × St)) × (Ords → Code → Nat → St → Option (SEx × St))
  | 0 => (fun _ _ _ => none, fun _ _ _ _ => none)
  | n + 1 =>
    (fun ords c st => evC cx (fun _ fi args own => bif Nat.ble args.length fi.n then finR cx.T fi.ts ((evNJ cx n).1 fi.ords fi.c ⟨fi.n, jy 0 args, own⟩) else none) ords ((evNJ cx n).1 ords) ((evNJ cx n).2 ords) c st,
     fun ords b l st => jumpE (evC cx (fun _ fi args own => bif Nat.ble args.length fi.n then finR cx.T fi.ts ((evNJ cx n).1 fi.ords fi.c ⟨fi.n, jy 0 args, own⟩) else none) ords ((evNJ cx n).1 ords) ((evNJ cx n).2 ords)) ((evNJ cx n).2 ords b l) b l st)
def evN (cx : Cx) (n : Nat) (ords : Ords) (c : Code) (st : St) : Option (SEx × St) := (evNJ cx n).1 ords c st
def evJ (cx : Cx) (n : Nat) (ords : Ords) (b : Code) (l : Nat) (st : St) : Option (SEx × St) := (evNJ cx n).2 ords b l st
def chkR (ords : List (Nat × List (Nat × Bool))) (id : Nat) (ops : Array Oper) : Bool := match lk id ords with
  | some od => Region.noSelect ops && (jn .any ops od (Array.replicate ops.size false) && od.length == ops.size)
  | none => true
def chkC (ords : List (Nat × List (Nat × Bool))) : Code → Bool
  | .region id ops true => chkR ords id ops
  | .seq a b => chkC ords a && chkC ords b
  | .cond _ a b => chkC ords a && chkC ords b
  | .block _ b => chkC ords b
  | .loop b => chkC ords b
  | .scope b => chkC ords b
  | _ => true
end
end Go.Proofs.YtlmgamnpfdgdeaaGreatDoor
namespace Go.Proofs.YtlmgamnpfdgdeaaGreatDoor
set_option linter.unusedVariables false
set_option linter.unusedSimpArgs false
open Go.RowKit
theorem toList_loop (s : ByteArray) : ∀ (n i : Nat) (r : List UInt8), s.size - i = n → ByteArray.toList.loop s i r = r.reverse ++ s.data.toList.drop i
  | 0, i, r, h => by
    unfold ByteArray.toList.loop
    rw [if_neg (by omega), List.drop_of_length_le (by rw [Array.length_toList]; show s.size ≤ i; omega), List.append_nil]
  | n + 1, i, r, h => by
    unfold ByteArray.toList.loop
    have hi : i < s.data.toList.length := by rw [Array.length_toList]; show i < s.size; omega
    rw [if_pos (by omega), toList_loop s n (i + 1) _ (by omega), List.reverse_cons, List.append_assoc, ← List.getElem_cons_drop hi]
    have : s.get! i = s.data.toList[i] := by
      have h2 : i < s.data.size := by rw [Array.length_toList] at hi; exact hi
      show s.data[i]! = _
      rw [getElem!_pos s.data i h2]; simp
    rw [this]; rfl
theorem qab (s : ByteArray) : s.toList = s.data.toList := by
  unfold ByteArray.toList
  rw [toList_loop s _ 0 [] rfl]; rfl
theorem sEq_ok : ∀ a b : List UInt8, sEq a b = (a == b)
  | [], [] => rfl
  | [], _ :: _ => rfl
  | _ :: _, [] => rfl
  | a :: r, b :: s => by
    rw [sEq, sEq_ok r s]
    by_cases h : a = b
    · subst h; simp
    · have : Nat.beq a.toNat b.toNat = false := by
        cases h2 : Nat.beq a.toNat b.toNat with
        | false => rfl
        | true => exact absurd (UInt8.toNat_inj.1 (Nat.eq_of_beq_eq_true h2)) h
      rw [this]; simp [h]
def RdO (P : Program) (K : List Nat) (st : St) (o : Oper) (s : SV) : Prop := ∀ (w0 : Base) (Sx : Nat → Prop) (γ : Nat → Value) (a : Act) (w : World), Sim w0 Sx γ st a w →
  ∃ v, RelS (okO Sx γ st.own) (hp γ st.own) w s v ∧ ∀ x, SameOn (vis K γ st.own) w x → (execOp a.eval o).run P x = .ok (.value v) x
section
variable {P : Program} {T : TT} (hT : qU P T) {K : List Nat} {st : St} {o : Oper} {β : Type} {k : SV → Option β} {b : β}
theorem RdO.of_sem {s : SV} {sem : Act → Sem Value} (he : ∀ a : Act, execOp a.eval o = (do pure (.value (← sem a)) : Sem Next)) (h : ∀ (w0 : Base) (Sx : Nat → Prop) (γ : Nat → Value) (a : Act) (w : World), Sim w0 Sx γ st a w → Rd P K Sx γ st w (sem a) s) : RdO P K st o s := fun w0 Sx γ a w hI => by
  obtain ⟨v, h1, h2⟩ := h w0 Sx γ a w hI
  exact ⟨v, h1, fun x hx => by rw [he]; exact run_v (h2 x hx)⟩
theorem qy {s : SV} {Q : St → Prop} (h : RdO P K st o s) (hd : zn st o.dst = true) (hQ : Q (st.put o.dst s)) : ActOk P [] o st Q := by
  intro w0 Sx γ a w QQ hI
  obtain ⟨v, h1, h2⟩ := h w0 Sx γ a w hI
  unfold Oper.wp
  rw [h2 w (SameOn.refl _ _)]
  refine ⟨γ, _, hQ, hI.put hd h1, SameOn.refl _ _, fun K _ b _ hv => ?_⟩
  rw [wR]; exact hv
include hT in
theorem qe {s : SV} {c : Prop} (h : opR T K st o.op = some (c, s)) (hc : c) : RdO P K st o s := fun _ _ _ _ _ hI => opR_ok hT hI h hc
theorem goF_ok {r : Option (Prop × SV)} {c : Bool} (h : goF r c k = some b) : ∃ p s, r = some (p, s) ∧ c = true ∧ k s = some b := by
  unfold goF at h
  split at h
  · rename_i p s
    cases c with
    | false => cases h
    | true => rw [cond_true, fSV_eq] at h; exact ⟨p, s, rfl, rfl, h⟩
  · cases h
theorem goP_ok {r : Option (Prop × SV)} (h : goP r k = some b) : ∃ p s, r = some (p, s) ∧ k s = some b := by
  unfold goP at h
  split at h
  · exact ⟨_, _, rfl, h⟩
  · cases h
theorem goS_ok {r : Option SV} (h : goS r k = some b) : ∃ s, r = some s ∧ k s = some b := by
  unfold goS at h
  split at h
  · exact ⟨_, rfl, h⟩
  · cases h
theorem binC_ok {op : BinOp} {x y v : Value} {c : Prop} (h : binV op x y = some (c, v)) (hc : binC op x y = true) : c := by
  unfold binV at h
  split at h
  · cases op <;> simp only [binC] at hc <;> dsimp only at h <;>
      first
        | (cases h; exact jC hc)
        | (split at h
           · first
               | (cases h; exact trivial)
               | (cases h; simpa using hc)
               | cases h
           · cases h)
        | cases h
  · cases op <;> simp only [binC] at hc <;> dsimp only at h <;>
      first
        | (cases h; exact trivial)
        | (cases h; have := Nat.le_of_ble_eq_true hc; show ((_ : Nat) : Int) ≤ 9223372036854775807; omega)
        | cases h
  · split at h
    · cases op <;> dsimp only at h <;> first | (cases h; exact trivial) | cases h
    · cases h
  · split at h
    · cases op <;> dsimp only at h <;> first | (cases h; exact trivial) | cases h
    · cases h
  · cases h
theorem rBinC_ok {op : BinOp} {t : TypeId} {x y : Option SV} {s : SV} {c : Prop} (h : rBin T op t x y = some (c, s)) (hc : rBinC T op t x y = true) : c := by
  unfold rBin at h
  split at h
  · split at h
    · split at h
      · cases h; exact trivial
      · cases h
    · cases h
  · rename_i x y _
    simp only [rBinC] at hc
    unfold ofV at h
    split at h
    · rename_i c' v hb
      cases h
      exact binC_ok hb hc
    · cases h
  · rename_i xs ys
    simp only [rBinC] at hc
    split at h
    · rename_i ht
      rw [qT, ht] at hc
      split at h
      · cases op <;> dsimp only at h <;> first | (cases h; exact hc) | cases h
      · cases h
    · cases h
  · cases h
theorem rIndexAddrC_ok {t : TypeId} {x i : Option SV} {s : SV} {c : Prop} (h : jO T st t x i = some (c, s)) (hc : zT T st t x i = true) : c := by
  unfold jO at h
  split at h
  · split at h
    · split at h
      · simp only [zT] at hc
        rename_i z l n
        generalize hb : Nat.beq _ _ = q at h
        cases q with
        | false => cases h
        | true => cases h; exact zD hc
      · simp only [zT, qT] at hc
        split at h
        · rename_i z l hj
          rw [hj] at hc
          generalize hb : Nat.beq _ _ = q at h
          cases q with
          | false => cases h
          | true => cases h; exact zD hc
        · rename_i z l hj
          rw [hj] at hc
          generalize hb : Nat.beq _ _ = q at h
          cases q with
          | false => cases h
          | true => cases h; exact zD hc
        · cases h
      · simp only [zT] at hc
        rename_i z lo hi _ n
        generalize hb : Nat.beq _ _ = q at h
        cases q with
        | false => cases h
        | true => cases h; exact zD hc
      · cases h
    · cases h
  · rename_i ht
    split at h
    · split at h
      · simp only [zT, qT, ht] at hc
        cases h; exact zD hc
      · simp only [zT, qT, ht] at hc
        cases h; exact zD hc
      · cases h
    · cases h
  · cases h
theorem rIndexC_ok {t : TypeId} {x i : Option SV} {s : SV} {c : Prop} (h : rIndex T t x i = some (c, s)) (hc : rIndexC T t x i = true) : c := by
  unfold rIndex at h
  split at h
  · split at h
    · simp only [rIndexC] at hc
      cases h; exact zD hc
    · cases h
  · rename_i ht
    split at h
    · split at h
      · split at h
        · simp only [rIndexC, qT, ht] at hc
          cases h; exact zD hc
        · cases h
      · cases h
    · cases h
  · cases h
theorem endsC_ok {n : Nat} {lo hi : Option Operand} {l h : Int} (he : ends st n lo hi = some (l, h)) (hc : endsC st n lo hi = true) : 0 ≤ l ∧ l ≤ h ∧ h ≤ n := by
  unfold endsC at hc
  rw [he] at hc
  simp only [Bool.and_eq_true] at hc
  exact ⟨jC hc.1.1, jC hc.1.2, jC hc.2⟩
theorem rSliceC_ok {t : TypeId} {x : Option SV} {lo hi mx : Option Operand} {s : SV} {c : Prop} (h : rSlice T st t x lo hi mx = some (c, s)) (hc : rSliceC st x lo hi = true) : c := by
  unfold rSlice at h
  split at h
  · cases h
  · split at h
    · split at h
      · simp only [rSliceC] at hc
        split at h
        · rename_i he
          cases h; exact endsC_ok he hc
        · cases h
      · cases h
    · split at h
      · split at h
        · simp only [rSliceC] at hc
          rename_i z xs
          generalize hb : Nat.beq _ _ = q at h
          cases q with
          | false => cases h
          | true =>
            simp only [cond_true] at h
            split at h
            · rename_i he
              cases h; exact endsC_ok he hc
            · cases h
        · simp only [rSliceC, qT] at hc
          split at h
          · rename_i z xs hj
            rw [hj] at hc
            generalize hb : Nat.beq _ _ = q at h
            cases q with
            | false => cases h
            | true =>
              simp only [cond_true] at h
              split at h
              · rename_i he
                cases h; exact endsC_ok he hc
              · cases h
          · cases h
        · simp only [rSliceC] at hc
          rename_i z lo0 hi0
          generalize hb : Nat.beq _ _ = q at h
          cases q with
          | false => cases h
          | true =>
            simp only [cond_true] at h
            split at h
            · rename_i he
              cases h; exact endsC_ok he hc
            · cases h
        · cases h
      · cases h
    · cases h
theorem rLoadC_ok {t : TypeId} {x : Option SV} {s : SV} {c : Prop} (h : rLoad T K st t x = some (c, s)) (hc : rLoadC st x = true) : c := by
  unfold rLoad at h
  split at h
  · split at h
    · split at h
      · cases h; exact trivial
      · cases h
    · split at h
      · cases h
      · split at h
        · split at h
          · split at h
            · cases h; exact trivial
            · cases h
          · cases h
        · cases h
    · split at h
      · cases h
      · simp only [rLoadC, qT] at hc
        split at h
        · rename_i z' l hj
          rw [hj] at hc
          rename_i z kk _ _ _
          generalize hb : Nat.beq _ _ = q at h
          cases q with
          | false => cases h
          | true =>
            simp only [cond_true] at h
            split at h
            · cases h; simpa [Nat.blt, Nat.lt_iff_add_one_le] using hc
            · cases h
        · cases h
    · cases h
  · cases h
theorem rLookupC_ok {t : TypeId} {m key : Option SV} {s : SV} {c : Prop} (h : rLookup T K st t m key = some (c, s)) (hc : rLookupC T st t m = true) : c := by
  unfold rLookup at h
  split at h
  · rename_i ht
    split at h
    · rename_i hkt _
      split at h
      · split at h
        · cases h
        · split at h
          · rename_i es hj
            simp only [rLookupC, qT, ht, hkt, hj] at hc
            generalize hb : kdOk _ _ = q at h
            cases q with
            | false => cases h
            | true => cases h; exact hc
          · cases h
      · cases h
    · cases h
  · cases h
theorem isNil_ok {t : TypeId} {ptr b : Bool} {s : SV} (h : isNil T st t ptr s = some b) (hT : qU P T) {w0 : Base} {Sx : Nat → Prop} {γ : Nat → Value} {a : Act} {w : World} (hI : Sim w0 Sx γ st a w) {u : Value} (hu : RelS (okO Sx γ st.own) (hp γ st.own) w s u) :
    (ptr = false ∧ ∃ e A n c, P.underlying t = some (.slice e) ∧ u = .slice A n c ∧ A.isNone = b) ∨ (ptr = true ∧ ∃ e q, P.underlying t = some (.pointer e) ∧ u = .pointer q ∧ q.isNone = b) := by
  unfold isNil at h
  rw [qT] at h
  split at h
  · rename_i e _ _ ht
    have hd := (hT t _ ht).und
    simp only [zY] at hd
    refine Or.inl ⟨rfl, e, ?_⟩
    split at h
    · cases h; exact ⟨none, 0, 0, hd, hu.v_inv, rfl⟩
    · cases h
      obtain ⟨A, c, hv, hlc, hm, he, hsl⟩ := hu.p_inv.slat
      obtain ⟨b, o, rfl, _⟩ := hsl (by simp)
      exact ⟨_, _, _, hd, hv, rfl⟩
    · rw [qT] at h
      split at h
      · rename_i hj
        cases h
        obtain ⟨A, c, g1, g2, g3, g4, g5⟩ := row_slat hI.heap hj
        obtain ⟨b, o, rfl, _⟩ := g5 (by simp)
        cases hu with
        | row hg => rw [qD hj] at hg; cases hg; exact ⟨_, _, _, hd, g1, rfl⟩
      · cases h
    · cases h
  · rename_i ht
    have hd := (hT t _ ht).und
    simp only [zY] at hd
    obtain ⟨e, hd⟩ := hd
    refine Or.inr ⟨rfl, e, ?_⟩
    split at h
    · cases h; exact ⟨none, hd, hu.v_inv, rfl⟩
    · cases h
      obtain ⟨b, o, rfl⟩ := hu.p_inv.rp_form
      exact ⟨_, hd, rfl, rfl⟩
    · cases h
      obtain ⟨b, g, rfl, _⟩ := hu.ptr_form
      exact ⟨_, hd, rfl, rfl⟩
    · cases h
      obtain ⟨b, g, rfl, _⟩ := hu.eptr_form
      exact ⟨_, hd, rfl, rfl⟩
    · cases h
  · cases h
include hT in
theorem eNil_ok {op : BinOp} {t t' : TypeId} {x y : Operand} {ptr : Bool} (ho : o.op = .binOp op t x y t') (hy : evS st y = some (.p (.v (bif ptr then .pointer none else .slice none 0 0)))) (h : eNil T st op t t' ptr (evS st x) k = some b) : ∃ s, RdO P K st o s ∧ k s = some b := by
  unfold eNil at h
  split at h
  · rename_i s hx hbt
    have e1 : t = t' := Nat.eq_of_beq_eq_true hbt
    subst e1
    have key : ∀ r : Bool, isNil T st t ptr s = some r → (op = .eql → RdO P K st o (.p (.v (.bool r)))) ∧ (op = .neq → RdO P K st o (.p (.v (.bool !r)))) := by
      intro r hr
      have run : ∀ (w0 : Base) (Sx : Nat → Prop) (γ : Nat → Value) (a : Act) (w : World), Sim w0 Sx γ st a w → ∀ z, (op = .eql → (execOp a.eval o).run P z = .ok (.value (.bool r)) z) ∧ (op = .neq → (execOp a.eval o).run P z = .ok (.value (.bool !r)) z) := by
        intro w0 Sx γ a w hI z
        have hyv := (qq hI hy).v_inv
        rcases isNil_ok hr hT hI (qq hI hx) with ⟨rfl, e, A, n, c, hd, hv, rfl⟩ | ⟨rfl, e, q, hd, hv, rfl⟩
        · rw [cond_false] at hyv
          refine ⟨fun hop => ?_, fun hop => ?_⟩ <;> subst hop <;> simp only [execOp, ho, hv, hyv] <;> refine run_v ?_
          · have h1 : (eqGuard .eql t x y (.slice A n c) (.slice none 0 0)).run P z = .ok () z := rfl
            rw [Sem.run_bind, h1]
            simp only [Result.andThen_ok]
            simp [binOp, Op.equal, Op.maxDepth, wh z 9999 t e A n c hd]
          · have h1 : (eqGuard .neq t x y (.slice A n c) (.slice none 0 0)).run P z = .ok () z := rfl
            rw [Sem.run_bind, h1]
            simp only [Result.andThen_ok]
            simp [binOp, Op.equal, Op.maxDepth, wh z 9999 t e A n c hd]
        · rw [cond_true] at hyv
          have hq : ∀ d, (Op.equalIn (d + 1) t (.pointer q) (.pointer none)).run P z = .ok q.isNone z := fun d => by
            cases q <;> simp [Op.equalIn, run_underlying hd]
          refine ⟨fun hop => ?_, fun hop => ?_⟩ <;> subst hop <;> simp only [execOp, ho, hv, hyv] <;> refine run_v ?_
          · have h1 : (eqGuard .eql t x y (.pointer q) (.pointer none)).run P z = .ok () z := rfl
            rw [Sem.run_bind, h1]
            simp only [Result.andThen_ok]
            simp [binOp, Op.equal, Op.maxDepth, hq 9999]
          · have h1 : (eqGuard .neq t x y (.pointer q) (.pointer none)).run P z = .ok () z := rfl
            rw [Sem.run_bind, h1]
            simp only [Result.andThen_ok]
            simp [binOp, Op.equal, Op.maxDepth, hq 9999]
      exact ⟨fun hop w0 Sx γ a w hI => ⟨.bool r, .p (.v rfl), fun z _ => (run w0 Sx γ a w hI z).1 hop⟩, fun hop w0 Sx γ a w hI => ⟨.bool !r, .p (.v rfl), fun z _ => (run w0 Sx γ a w hI z).2 hop⟩⟩
    split at h
    · rename_i hr; exact ⟨_, (key _ hr).1 rfl, h⟩
    · rename_i hr; exact ⟨_, (key _ hr).2 rfl, h⟩
    · rename_i hr; exact ⟨_, (key _ hr).2 rfl, h⟩
    · cases h
  · cases h
include hT in
theorem eStr_ok {op : BinOp} {t t' : TypeId} {x y : Operand} {p q : ByteArray} (ho : o.op = .binOp op t x y t') (hx : evS st x = some (.p (.v (.string p)))) (hy : evS st y = some (.p (.v (.string q)))) (h : eStr op p q k = some b) : ∃ s, RdO P K st o s ∧ k s = some b := by
  have key : ∀ {c : Prop} {v : Value}, binV op (.string p) (.string q) = some (c, v) → c → RdO P K st o (.p (.v v)) := fun {c v} hv hc => by
    refine qe hT (c := c) ?_ hc
    rw [ho]
    show rBin T op t (evS st x) (evS st y) = _
    rw [hx, hy]
    show ofV (binV op (.string p) (.string q)) = _
    rw [hv]; rfl
  cases op <;> unfold eStr at h <;> dsimp only at h <;> first
    | (cases h; done)
    | (rw [fBool_eq, sEq_ok, ← qab, ← qab] at h; exact ⟨_, key rfl trivial, h⟩)
    | (rw [fBool_eq, ← qab, ← qab] at h; exact ⟨_, key rfl trivial, h⟩)
    | skip
  · cases hc : Nat.ble (p.size + q.size) 9223372036854775807 with
    | false => rw [hc] at h; cases h
    | true =>
      rw [hc, cond_true, jE] at h
      have e : (⟨⟨p.data.toList ++ q.data.toList⟩⟩ : ByteArray) = p ++ q := by
        apply ByteArray.ext
        rw [ByteArray.data_append]
        apply Array.toList_inj.1
        simp
      rw [e] at h
      refine ⟨_, key (v := .string (p ++ q)) rfl ?_, h⟩
      have := Nat.le_of_ble_eq_true hc
      show ((_ : Nat) : Int) ≤ 9223372036854775807; omega
include hT in
theorem eIfc_ok {op : BinOp} {t t' : TypeId} {x y : Operand} (ho : o.op = .binOp op t x y t') (hc : isConst y = true) (hy : evS st y = some (.p (.v .nilIface))) (h : eIfc T op t t' (evS st x) k = some b) : ∃ s, RdO P K st o s ∧ k s = some b := by
  unfold eIfc at h
  rw [qT] at h
  split at h
  · rename_i hx ht hbt
    have e1 : t = t' := Nat.eq_of_beq_eq_true hbt
    subst e1
    have hd := (hT t _ ht).und
    simp only [zY] at hd
    obtain ⟨m, hd⟩ := hd
    have hyc : ∃ v, y = .const v := by cases y <;> first | exact ⟨_, rfl⟩ | cases hc
    obtain ⟨yv, rfl⟩ := hyc
    have run : ∀ (w0 : Base) (Sx : Nat → Prop) (γ : Nat → Value) (a : Act) (w : World), Sim w0 Sx γ st a w → ∀ z, (op = .eql → (execOp a.eval o).run P z = .ok (.value (.bool true)) z) ∧ (op = .neq → (execOp a.eval o).run P z = .ok (.value (.bool false)) z) := by
      intro w0 Sx γ a w hI z
      have hyv := (qq hI hy).v_inv
      have hxv := (qq hI hx).v_inv
      have hq : ∀ d, (Op.equalIn (d + 1) t .nilIface .nilIface).run P z = .ok true z := fun d => by simp [Op.equalIn, run_underlying hd]
      refine ⟨fun hop => ?_, fun hop => ?_⟩ <;> subst hop <;> simp only [execOp, ho, hxv, hyv] <;> refine run_v ?_
      · have h1 : (eqGuard .eql t x (.const yv) .nilIface .nilIface).run P z = .ok () z := by simp [eqGuard]
        rw [Sem.run_bind, h1]
        simp only [Result.andThen_ok]
        simp [binOp, Op.equal, Op.maxDepth, hq 9999]
      · have h1 : (eqGuard .neq t x (.const yv) .nilIface .nilIface).run P z = .ok () z := by simp [eqGuard]
        rw [Sem.run_bind, h1]
        simp only [Result.andThen_ok]
        simp [binOp, Op.equal, Op.maxDepth, hq 9999]
    split at h
    · exact ⟨_, fun w0 Sx γ a w hI => ⟨.bool true, .p (.v rfl), fun z _ => (run w0 Sx γ a w hI z).1 rfl⟩, h⟩
    · exact ⟨_, fun w0 Sx γ a w hI => ⟨.bool false, .p (.v rfl), fun z _ => (run w0 Sx γ a w hI z).2 rfl⟩, h⟩
    · cases h
  · cases h
include hT in
theorem eBin_ok {op : BinOp} {t t' : TypeId} {x y : Operand} (ho : o.op = .binOp op t x y t') (h : eBin T st op t t' (isConst y) (evS st x) (evS st y) k = some b) : ∃ s, RdO P K st o s ∧ k s = some b := by
  unfold eBin at h
  split at h
  · rename_i hx hy; exact eStr_ok hT ho hx hy h
  · rename_i hy; exact eNil_ok hT ho (ptr := false) hy h
  · rename_i hy; exact eNil_ok hT ho (ptr := true) hy h
  · rename_i hy
    cases hc : isConst y with
    | false => rw [hc] at h; cases h
    | true => rw [hc] at h; exact eIfc_ok hT ho hc hy h
  · obtain ⟨p, s, h1, h2, h3⟩ := goF_ok h
    exact ⟨s, qe hT (by rw [ho]; exact h1) (rBinC_ok h1 h2), h3⟩
include hT in
theorem eIndex_ok {t : TypeId} {x i : Operand} (ho : o.op = .index t x i) (h : eIndex T t (evS st x) (evS st i) k = some b) : ∃ s, RdO P K st o s ∧ k s = some b := by
  unfold eIndex at h
  split at h
  · rename_i q q' n hx hi
    rw [qT] at h
    split at h
    · rename_i ht
      split at h
      · rename_i c hc
        cases hb : wb n q.size with
        | false => rw [hb] at h; cases h
        | true =>
          rw [hb, cond_true, wX] at h
          have e : byteAt q n.toNat = Int.ofNat c.toNat := by
            unfold byteAt
            rw [Array.getElem?_toList] at hc
            rw [Array.getD_eq_getD_getElem?, hc]; rfl
          refine ⟨_, qe hT (c := 0 ≤ n ∧ n < q.size) ?_ (zD hb), h⟩
          rw [ho, ← e]
          show rIndex T t (evS st x) (evS st i) = _
          rw [hx, hi]
          unfold rIndex
          rw [ht]
      · cases h
    · cases h
  · obtain ⟨p, s, h1, h2, h3⟩ := goF_ok h
    exact ⟨s, qe hT (by rw [ho]; exact h1) (rIndexC_ok h1 h2), h3⟩
include hT in
theorem eSlice_ok {t : TypeId} {x : Operand} {lo hi mx : Option Operand} (ho : o.op = .slice t x lo hi mx) (h : eSlice T st t (evS st x) lo hi mx k = some b) : ∃ s, RdO P K st o s ∧ k s = some b := by
  unfold eSlice at h
  split at h
  · rename_i q hx
    split at h
    · rename_i l r ht he
      rw [qT] at ht
      cases hb : ((ible 0 l && ible l r) && ible r (.ofNat q.size)) with
      | false => rw [hb] at h; cases h
      | true =>
        rw [hb, cond_true, jE] at h
        simp only [Bool.and_eq_true] at hb
        have hc : 0 ≤ l ∧ l ≤ r ∧ r ≤ q.size := ⟨jC hb.1.1, jC hb.1.2, jC hb.2⟩
        have e : (⟨⟨(q.data.toList.drop l.toNat).take (r.toNat - l.toNat)⟩⟩ : ByteArray) = q.extract l.toNat r.toNat := by
          apply ByteArray.ext
          rw [ByteArray.data_extract]
          apply Array.toList_inj.1
          simp [List.extract_eq_take_drop]
        rw [e] at h
        refine ⟨_, qe hT (c := 0 ≤ l ∧ l ≤ r ∧ r ≤ q.size) ?_ hc, h⟩
        rw [ho]
        show rSlice T st t (evS st x) lo hi none = _
        rw [hx]
        unfold rSlice
        rw [ht]
        simp only [he]
    · cases h
  · rename_i hx
    split at h
    · unfold eSliceX at h
      rw [qT] at h
      split at h
      · rename_i e _ _ ht
        have hd := (hT t _ ht).und
        simp only [zY] at hd
        split at h
        · rename_i l r _ he
          rw [qT] at h
          cases hb : ((lk e T).isSome && (ible 0 l && ible l r && ible r 0)) with
          | false => rw [hb] at h; cases h
          | true =>
            rw [hb, cond_true] at h
            simp only [Bool.and_eq_true] at hb
            obtain ⟨ei, hei⟩ := Option.isSome_iff_exists.1 hb.1
            have hc : 0 ≤ l ∧ l ≤ r ∧ r ≤ ((0 : Nat) : Int) := ⟨jC hb.2.1.1, jC hb.2.1.2, jC hb.2.2⟩
            have hi' := hT e ei hei
            have hl0 : l.toNat = 0 := by omega
            have hr0 : r.toNat = 0 := by omega
            refine ⟨_, RdO.of_sem (sem := fun a => Instr.sliceAt t (a.eval x) (lo.map a.eval) (hi.map a.eval) none) (fun a => by simp only [execOp, ho, Option.map_none]) fun w0 Sx γ a w hI => ?_, h⟩
            rw [(qq hI hx).v_inv]
            refine qM (v := .slice none 0 0) (.p (.v rfl)) fun z => ?_
            simp only [Instr.sliceAt, Instr.slice, Sem.run_bind, run_underlying hd, Result.andThen_ok, Option.map_none, ends_ok hI (P := P) (isSlice := true) he hc (Nat.le_refl _) z, Sem.run_pure, hi'.size z, hl0, hr0]
            rfl
        · cases h
      · cases h
    · cases h
  · obtain ⟨p, s, h1, h2, h3⟩ := goF_ok h
    exact ⟨s, qe hT (by rw [ho]; exact h1) (rSliceC_ok h1 h2), h3⟩
theorem bytesOf_get : ∀ {l : List (List PV)} {bs : List UInt8}, bytesOf l = some bs → bs.length = l.length ∧ ∀ i : Nat, i < l.length → ∃ n : Int, l[i]? = some [.v (.int .u8 n)] ∧ bs[i]? = some (UInt8.ofNat n.toNat)
  | [], bs, h => by simp only [bytesOf, Option.some.injEq] at h; subst h; exact ⟨rfl, fun i hi => by simp at hi⟩
  | c :: r, bs, h => by
    unfold bytesOf at h
    split at h
    · rename_i b hb
      split at h
      · rename_i l hl
        simp only [Option.some.injEq] at h
        subst h
        obtain ⟨h1, h2⟩ := bytesOf_get hl
        refine ⟨by simp [h1], fun i hi => ?_⟩
        cases i with
        | zero =>
          unfold byteOf at hb
          split at hb
          · rename_i n
            cases hb; exact ⟨n, rfl, rfl⟩
          · cases hb
        | succ i =>
          obtain ⟨n, g1, g2⟩ := h2 i (by simpa using hi)
          exact ⟨n, by simpa using g1, by simpa using g2⟩
      · cases h
    · cases h
theorem push_fold : ∀ (ns : List Int) (s : ByteArray), ns.foldl (fun r n => r.push (UInt8.ofNat n.toNat)) s = ⟨⟨s.data.toList ++ ns.map fun n => UInt8.ofNat n.toNat⟩⟩
  | [], s => by
    apply ByteArray.ext
    apply Array.toList_inj.1
    simp
  | n :: ns, s => by
    rw [List.foldl_cons, push_fold ns]
    apply ByteArray.ext
    apply Array.toList_inj.1
    simp [ByteArray.push]
theorem run_text {sT dT e : TypeId} {A : Option Addr} {c : Nat} {l : List (List PV)} {bs : List UInt8} {x : World} (hs : P.underlying sT = some (.slice e)) (he : P.underlying e = some (.int .u8)) (hd : P.underlying dT = some .string) (hl : bytesOf l = some bs)
    (h : 0 < l.length → ∃ b o, A = some ⟨b, o, none⟩ ∧ ∀ i n, l[i]? = some [.v (.int .u8 n)] → x.cell? ⟨b, o + i, none⟩ = some (.int .u8 n)) :
    (convert sT dT (.slice A l.length c)).run P x = .ok (.string ⟨⟨bs⟩⟩) x := by
  rw [run_convert_bytes_string x sT dT e A l.length c hs he hd]
  obtain ⟨g1, g2⟩ := bytesOf_get hl
  cases A with
  | none =>
    have : l = [] := by
      rcases Nat.eq_zero_or_pos l.length with h0 | h0
      · exact List.eq_nil_of_length_eq_zero h0
      · obtain ⟨b, o, hA, _⟩ := h h0; cases hA
    subst this
    have : bs = [] := List.eq_nil_of_length_eq_zero g1
    subst this
    simp [Conv.bytesToString]; rfl
  | some ad =>
    have hex : ∀ i : Nat, ∃ n : Int, i < l.length → l[i]? = some [.v (.int .u8 n)] ∧ bs[i]? = some (UInt8.ofNat n.toNat) := fun i => by
      by_cases hi : i < l.length
      · obtain ⟨n, h1⟩ := g2 i hi; exact ⟨n, fun _ => h1⟩
      · exact ⟨0, fun h => absurd h hi⟩
    obtain ⟨f, hf⟩ := Classical.axiomOfChoice hex
    have hbs : bs = ((List.range l.length).map f).map fun n => UInt8.ofNat n.toNat := by
      refine List.ext_getElem? fun i => ?_
      by_cases hi : i < l.length
      · rw [(hf i hi).2]; simp [hi]
      · rw [List.getElem?_eq_none (by omega), List.getElem?_eq_none (by simp; omega)]
    have hcells : ∀ j v, (((List.range l.length).map f).map (Value.int .u8))[j]? = some v → x.cell? (ad.add j) = some v := fun j v hv => by
      have hj : j < l.length := by have := (List.getElem?_eq_some_iff.1 hv).1; simpa using this
      obtain ⟨b, o, hA, hx⟩ := h (by omega)
      cases hA
      rw [je]
      simp [hj] at hv
      rw [← hv]
      exact hx j _ (hf j hj).1
    have h1 := run_loadCells_list (P := P) x ad _ hcells
    rw [List.length_map, List.length_map, List.length_range] at h1
    rw [run_bytesToString x ad l.length c _ h1, push_fold, hbs]
    rfl
include hT in
theorem eConv_ok {sT dT : TypeId} {x : Operand} (ho : o.op = .convert sT dT x) (h : eConv T K st sT dT (evS st x) k = some b) : ∃ s, RdO P K st o s ∧ k s = some b := by
  have put : ∀ {l : List (List PV)}, eText T sT dT l k = some b → (∀ (w0 : Base) (Sx : Nat → Prop) (γ : Nat → Value) (a : Act) (w : World), Sim w0 Sx γ st a w → ∃ A c, a.eval x = .slice A l.length c ∧ ∀ z, SameOn (vis K γ st.own) w z → 0 < l.length → ∃ b o, A = some ⟨b, o, none⟩ ∧ ∀ i n, l[i]? = some [.v (.int .u8 n)] → z.cell? ⟨b, o + i, none⟩ = some (.int .u8 n)) →
      ∃ s, RdO P K st o s ∧ k s = some b := fun {l} h hx => by
    unfold eText at h
    rw [qT, qT] at h
    split at h
    · rename_i e _ _ _ _ _ _ hs hd
      rw [qT] at h
      split at h
      · rename_i bs he hbs
        rw [jE] at h
        have us := (hT sT _ hs).und
        have ud := (hT dT _ hd).und
        have ue := (hT e _ he).und
        simp only [zY] at us ud ue
        refine ⟨_, RdO.of_sem (sem := fun a => convert sT dT (a.eval x)) (fun a => by simp only [execOp, ho]) fun w0 Sx γ a w hI => ?_, h⟩
        obtain ⟨A, c, ha, hc⟩ := hx w0 Sx γ a w hI
        exact ⟨_, .p (.v rfl), fun z hz => by rw [ha]; exact run_text us ue ud hbs (hc z hz)⟩
      · cases h
    · cases h
  unfold eConv at h
  split at h
  · rename_i zz l hx
    refine put h fun w0 Sx γ a w hI => ?_
    have hr := (qq hI hx).p_inv
    obtain ⟨A, c, hv, _⟩ := hr.slat
    refine ⟨A, c, hv, fun z hz hl => ?_⟩
    have hrz : RelP (okO Sx γ st.own) z (.sl zz l) (a.eval x) := hr.keep (hz.weak fun b _ hok => okO_vis hok)
    obtain ⟨A2, c2, hv2, _, _, he, hsl⟩ := hrz.slat
    rw [hv] at hv2
    cases hv2
    obtain ⟨b, o, hA, _, _, hc⟩ := hsl hl
    refine ⟨b, o, hA, fun i n hi => ?_⟩
    have hil : i < l.length := (List.getElem?_eq_some_iff.1 hi).1
    have hz1 : zz = 1 := by have := (he _ (List.mem_of_getElem? hi)).1; simpa using this.symm
    obtain ⟨cs, q1, q2, q3⟩ := hc i hil
    have hli : l[i] = [.v (.int .u8 n)] := by rw [List.getElem?_eq_getElem hil] at hi; exact Option.some.inj hi
    rw [hli] at q3
    have hcl : cs.length = 1 := q3.1
    have hcs : ∃ u, cs = [u] := by
      match cs, hcl with
      | [u], _ => exact ⟨u, rfl⟩
    obtain ⟨u, rfl⟩ := hcs
    have hu := zl (q3.2 0 _ u rfl rfl) rfl
    subst hu
    have := q2 0 _ rfl
    rw [hz1, Nat.mul_one, Nat.add_zero] at this
    exact this
  · rename_i hx
    refine put h fun w0 Sx γ a w hI => ⟨none, 0, (qq hI hx).v_inv, fun z _ hl => by simp at hl⟩
  · rename_i j hx
    cases hK : K.contains j with
    | true => rw [hK] at h; cases h
    | false =>
      rw [hK, cond_false, qT] at h
      split at h
      · rename_i e zz l hj
        refine put h fun w0 Sx γ a w hI => ?_
        have hr := qq hI hx
        obtain ⟨A, c, g1, g2, g3, g4, g5⟩ := row_slat hI.heap hj
        have ha : a.eval x = γ j := by
          generalize a.eval x = u at hr
          cases hr with
          | row hg => rw [qD hj] at hg; cases hg; rfl
        refine ⟨A, c, by rw [ha, g1], fun z hz hl => ?_⟩
        obtain ⟨b, o, hA, hlt, hc⟩ := g5 hl
        refine ⟨b, o, hA, fun i n hi => ?_⟩
        have hil : i < l.length := (List.getElem?_eq_some_iff.1 hi).1
        have hz1 : zz = 1 := by have := (g4 _ (List.mem_of_getElem? hi)).1; simpa using this.symm
        obtain ⟨cs, q1, q2, q3, q4⟩ := hc i hil
        have hli : l[i] = [.v (.int .u8 n)] := by rw [List.getElem?_eq_getElem hil] at hi; exact Option.some.inj hi
        rw [hli] at q4
        have hcs : ∃ u, cs = [u] := by
          match cs, (q4.1 : cs.length = 1) with
          | [u], _ => exact ⟨u, rfl⟩
        obtain ⟨u, rfl⟩ := hcs
        have hu := zl (q4.2 0 _ u rfl rfl) rfl
        subst hu
        have := q2 0 _ rfl
        rw [hz1, Nat.mul_one, Nat.add_zero] at this
        have hbj : qJ (γ j) = some b := by rw [g1, hA]; rfl
        rw [World.cell?_of_block (w := w) (a := ⟨b, o + i, none⟩) (hz.block b hlt fun i2 bx h1 h2 h3 => ?_)]
        · exact this
        · have := hI.heap.inj i2 j _ _ b h1 hj h3 hbj
          subst this
          rw [hK] at h2; cases h2
      · cases h
  · obtain ⟨p, s, h1, _, h3⟩ := goF_ok h
    refine ⟨s, qe hT (by rw [ho]; exact h1) ?_, h3⟩
    unfold rConv at h1
    repeat' split at h1
    all_goals first | (cases h1; done) | (cases h1; exact trivial)
include hT in
theorem eCall_ok {c : Call} (ho : o.op = .call c) (h : eCall T st c k = some b) : ∃ s, RdO P K st o s ∧ k s = some b := by
  unfold eCall at h
  simp only [evF_eq] at h
  have put : ∀ {r : Option (Prop × SV)}, opR T K st (.call c) = r → (∀ p s, r = some (p, s) → p) → goF r true k = some b → ∃ s, RdO P K st o s ∧ k s = some b := fun {r} he hp h => by
    obtain ⟨p, s, h1, _, h3⟩ := goF_ok h
    exact ⟨s, qe hT (by rw [ho, he]; exact h1) (hp p s h1), h3⟩
  split at h
  · rename_i hcl
    split at h
    · rename_i hargs hts
      refine put ?_ (fun p s hr => ?_) h
      · simp only [opR, hcl, hargs, hts]
      · unfold rLen at hr
        repeat' split at hr
        all_goals first | (cases hr; done) | (cases hr; exact trivial)
    · cases h
  · rename_i hcl
    split at h
    · rename_i hargs
      refine put ?_ (fun p s hr => ?_) h
      · simp only [opR, hcl, hargs]
      · unfold rMinMax at hr
        repeat' split at hr
        all_goals first | (cases hr; done) | (cases hr; exact trivial)
    · cases h
  · rename_i hcl
    split at h
    · rename_i hargs
      refine put ?_ (fun p s hr => ?_) h
      · simp only [opR, hcl, hargs]
      · unfold rMinMax at hr
        repeat' split at hr
        all_goals first | (cases hr; done) | (cases hr; exact trivial)
    · cases h
  · rename_i hcl
    split at h
    · rename_i hargs
      obtain ⟨p, s, h1, h3⟩ := goP_ok h
      refine ⟨s, qe hT (c := p) (by rw [ho]; simp only [opR, hcl, hargs]; exact h1) ?_, h3⟩
      unfold rReal at h1
      repeat' split at h1
      all_goals first | (cases h1; done) | (cases h1; exact trivial)
    · cases h
  · rename_i hcl
    split at h
    · rename_i hargs
      obtain ⟨p, s, h1, h3⟩ := goP_ok h
      refine ⟨s, qe hT (c := p) (by rw [ho]; simp only [opR, hcl, hargs]; exact h1) ?_, h3⟩
      unfold rImag at h1
      repeat' split at h1
      all_goals first | (cases h1; done) | (cases h1; exact trivial)
    · cases h
  · rename_i hcl
    split at h
    · rename_i hargs
      obtain ⟨p, s, h1, h3⟩ := goP_ok h
      refine ⟨s, qe hT (c := p) (by rw [ho]; simp only [opR, hcl, hargs]; exact h1) ?_, h3⟩
      unfold rCplx at h1
      repeat' split at h1
      all_goals first | (cases h1; done) | (cases h1; exact trivial)
    · cases h
  · cases h
include hT in
theorem opE_ok (h : opE T K st o.op k = some b) : ∃ s, RdO P K st o s ∧ k s = some b := by
  unfold opE at h
  simp only [evF_eq] at h
  have yes_of : ∀ {r : Option (Prop × SV)}, (∀ p s, r = some (p, s) → p) → opR T K st o.op = r → goF r true k = some b → ∃ s, RdO P K st o s ∧ k s = some b := fun {r} hp he h => by
    obtain ⟨p, s, h1, _, h3⟩ := goF_ok h
    exact ⟨s, qe hT (he.trans h1) (hp p s h1), h3⟩
  split at h
  · rename_i x ho
    obtain ⟨s, h1, h2⟩ := goS_ok h
    exact ⟨s, qe hT (c := True) (by rw [ho]; simp only [opR, h1]; rfl) trivial, h2⟩
  · rename_i x ho
    obtain ⟨s, h1, h2⟩ := goS_ok h
    exact ⟨s, qe hT (c := True) (by rw [ho]; simp only [opR, h1]; rfl) trivial, h2⟩
  · rename_i c x y ho
    obtain ⟨p, s, h1, h2⟩ := goP_ok h
    refine ⟨s, qe hT (c := p) (by rw [ho]; exact h1) ?_, h2⟩
    unfold rPick at h1
    repeat' split at h1
    all_goals first | (cases h1; done) | (cases h1; exact trivial)
  · rename_i ho; exact eBin_ok hT ho h
  · rename_i op t x ho
    unfold eUn at h
    split at h
    · rename_i v hx
      split at h
      · rename_i v' hv
        rw [fVal_eq] at h
        exact ⟨_, qe hT (c := True) (by rw [ho]; simp only [opR, hx, hv]; rfl) trivial, h⟩
      · cases h
    · cases h
  · rename_i ho; exact eConv_ok hT ho h
  · rename_i ho
    refine yes_of (fun p s hr => ?_) (by rw [ho]; rfl) h
    unfold rField at hr
    repeat' split at hr
    all_goals first | (cases hr; done) | (cases hr; exact trivial)
  · rename_i ho
    refine yes_of (fun p s hr => ?_) (by rw [ho]; rfl) h
    unfold wB at hr
    split at hr
    · split at hr
      · split at hr
        · generalize Nat.beq _ _ = q at hr
          cases q with
          | true => cases hr
          | false =>
            rw [cond_false] at hr
            split at hr
            all_goals first | (cases hr; done) | (cases hr; exact trivial)
        · cases hr
      · cases hr
    · cases hr
  · rename_i ho
    obtain ⟨p, s, h1, h2, h3⟩ := goF_ok h
    exact ⟨s, qe hT (by rw [ho]; exact h1) (rIndexAddrC_ok h1 h2), h3⟩
  · rename_i ho; exact eIndex_ok hT ho h
  · rename_i ho; exact eSlice_ok hT ho h
  · rename_i ho
    obtain ⟨p, s, h1, h2, h3⟩ := goF_ok h
    exact ⟨s, qe hT (by rw [ho]; exact h1) (rLoadC_ok h1 h2), h3⟩
  · rename_i x n ho
    unfold eExtract at h
    split at h
    · rename_i cs hx
      obtain ⟨s, h1, h2⟩ := goS_ok h
      exact ⟨s, qe hT (c := True) (by rw [ho]; simp only [opR, hx, h1]; rfl) trivial, h2⟩
    · cases h
  · rename_i f first caps ho
    unfold eFn at h
    obtain ⟨p, s, h1, _, h3⟩ := goF_ok h
    refine ⟨s, qe hT (by rw [ho]; exact h1) ?_, h3⟩
    cases f with
    | func f =>
      simp only [opR] at h1
      repeat' split at h1
      all_goals first | (cases h1; done) | (cases h1; exact trivial)
    | _ => simp only [opR] at h1; cases h1
  · rename_i ho; exact eCall_ok hT ho h
  · rename_i ho
    obtain ⟨p, s, h1, h2, h3⟩ := goF_ok h
    exact ⟨s, qe hT (by rw [ho]; exact h1) (rLookupC_ok h1 h2), h3⟩
  · rename_i ho
    unfold eFn at h
    obtain ⟨p, s, h1, _, h3⟩ := goF_ok h
    refine ⟨s, qe hT (by rw [ho]; exact h1) ?_, h3⟩
    have h1 : rBuild T st _ _ = some (p, s) := h1
    unfold rBuild at h1
    split at h1
    · generalize (_ && _) = q at h1
      cases q with
      | false => cases h1
      | true =>
        rw [cond_true] at h1
        split at h1
        all_goals first | (cases h1; done) | (cases h1; exact trivial)
    · cases h1
  · rename_i ho
    unfold eFn at h
    obtain ⟨p, s, h1, _, h3⟩ := goF_ok h
    refine ⟨s, qe hT (by rw [ho]; exact h1) ?_, h3⟩
    simp only [opR] at h1
    split at h1
    all_goals first | (cases h1; done) | (cases h1; exact trivial)
  · cases h
end
section
variable {P : Program} {T : TT} (hT : qU P T) {st : St} {o : Oper} {β : Type} {k : List Nat → St → Option β} {b : β}
theorem blt_lt {a b : Nat} (h : Nat.blt a b = true) : a < b := by simpa [Nat.blt, Nat.lt_iff_add_one_le] using h
theorem newBox_ok {d : Nat} {s : SV} {bx : Box} (h : newBox st d s bx k = some b) : lk d st.own = none ∧ Nat.blt d st.n = true ∧ k [] ⟨st.n, (d, s) :: st.fr, (d, bx) :: st.own⟩ = some b := by
  unfold newBox at h
  rw [qT] at h
  cases hb : ((lk d st.own).isNone && Nat.blt d st.n) with
  | false => rw [hb] at h; cases h
  | true =>
    rw [hb, cond_true, fBox_eq, fN_eq] at h
    simp only [Bool.and_eq_true] at hb
    exact ⟨Option.isNone_iff_eq_none.1 hb.1, hb.2, h⟩
def Goes (P : Program) (st : St) (o : Oper) (k : List Nat → St → Option β) (b : β) : Prop := ∃ Ws st', ActOk P Ws o st (fun s => s = st') ∧ k Ws st' = some b
include hT in
theorem allocE_ok {e : TypeId} (ho : o.op = .alloc e) (h : allocE T st o.dst e k = some b) : Goes P st o k b := by
  unfold allocE at h
  rw [qT] at h
  split at h
  · rename_i d i hd hi
    cases hz : i.zero.all plain with
    | false => rw [hz] at h; cases h
    | true =>
      rw [hz, cond_true] at h
      obtain ⟨h1, h2, h3⟩ := newBox_ok h
      exact ⟨_, _, act_alloc hT ho hd hi hz h1 h2 rfl, h3⟩
  · cases h
theorem boxE_ok {e : TypeId} {x : Operand} (ho : o.op = .box e x) (h : boxE st o.dst (evS st x) k = some b) : Goes P st o k b := by
  unfold boxE at h
  split at h
  · rename_i d s hd hx
    split at h
    · rename_i cs hc
      cases hz : cs.all oneS with
      | false => rw [hz] at h; cases h
      | true =>
        rw [hz, cond_true] at h
        obtain ⟨h1, h2, h3⟩ := newBox_ok h
        exact ⟨_, _, act_box ho hd hx hc hz h1 h2 rfl, h3⟩
    · cases h
  · cases h
theorem ActOk.frz {Ws : List Nat} {Q : St → Prop} {i : Nat} {e : TypeId} {z : Nat} {l : List (List PV)} (hk : lk i st.own = some (.row e z l)) (h : ActOk P Ws o (st.frz i z l) Q) : ActOk P Ws o st Q := by
  intro w0 Sx γ a w QQ hI
  have old : ∀ {j bx}, lk j (st.frz i z l).own = some bx → ∃ b0, lk j st.own = some b0 := fun {j bx} hj => by
    have hj : lk j ((del i st.own).map fun p => (p.1, p.2.frz i z l)) = some bx := hj
    rw [lk_map, lk_del] at hj
    split at hj
    · cases hj
    · obtain ⟨b0, h1, _⟩ := Option.map_eq_some_iff.1 hj
      exact ⟨b0, h1⟩
  have hv : ∀ K b, vis K γ st.own b → vis K γ (st.frz i z l).own b := fun K b hv j bx hj hK hb => by
    obtain ⟨b0, h1⟩ := old hj
    exact hv j b0 h1 hK hb
  refine Oper.wp_mono (fun a' w' hq => ?_) (h w0 Sx γ a w QQ (sim_frz hk hI))
  obtain ⟨γ', st', h1, h2, h3, h4⟩ := hq
  exact ⟨γ', st', h1, h2, ⟨h3.size, fun b hb hv' => h3.block b hb (hv _ b hv')⟩, fun K hK b hb hv' => h4 K hK b hb (hv K b hv')⟩
theorem frzAll_ok {k : St → Option β} : ∀ {ids : List Nat} {st : St}, frzAll ids st k = some b → ∃ st1, (∀ Ws Q, ActOk P Ws o st1 Q → ActOk P Ws o st Q) ∧ k st1 = some b
  | [], st, h => ⟨st, fun _ _ h => h, h⟩
  | i :: r, st, h => by
    unfold frzAll at h
    rw [qT] at h
    split at h
    · rename_i hi
      rw [fSt_eq] at h
      obtain ⟨st1, h1, h2⟩ := frzAll_ok h
      exact ⟨st1, fun Ws Q hQ => ActOk.frz hi (h1 Ws Q hQ), h2⟩
    · exact frzAll_ok h
include hT in
theorem buildE_ok {t : TypeId} {len : Nat} {parts : Array (Nat × Operand)} {xs : List Operand} (ho : o.op = .buildSlice t len parts) (hp : zy 0 parts.toList = some xs) (h : buildE T st o.dst t len xs k = some b) : Goes P st o k b := by
  unfold buildE at h
  rw [qT] at h
  split at h
  · rename_i d _ _ e _ _ ss hd ht hss
    rw [qT] at h
    split at h
    · rename_i ei hei
      cases hb : (Nat.blt 0 ei.size && Nat.ble (len * ei.size) 16777216 && Nat.beq xs.length len) with
      | false => rw [hb] at h; cases h
      | true =>
        rw [hb, cond_true, fNats_eq] at h
        simp only [Bool.and_eq_true] at hb
        obtain ⟨st1, h1, h2⟩ := frzAll_ok (P := P) (o := o) h
        split at h2
        · rename_i l hl
          rw [fEls_eq] at h2
          obtain ⟨g1, g2, g3⟩ := newBox_ok h2
          exact ⟨_, _, h1 _ _ (act_buildSlice hT ho hd ht rfl hei hb.1.1 hb.1.2 hp hb.2 hl g1 g2 rfl), g3⟩
        · cases h2
    · cases h
  · cases h
include hT in
theorem storeE_ok {t : TypeId} {ad x : Operand} (ho : o.op = .store t ad x) (hdst : o.dst = none) (h : storeE T st t (evS st ad) (evS st x) k = some b) : Goes P st o k b := by
  unfold storeE at h
  rw [qT] at h
  split at h
  · rename_i ti j off s ht had hx
    rw [qT] at h
    split at h
    · rename_i cs xs hj hc
      cases hb : (xs.all oneS && Nat.beq xs.length ti.size && Nat.ble (off + xs.length) cs.length) with
      | false => rw [hb] at h; cases h
      | true =>
        rw [hb, cond_true, fOnes_eq, fOwn_eq, fN_eq] at h
        simp only [Bool.and_eq_true] at hb
        exact ⟨_, _, act_store hT ho hdst ht had hj hx hc hb.1.1 hb.1.2 hb.2 rfl, h⟩
    · cases h
  · rename_i ti j z i off s ht had hx
    rw [qT] at h
    split at h
    · rename_i e z' l xs hj hc
      cases hb : (Nat.beq z z' && xs.all oneP && Nat.beq xs.length ti.size && Nat.ble (off + xs.length) z && Nat.blt i l.length) with
      | false => rw [hb] at h; cases h
      | true =>
        rw [hb, cond_true, fLeafs_eq, jE, fOwn_eq, fN_eq] at h
        simp only [Bool.and_eq_true] at hb
        have ez : z = z' := Nat.eq_of_beq_eq_true hb.1.1.1.1
        subst ez
        exact ⟨_, _, wA hT ho hdst ht had hj (blt_lt hb.2) hx hc hb.1.1.1.2 hb.1.1.2 hb.1.2 rfl, h⟩
    · cases h
  · cases h
include hT in
theorem mapE_ok {t : TypeId} {m key x : Operand} (ho : o.op = .mapUpdate t m key x) (hdst : o.dst = none) (h : mapE T st t (evS st m) (evS st key) (evS st x) k = some b) : Goes P st o k b := by
  unfold mapE at h
  rw [qT] at h
  split at h
  · rename_i _ _ kt et _ _ j kv p ht hm hkv hx
    rw [qT, qT] at h
    split at h
    · rename_i ki es hki hj
      cases hb : (kdOk ki.d kv && es.all (fun x => kdOk ki.d x.1) && (mfind kv es).isNone) with
      | false => rw [hb] at h; cases h
      | true =>
        rw [hb, cond_true, fMap_eq, fOwn_eq, fN_eq] at h
        simp only [Bool.and_eq_true] at hb
        exact ⟨_, _, act_mapUpdate hT ho hdst ht rfl hki hm hj hkv hb.1.1 hb.1.2 (Option.isNone_iff_eq_none.1 hb.2) hx rfl, h⟩
    · cases h
  · cases h
section
variable {sx xx : Operand} {t e : TypeId} {cl : Call} (ho : o.op = .call cl) (hcl : cl.callee = .builtin .append) (hargs : cl.args.toList = [sx, xx]) (hts : cl.argTypes.toList = [t, t]) {d : Nat} (hdst : o.dst = some d)
  {ti ei : TyI} (ht : lk t T = some ti) (hte : ti.d = .sl e) (he : lk e T = some ei) (hsz : Nat.blt 0 ei.size = true) (hz : Nat.beq ei.zero.length ei.size = true)
include hT ho hcl hargs hts hdst ht hte he hsz hz
theorem appNil_ok (hs : evS st sx = some (.p (.v (.slice none 0 0)))) (h : appNil st d e ei (evS st xx) k = some b) : Goes P st o k b := by
  unfold appNil at h
  split at h
  · rename_i s2 hx
    split at h
    · rename_i l2 hl2
      cases hc : Nat.ble (l2.length * ei.bytes) 140737488355328 with
      | false => rw [hc] at h; cases h
      | true =>
        rw [hc, cond_true] at h
        obtain ⟨g1, g2, g3⟩ := newBox_ok h
        exact ⟨_, _, act_append_nil hT ho hcl hargs hts hdst ht hte he hsz hz hs hx hl2 g1 g2 (Nat.le_of_ble_eq_true hc) rfl, g3⟩
    · cases h
  · cases h
theorem appRow_ok {k : St → Option β} {j : Nat} (hn : Nat.blt d st.n = true) (hs : evS st sx = some (.row j)) (h : appRow st d e ei j (evS st xx) k = some b) : ∃ st', ActOk P [j] o st (fun s => s = st') ∧ k st' = some b := by
  unfold appRow at h
  rw [qT] at h
  split at h
  · rename_i e' z l s2 hj hx
    split at h
    · rename_i l2 hl2
      cases hc : (Nat.beq e' e && Nat.beq z ei.size && Nat.ble (l.length + l2.length) reachBytes && Nat.ble ((l.length + l2.length) * ei.bytes) 140737488355328 && (lk d (killO j st.own)).isNone) with
      | false => rw [hc] at h; cases h
      | true =>
        rw [hc, cond_true, jE, fSt_eq] at h
        simp only [Bool.and_eq_true] at hc
        have e1 : e' = e := Nat.eq_of_beq_eq_true hc.1.1.1.1
        have e2 : z = ei.size := Nat.eq_of_beq_eq_true hc.1.1.1.2
        subst e1 e2
        exact ⟨_, qr hT ho hcl hargs hts hdst ht hte he hsz hz hs hj hx hl2 (Option.isNone_iff_eq_none.1 hc.2) hn (Nat.le_of_ble_eq_true hc.1.1.2) (Nat.le_of_ble_eq_true hc.1.2) rfl, h⟩
    · cases h
  · cases h
theorem appView_ok {k : St → Option β} {j zv m : Nat} (hn : Nat.blt d st.n = true) (hs : evS st sx = some (.view j zv 0 m)) (h : appView st d e ei sx xx j zv m k = some b) : ∃ st', ActOk P [j] o st (fun s => s = st') ∧ k st' = some b := by
  unfold appView at h
  rw [qT] at h
  split at h
  · rename_i tt e' z l0 hj
    cases hc : ((lk 904999 st.own).isNone && Nat.beq zv z) with
    | false => rw [hc] at h; cases h
    | true =>
      rw [hc, cond_true, fSt_eq, evF_eq] at h
      simp only [Bool.and_eq_true] at hc
      have e1 : zv = z := Nat.eq_of_beq_eq_true hc.2
      subst e1
      obtain ⟨st', h1, h2⟩ := appRow_ok (st := shrunk st tt j zv m e' l0) hT ho hcl hargs hts hdst ht hte he hsz hz hn (show lk tt ((tt, SV.row 904999) :: killF j st.fr) = _ by rw [qv, if_pos rfl]) h
      exact ⟨st', ActOk.shrink tt 904999 hs hj (Option.isNone_iff_eq_none.1 hc.1) rfl h1, h2⟩
  · cases h
end
include hT in
theorem appE_ok {sx xx : Operand} {t : TypeId} {cl : Call} (ho : o.op = .call cl) (hcl : cl.callee = .builtin .append) (hargs : cl.args.toList = [sx, xx]) (hts : cl.argTypes.toList = [t, t]) (h : appE T st o sx xx t k = some b) : Goes P st o k b := by
  unfold appE at h
  simp only [qT, evF_eq] at h
  split at h
  · rename_i d _ _ e _ _ hd ht
    split at h
    · rename_i ei he
      cases hc : (Nat.blt 0 ei.size && Nat.beq ei.zero.length ei.size && Nat.blt d st.n) with
      | false => rw [hc] at h; cases h
      | true =>
        rw [hc, cond_true] at h
        simp only [Bool.and_eq_true] at hc
        split at h
        · rename_i hs; exact appNil_ok hT ho hcl hargs hts hd ht rfl he hc.1.1 hc.1.2 hs h
        · rename_i hs
          obtain ⟨st', h1, h2⟩ := appRow_ok hT ho hcl hargs hts hd ht rfl he hc.1.1 hc.1.2 hc.2 hs h
          exact ⟨_, st', h1, h2⟩
        · rename_i hs
          obtain ⟨st', h1, h2⟩ := appView_ok hT ho hcl hargs hts hd ht rfl he hc.1.1 hc.1.2 hc.2 hs h
          exact ⟨_, st', h1, h2⟩
        · cases h
    · cases h
  · cases h
def EvOk (P : Program) (cx : Cx) (ev : FuncId → FnI → List SV → List (Nat × Box) → Ret) : Prop := ∀ f fi args own r own', lk f cx.F = some fi → ev f fi args own = some (r, own') → zE P f args own r own'
def TabOk (P : Program) (cx : Cx) : Prop := ∀ f ps r, cx.C f ps = some r → Holds P f ps r []
theorem callE_ok {cx : Cx} {ev : FuncId → FnI → List SV → List (Nat × Box) → Ret} (hev : EvOk P cx ev) (hC : TabOk P cx) {cl : Call} {fo : Operand} {sf : SV} {f : FuncId} {caps : List SV} (ho : o.op = .call cl) (hcl : cl.callee = .value fo) (hfo : evS st fo = some sf) (hfn : fnOf sf = some (f, caps))
    (h : callE cx ev st o (isPS sf) f caps cl.args.toList k = some b) : Goes P st o k b := by
  unfold callE at h
  rw [qT] at h
  split at h
  · rename_i fi hfi
    split at h
    · rw [fRen_eq] at h
      generalize number true 1000000 _ = ρ at h
      unfold enterE at h
      split at h
      · rename_i own a c hown hargs hcaps
        cases hρ : rhoOk ρ with
        | false => rw [hρ] at h; cases h
        | true =>
          rw [hρ, cond_true, fOnes_eq, fOwn_eq] at h
          unfold backE at h
          split at h
          · rename_i r own' hr
            have hW := hev f fi _ _ r own' hfi hr
            cases hb : (zn st o.dst && backOk st ρ o.dst own') with
            | false => rw [hb] at h; cases h
            | true =>
              rw [hb, cond_true] at h
              simp only [Bool.and_eq_true] at hb
              split at h
              · rename_i st' hst
                rw [fSt_eq] at h
                exact ⟨_, st', act_call_RS ρ ho hcl hfo hfn hcaps hown hρ hargs hW hb.1 fun r' o' ⟨e1, e2⟩ => by subst e1 e2; exact ⟨st', hst, hb.2, rfl⟩, h⟩
              · cases h
          · cases h
      · cases h
    · cases h
  · split at h
    · rename_i cps ps ids hpf hp ha
      split at h
      · rename_i r hr
        cases hb : (flatS r && zn st o.dst) with
        | false => rw [hb] at h; cases h
        | true =>
          rw [hb, cond_true, putE_eq] at h
          simp only [Bool.and_eq_true] at hb
          have hcap : caps = cps.map .p := by
            obtain ⟨q1, q2⟩ := pures_get hp
            refine List.ext_getElem? fun i => ?_
            rw [q2, List.getElem?_map]
          have hsf : sf = .p (.fn f cps) ∨ sf = .fn f caps := by
            cases sf with
            | p x =>
              cases x with
              | fn g cs =>
                simp only [fnOf, Option.some.injEq, Prod.mk.injEq] at hfn
                obtain ⟨rfl, h2⟩ := hfn
                rw [hcap] at h2
                have : cs = cps := (List.map_inj_right (fun a b h => by cases h; rfl)).1 h2
                rw [this]; exact Or.inl rfl
              | _ => cases hfn
            | fn g cs =>
              simp only [fnOf, Option.some.injEq, Prod.mk.injEq] at hfn
              obtain ⟨rfl, rfl⟩ := hfn
              exact Or.inr rfl
            | _ => cases hfn
          rcases hsf with rfl | rfl
          · exact ⟨_, _, qA ho hcl hfo ha (hC f _ r hr) hb.2 hb.1 rfl, h⟩
          · cases hpf
      · cases h
    · cases h
end
theorem ActOk.mono {P : Program} {Ws : List Nat} {o : Oper} {st : St} {Q Q' : St → Prop} (h : ActOk P Ws o st Q) (hq : ∀ s, Q s → Q' s) : ActOk P Ws o st Q' := fun w0 Sx γ a w QQ hI => by
  refine Oper.wp_mono (fun a' w' h' => ?_) (h w0 Sx γ a w QQ hI)
  obtain ⟨γ', st', h1, h2⟩ := h'
  exact ⟨γ', st', hq _ h1, h2⟩
section
variable {P : Program} {cx : Cx} (hT : qU P cx.T) (hC : TabOk P cx) {ev : FuncId → FnI → List SV → List (Nat × Box) → Ret} (hev : EvOk P cx ev)
section
variable {st : St} {o : Oper} {β : Type} {k : List Nat → St → Option β} {b : β}
include hT hC hev in
theorem actE_ok (h : actE cx ev st o k = some b) : Goes P st o k b := by
  unfold actE at h
  simp only [evF_eq] at h
  split at h
  · rename_i ho; exact allocE_ok hT ho h
  · rename_i ho; exact boxE_ok ho h
  · rename_i ho
    split at h
    · rename_i hp; exact buildE_ok hT ho hp h
    · cases h
  · rename_i ho
    split at h
    · rename_i hd; exact storeE_ok hT ho hd h
    · cases h
  · rename_i ho
    split at h
    · rename_i d hd
      obtain ⟨h1, h2, h3⟩ := newBox_ok h
      exact ⟨_, _, act_makeMap ho hd h1 h2 rfl, h3⟩
    · cases h
  · rename_i ho
    split at h
    · rename_i hd; exact mapE_ok hT ho hd h
    · cases h
  · rename_i ho
    unfold acallE at h
    simp only [evF_eq] at h
    split at h
    · rename_i hcl
      split at h
      · rename_i hargs hts
        generalize hb : Nat.beq _ _ = q at h
        cases q with
        | false => cases h
        | true =>
          rw [cond_true] at h
          rename_i t t'
          have e1 : t = t' := Nat.eq_of_beq_eq_true hb
          subst e1
          exact appE_ok hT ho hcl hargs hts h
      · cases h
    · rename_i hcl
      split at h
      · rename_i hfo
        split at h
        · rename_i hfn; exact callE_ok hev hC ho hcl hfo hfn h
        · cases h
      · cases h
    · cases h
  · cases h
include hT hC hev in
theorem stepE_ok (h : stepE cx ev [] st o k = some b) : Goes P st o k b := by
  unfold stepE at h
  cases hr : isRd o.op with
  | false => rw [hr] at h; exact actE_ok hT hC hev h
  | true =>
    rw [hr, cond_true] at h
    cases hd : zn st o.dst with
    | false => rw [hd] at h; cases h
    | true =>
      rw [hd, cond_true] at h
      obtain ⟨s, h1, h2⟩ := opE_ok hT h
      rw [putE_eq] at h2
      exact ⟨_, _, qy h1 hd rfl, h2⟩
end
include hT hC hev in
theorem evT_ok {ops : List Oper} : ∀ {l : List Oper} {st st' : St}, evT cx ev ops l st = some st' → SWT P ops l (fun s => s = st') st
  | [], st, st', h => by
    simp only [evT, Option.some.injEq] at h
    exact qd h
  | o :: r, st, st', h => by
    unfold evT at h
    split at h
    · rename_i hw
      obtain ⟨Ws, st1, h1, h2⟩ := stepE_ok hT hC hev h
      exact qI hw (h1.mono fun s e => by subst e; exact evT_ok h2)
    · rename_i hw
      cases hd : zn st o.dst with
      | false => rw [hd] at h; cases h
      | true =>
        rw [hd, cond_true, putE_eq] at h
        exact swt_skip hw hd (evT_ok h)
    · cases h
theorem swp_rd {ops : List Oper} {K : List Nat} {κ : Kap} {st : St} {Q : St → Prop} {i : Nat} {r : List (Nat × Bool)} {o : Oper} {s : SV} (hi : nthO ops i = some o) (hw : zF ops st o = some true) (hr : RdO P K st o s) (hd : zn st o.dst = true) (h : SWP P ops ((i, K) :: κ) r Q (st.put o.dst s)) : SWP P ops κ ((i, true) :: r) Q st := fun w0 Sx γ a w QQ hI hQ => by
  have hrest := fun v (hv : RelS (okO Sx γ st.own) (hp γ st.own) w s v) => h w0 Sx γ _ w QQ (hI.put (dst := o.dst) hd hv) hQ
  simp only [wR] at hrest
  obtain ⟨v, h1, h2⟩ := hr w0 Sx γ a w hI
  exact ⟨wI, _, o, v, _, SameOn.refl _ _, (zd ops i).trans hi, Or.inl ⟨zq hI hw, h2⟩, Covers.refl _, hrest v h1⟩
theorem mem_ok : ∀ {l : List Nat} {i : Nat}, mem i l = true → l.contains i = true
  | j :: r, i, h => by
    unfold mem at h
    cases hb : Nat.beq i j with
    | true => have := Nat.eq_of_beq_eq_true hb; subst this; simp
    | false =>
      rw [hb, cond_false] at h
      have := mem_ok h
      simp at this ⊢
      exact Or.inr this
theorem okW_ok {w : List Nat} {κ : Kap} (h : okW w κ = true) : κ.all (fun p => w.all fun j => p.2.contains j) = true :=
  List.all_eq_true.2 fun p hp => List.all_eq_true.2 fun j hj => mem_ok (List.all_eq_true.1 (List.all_eq_true.1 h p hp) j hj)
include hT hC hev in
theorem evM_ok {ops : List Oper} {K : List Nat} {chk : Bool} : ∀ {od : List (Nat × Bool)} {κ : Kap} {ws ws' : List Nat} {st st' : St}, evM cx ev ops K chk od κ ws st = some (ws', st') → (∀ i ∈ ws, i ∈ ws') ∧ (chk = true ∨ ws' = [] → SWP P ops κ od (fun s => s = st') st)
  | [], κ, ws, ws', st, st', h => by
    simp only [evM, Option.some.injEq, Prod.mk.injEq] at h
    obtain ⟨rfl, rfl⟩ := h
    exact ⟨fun _ h => h, fun _ => swp_nil rfl⟩
  | (i, b) :: r, κ, ws, ws', st, st', h => by
    unfold evM at h
    split at h
    · rename_i o hi
      split at h
      · rename_i hw
        cases b with
        | true =>
          rw [cond_true] at h
          cases hd : zn st o.dst with
          | false => rw [hd] at h; cases h
          | true =>
            rw [hd, cond_true, fNats_eq] at h
            obtain ⟨s, h1, h2⟩ := opE_ok hT h
            rw [putE_eq] at h2
            obtain ⟨h3, h4⟩ := evM_ok h2
            exact ⟨h3, fun hK => swp_rd hi hw h1 hd (h4 hK)⟩
        | false =>
          rw [cond_false] at h
          obtain ⟨Ws, st1, h1, h2⟩ := stepE_ok hT hC hev h
          replace h2 : (bif (!chk || okW Ws (kapB o κ)) then evM cx ev ops K chk r (kapB o κ) (Ws ++ ws) st1 else none) = some (ws', st') := h2
          cases hc : (!chk || okW Ws (kapB o κ)) with
          | false => rw [hc] at h2; cases h2
          | true =>
            rw [hc, cond_true] at h2
            obtain ⟨h3, h4⟩ := evM_ok h2
            refine ⟨fun i hi => h3 i (List.mem_append_right _ hi), fun hK => swp_act hi hw ?_ (h1.mono fun s e => by subst e; exact h4 hK)⟩
            rcases hK with hK | hK
            · subst hK
              exact okW_ok (by simpa using hc)
            · have : Ws = [] := by
                cases Ws with
                | nil => rfl
                | cons j l => have := h3 j (by simp); rw [hK] at this; cases this
              subst this
              exact List.all_eq_true.2 fun _ _ => rfl
      · rename_i hw
        cases hd : zn st o.dst with
        | false => rw [hd] at h; cases h
        | true =>
          rw [hd, cond_true, putE_eq] at h
          obtain ⟨h3, h4⟩ := evM_ok h
          exact ⟨h3, fun hK => swp_skip hi hw hd (h4 hK)⟩
      · cases h
    · cases h
include hT hC hev in
theorem evReg_ok (hm : P.follows .mixedOrders = true) {ords : List (Nat × List (Nat × Bool))} {id : Nat} {ops : Array Oper} {st st' : St} {d : Bool} (hd : d = true → chkR ords id ops = true) (h : evReg cx ev ords id ops.toList st d = some st') : SW P (.region id ops d) (fun e s => e = .normal ∧ s = st') st := by
  have hops : ops = ops.toList.toArray := by simp
  cases d with
  | false =>
    simp only [evReg] at h
    rw [hops]
    refine sw_region (fun w0 Sx γ a w QQ hI hQ => ?_)
    exact evT_ok hT hC hev h w0 Sx γ a w QQ hI fun s' γ' a' w' hI' hq => hQ s' γ' a' w' hI' ⟨rfl, hq⟩
  | true =>
    have hd := hd rfl
    simp only [evReg, qT] at h
    unfold chkR at hd
    split at h
    · rename_i od hod
      rw [hod] at hd
      simp only [Bool.and_eq_true] at hd
      rw [fNats_eq] at h
      have key : ∀ {K ws : List Nat} {chk : Bool} {st1 : St}, evM cx ev ops.toList K chk od [] [] st = some (ws, st1) → (chk = true ∨ ws = []) → SW P (.region id ops true) (fun e s => e = .normal ∧ s = st1) st := fun {K ws chk st1} h1 hK => by
        rw [hops]
        refine sw_region_pend od hm (by rw [← hops]; exact hd.1) (by rw [← hops]; simp only [Bool.and_eq_true]; exact hd.2) (fun w0 Sx γ a w QQ hI hQ => ?_)
        exact (evM_ok hT hC hev h1).2 hK w0 Sx γ a w QQ hI fun s' γ' a' w' hI' hq => hQ s' γ' a' w' hI' ⟨rfl, hq⟩
      split at h
      · rename_i h1
        cases h
        exact key h1 (.inl rfl)
      · split at h
        · rename_i h1
          cases h
          exact key h1 (.inr rfl)
        · rw [fNats_eq] at h
          split at h
          · rename_i h2
            cases h
            exact key h2 (.inl rfl)
          · cases h
        · cases h
    · cases h
end
section
variable {P : Program} {T : TT} (hT : qU P T)
include hT in
theorem resO_ok {st : St} {w0 : Base} {Sx : Nat → Prop} {γ : Nat → Value} {a : Act} {w : World} (hI : Sim w0 Sx γ st a w) {f : ResultVar → Sem Value} (hf1 : ∀ t, f (.tmp t) = pure (a.tmps.getD t undef)) (hf2 : ∀ c t, f (.cell c t) = (do loadVar t (← asAddr (a.tmps.getD c undef)))) {rv : ResultVar} {s : SV} (h : resO T st rv = some s) :
    ∃ v, (f rv).run P w = .ok v w ∧ RelS (okO Sx γ st.own) (hp γ st.own) w s v := by
  cases rv with
  | tmp t => exact ⟨_, by rw [hf1]; rfl, hI.fr t s h⟩
  | cell c t =>
    simp only [resO] at h
    split at h
    · rename_i hl hc
      cases h
      obtain ⟨v, h1, h2⟩ := rLoad_ok hT hI (x := .tmp c) (K := []) hl (rLoadC_ok hl (by rw [hc]; rfl))
      have h3 := h2 w (SameOn.refl _ _)
      have hv := hI.fr c _ hc
      obtain ⟨b, g, hb, _⟩ := hv.ptr_form
      refine ⟨v, ?_, h1⟩
      rw [show a.eval (.tmp c) = a.tmps.getD c undef from rfl, hb] at h3
      rw [hf2, hb]
      exact h3
    · cases h
include hT in
theorem resOs_ok {st : St} {w0 : Base} {Sx : Nat → Prop} {γ : Nat → Value} {a : Act} {w : World} (hI : Sim w0 Sx γ st a w) {f : ResultVar → Sem Value} (hf1 : ∀ t, f (.tmp t) = pure (a.tmps.getD t undef)) (hf2 : ∀ c t, f (.cell c t) = (do loadVar t (← asAddr (a.tmps.getD c undef)))) : ∀ {rs : List ResultVar} {l : List SV}, resOs T st rs = some l →
    ∃ vs : List Value, (rs.mapM f).run P w = .ok vs w ∧ vs.length = l.length ∧ l.length = rs.length ∧ ∀ (i : Nat) (s : SV) (u : Value), l[i]? = some s → vs[i]? = some u → RelS (okO Sx γ st.own) (hp γ st.own) w s u
  | [], l, h => by
    simp only [resOs, Option.some.injEq] at h
    subst h
    exact ⟨[], by simp, rfl, rfl, fun i s u hs => by simp at hs⟩
  | r :: rs, l, h => by
    unfold resOs at h
    split at h
    · rename_i s hs
      split at h
      · rename_i l' hl
        simp only [Option.some.injEq] at h
        subst h
        obtain ⟨v, h1, h2⟩ := resO_ok hT hI hf1 hf2 hs
        obtain ⟨vs, h3, h4, h5, h6⟩ := resOs_ok hI hf1 hf2 hl
        refine ⟨v :: vs, ?_, by simp [h4], by simp [h5], fun i s' u hs' hu => ?_⟩
        · rw [List.mapM_cons, Sem.run_bind, h1]
          simp only [Result.andThen_ok, Sem.run_bind, h3, Sem.run_pure]
        · cases i with
          | zero => simp at hs' hu; subst hs' hu; exact h2
          | succ i => exact h6 i s' u (by simpa using hs') (by simpa using hu)
      · cases h
    · cases h
include hT in
theorem resC_ok {fn : Func} {st : St} {w0 : Base} {Sx : Nat → Prop} {γ : Nat → Value} {a : Act} {w : World} (hI : Sim w0 Sx γ st a w) {rs : List ResultVar} {s : SV} (h : resC T st rs = some s) (hres : fn.results = rs.toArray) :
    ∃ v, (results fn a.tmps).run P w = .ok v w ∧ RelS (okO Sx γ st.own) (hp γ st.own) w s v := by
  have key : ∀ {l : List SV}, resOs T st rs = some l → ∃ vs : List Value, (results fn a.tmps).run P w = .ok (if h : vs.toArray.size = 1 then vs.toArray[0] else .tuple vs.toArray) w ∧ vs.length = l.length ∧ l.length = rs.length ∧ ∀ (i : Nat) (s : SV) (u : Value), l[i]? = some s → vs[i]? = some u → RelS (okO Sx γ st.own) (hp γ st.own) w s u := fun {l} hl => by
    have gen : ∀ f : ResultVar → Sem Value, (∀ t, f (.tmp t) = pure (a.tmps.getD t undef)) → (∀ c t, f (.cell c t) = (do loadVar t (← asAddr (a.tmps.getD c undef)))) →
        ∃ vs : List Value, ((do let vs ← rs.toArray.mapM f; pure (if h : vs.size = 1 then vs[0] else .tuple vs)) : Sem Value).run P w = .ok (if h : vs.toArray.size = 1 then vs.toArray[0] else .tuple vs.toArray) w ∧ vs.length = l.length ∧ l.length = rs.length ∧ ∀ (i : Nat) (s : SV) (u : Value), l[i]? = some s → vs[i]? = some u → RelS (okO Sx γ st.own) (hp γ st.own) w s u := fun f hf1 hf2 => by
      obtain ⟨vs, h3, h4, h5, h6⟩ := resOs_ok hT hI hf1 hf2 hl
      refine ⟨vs, ?_, h4, h5, h6⟩
      rw [Sem.run_bind, List.mapM_toArray, Sem.run_map, h3]
      simp only [Result.andThen_ok, Sem.run_pure]
    unfold results
    rw [hres]
    exact gen _ (fun _ => rfl) (fun _ _ => rfl)
  unfold resC at h
  split at h
  · rename_i r
    obtain ⟨vs, h1, h2, h3, h4⟩ := key (l := [s]) (by simp only [resOs, h])
    have hv : ∃ v, vs = [v] := by
      match vs, h2 with
      | [v], _ => exact ⟨v, rfl⟩
    obtain ⟨v, rfl⟩ := hv
    exact ⟨v, by rw [h1]; rfl, h4 0 s v rfl rfl⟩
  · rename_i hne
    split at h
    · rename_i l hl
      simp only [Option.some.injEq] at h
      subst h
      obtain ⟨vs, h1, h2, h3, h4⟩ := key hl
      have hn : ¬ vs.toArray.size = 1 := fun e => by
        rw [List.size_toArray, h2, h3] at e
        match rs, hne, e with
        | [r], hne, _ => exact hne r rfl
      rw [dif_neg hn] at h1
      exact ⟨_, h1, .tup h2 h4⟩
    · cases h
include hT in
theorem holdsV_of {f : FuncId} {fn : Func} {c : Code} {args : List SV} {own : List (Nat × Box)} {r : SV} {own' : List (Nat × Box)} {rs : List ResultVar} {e' : SEx} {st' : St} (hf : P.funcs[f]? = some fn) (hname : (fn.name == "runtime.NumGoroutine") = false) (hb : fn.body = some c)
    (hres : fn.results = rs.toArray) (hn : args.length ≤ fn.ntmps ∧ fn.ntmps ≤ 900) (h : SW P c (fun e s => e = e' ∧ s = st') ⟨fn.ntmps, jy 0 args, own⟩) (he : e' = .normal ∨ e' = .ret) (hfin : finE T rs st' = some (r, own')) : zE P f args own r own' := by
  refine ⟨⟨fn, hf, hname, by rw [hb]; rfl⟩, fun w Sx γ vs hh hl hr => ?_⟩
  refine calls_of_wp hf hb ?_
  have hget : ∀ t, t < args.length → (vs.toArray ++ Array.replicate (fn.ntmps - vs.toArray.size) undef).getD t undef = vs[t]?.getD undef := fun t ht => by
    have : t < vs.length := by omega
    have h2 : (vs.toArray ++ Array.replicate (fn.ntmps - vs.toArray.size) undef)[t]? = vs[t]? := by
      rw [Array.getElem?_append_left (by simpa using this)]; simp
    rw [Array.getD_eq_getD_getElem?, h2]
  have hI : Sim (jD w γ own) Sx γ ⟨fn.ntmps, jy 0 args, own⟩ ⟨vs.toArray ++ Array.replicate (fn.ntmps - vs.toArray.size) undef, []⟩ w := by
    refine ⟨⟨Below.refl _ w, fun _ _ => rfl⟩, ⟨by simp; omega, hn.2⟩, rfl, fun t s ht => ?_, hh⟩
    obtain ⟨_, hx⟩ := argFrS_get ht
    simp only [Nat.sub_zero] at hx
    have hlt : t < args.length := (List.getElem?_eq_some_iff.1 hx).1
    have hv : vs[t]? = some (vs[t]'(by omega)) := List.getElem?_eq_getElem (by omega)
    show RelS _ _ _ _ ((vs.toArray ++ Array.replicate (fn.ntmps - vs.toArray.size) undef).getD t undef)
    rw [hget t hlt, hv]
    exact hr t s _ hx hv
  refine h _ Sx _ _ w _ hI fun e st2 γ' a' w' hI' hq => ?_
  obtain ⟨rfl, rfl⟩ := hq
  unfold finE at hfin
  split at hfin
  · rename_i s hs
    rw [fRen_eq] at hfin
    generalize number false 0 _ = ρ at hfin
    split at hfin
    · rename_i r' o' hr' ho'
      cases hρ : renOk ρ with
      | false => rw [hρ] at hfin; cases hfin
      | true =>
        rw [hρ, cond_true, fSV_eq, fOwn_eq] at hfin
        cases hfin
        obtain ⟨γ3, k1, k2⟩ := heap_mapR hI'.heap ho' hρ
        obtain ⟨v, k3, k4⟩ := resC_ok hT hI' hs hres
        have fin : a'.defers = [] ∧ ∃ v, (results fn a'.tmps).run P w' = .ok v w' ∧ ∃ v' γ2 r1 own1, (r1 = r ∧ own1 = own') ∧ Ending.returned v = .returned v' ∧ BelowB (jD w γ own) w' ∧ HeapOk (jD w γ own) Sx γ2 own1 w' ∧ RelS (okO Sx γ2 own1) (hp γ2 own1) w' r1 v' :=
          ⟨hI'.defers, v, k3, v, γ3, r, own', ⟨rfl, rfl⟩, rfl, hI'.below, k1, k2 s v r k4 hr'⟩
        rcases he with rfl | rfl
        · exact fin
        · exact fin
    · cases hfin
  · cases hfin
end
def jmpW (l : Nat) (J : Act → World → Prop) (Q : Exit → Act → World → Prop) : Exit → Act → World → Prop
  | .goto l', a, w => l' = l ∧ J a w
  | e, a, w => Q e a w
theorem wp_scope_ghost {P : Program} {a : Act} {w : World} {Q : Exit → Act → World → Prop} {c rest : Code} (l : Nat) (J : Nat → Act → World → Prop) (hf : findLabel c l = some rest)
    (first : c.wp P (jmpW l (fun a w => ∃ n, J n a w) Q) a w)
    (pass : ∀ n a w, J n a w → rest.wp P (jmpW l (fun a' w' => ∃ m, m < n ∧ J m a' w') Q) a w) : (Code.scope c).wp P Q a w := by
  intro b k cs
  have hg : gotoIn l (.inScope c :: k) = some (.code rest :: .inScope c :: k) := by simp [gotoIn, hf]
  have key : ∀ n a w, J n a w → ∃ e a' w', Q e a' w' ∧ Arrives P (lone (b.at a (.code rest :: .inScope c :: k)) cs w) b k cs e a' w' := by
    intro n
    induction n using Nat.strongRecOn with
    | _ n ih =>
      intro a w hJ
      obtain ⟨e, a₁, w₁, hq, harr⟩ := pass n a w hJ b (.inScope c :: k) cs
      cases e with
      | normal => exact ⟨.normal, a₁, w₁, hq, Steps.trans harr (.one step_inScope)⟩
      | exit id => exact ⟨.exit id, a₁, w₁, hq, fun k' hk => harr k' (by simp [exitTo, hk])⟩
      | goto l' =>
        obtain ⟨rfl, m, hlt, hJ'⟩ := hq
        obtain ⟨e₂, a₂, w₂, hq₂, harr₂⟩ := ih m hlt a₁ w₁ hJ'
        exact ⟨e₂, a₂, w₂, hq₂, .of_steps (harr _ hg) harr₂⟩
      | ret => exact ⟨_, a₁, w₁, hq, harr⟩
      | panic ch => exact ⟨_, a₁, w₁, hq, harr⟩
      | outgrown => exact ⟨_, a₁, w₁, hq, harr⟩
  obtain ⟨e, a₁, w₁, hq, harr⟩ := first b (.inScope c :: k) cs
  cases e with
  | normal => exact ⟨.normal, a₁, w₁, hq, .head step_scope (Steps.trans harr (.one step_inScope))⟩
  | exit id => exact ⟨.exit id, a₁, w₁, hq, fun k' hk => .head step_scope (harr k' (by simp [exitTo, hk]))⟩
  | goto l' =>
    obtain ⟨rfl, m, hJ'⟩ := hq
    obtain ⟨e₂, a₂, w₂, hq₂, harr₂⟩ := key m a₁ w₁ hJ'
    exact ⟨e₂, a₂, w₂, hq₂, .of_steps (.head step_scope (harr _ hg)) harr₂⟩
  | ret => exact ⟨_, a₁, w₁, hq, .of_steps (.one step_scope) harr⟩
  | panic ch => exact ⟨_, a₁, w₁, hq, .of_steps (.one step_scope) harr⟩
  | outgrown => exact ⟨_, a₁, w₁, hq, .of_steps (.one step_scope) harr⟩
def jmpS (l : Nat) (J : St → Prop) (Q : SEx → St → Prop) : SEx → St → Prop
  | .goto l', s => l' = l ∧ J s
  | e, s => Q e s
theorem sw_goto {P : Program} {Q : SEx → St → Prop} {st : St} {l : Nat} (h : Q (.goto l) st) : SW P (.goto l) Q st := fun _ _ γ a w _ hI hQ => wp_goto (hQ (.goto l) st γ a w hI h)
theorem sw_scope0 {P : Program} {Q : SEx → St → Prop} {st : St} {c : Code} (h : SW P c (fun e s => Q e s ∧ ∀ l, e ≠ .goto l) st) : SW P (.scope c) Q st := fun w0 Sx γ a w QQ hI hQ => by
  refine wp_scope_straight (h w0 Sx γ a w _ hI fun e s' γ' a' w' hI' hq => ?_)
  cases e with
  | goto l => exact absurd rfl (hq.2 l)
  | normal => exact hQ .normal s' γ' a' w' hI' hq.1
  | exit id => exact hQ (.exit id) s' γ' a' w' hI' hq.1
  | ret => exact hQ .ret s' γ' a' w' hI' hq.1
theorem sw_scope {P : Program} {Q : SEx → St → Prop} {st : St} {c rest : Code} (l : Nat) (I : Nat → St → Prop) (hf : findLabel c l = some rest) (first : SW P c (jmpS l (fun s' => ∃ n s'', Wk s' s'' ∧ I n s'') Q) st)
    (round : ∀ n s, I n s → SW P rest (jmpS l (fun s' => ∃ m s'', m < n ∧ Wk s' s'' ∧ I m s'') Q) s) : SW P (.scope c) Q st := fun w0 Sx γ a w QQ hI hQ => by
  refine wp_scope_ghost l (fun n a w => ∃ s γ, I n s ∧ Sim w0 Sx γ s a w) hf (first w0 Sx γ a w _ hI fun e s' γ' a' w' hI' hq => ?_) fun n a w ⟨s, γ, hn, hI⟩ => round n s hn w0 Sx γ a w _ hI fun e s' γ' a' w' hI' hq => ?_
  · cases e with
    | goto l' =>
      obtain ⟨rfl, n, s'', hwk, hn⟩ := hq
      obtain ⟨γ'', hI''⟩ := hwk w0 Sx γ' a' w' hI'
      exact ⟨rfl, n, s'', γ'', hn, hI''⟩
    | normal => exact hQ .normal s' γ' a' w' hI' hq
    | exit id => exact hQ (.exit id) s' γ' a' w' hI' hq
    | ret => exact hQ .ret s' γ' a' w' hI' hq
  · cases e with
    | goto l' =>
      obtain ⟨rfl, m, s'', hlt, hwk, hm⟩ := hq
      obtain ⟨γ'', hI''⟩ := hwk w0 Sx γ' a' w' hI'
      exact ⟨rfl, m, hlt, s'', γ'', hm, hI''⟩
    | normal => exact hQ .normal s' γ' a' w' hI' hq
    | exit id => exact hQ (.exit id) s' γ' a' w' hI' hq
    | ret => exact hQ .ret s' γ' a' w' hI' hq
theorem chkC_label {ords : List (Nat × List (Nat × Bool))} {l : Nat} : ∀ {c rest : Code}, chkC ords c = true → findLabel c l = some rest → chkC ords rest = true := by
  intro c
  induction c with
  | seq a b iha ihb =>
    intro rest h hf
    simp only [chkC, Bool.and_eq_true] at h
    simp only [findLabel] at hf
    split at hf
    · rename_i r hr
      cases hf
      simp only [chkC, Bool.and_eq_true]
      exact ⟨iha h.1 hr, h.2⟩
    · exact ihb h.2 hf
  | label l' =>
    intro rest h hf
    simp only [findLabel] at hf
    split at hf
    · cases hf; rfl
    · cases hf
  | _ => intro rest h hf; cases hf
def FOk (P : Program) (cx : Cx) : Prop := ∀ f fi, lk f cx.F = some fi → ∃ fn, P.funcs[f]? = some fn ∧ (fn.name == "runtime.NumGoroutine") = false ∧ fn.body = some fi.c ∧ fn.results = fi.ts.toArray ∧ fn.ntmps = fi.n ∧ Nat.ble fi.n 900 = true ∧ chkC fi.ords fi.c = true
theorem turnE_ok {β : Type} {ts : List Nat} {st : St} {k : St → Option β} {b : β} (h : turnE ts st k = some b) : ∃ st', Wk st st' ∧ k st' = some b := by
  unfold turnE at h
  rw [fRen_eq] at h
  generalize number false 905000 _ = ρ at h
  cases hρ : renOk ρ with
  | false => rw [hρ] at h; cases h
  | true =>
    rw [hρ, cond_true] at h
    split at h
    · rename_i st' hst
      rw [fSt_eq] at h
      exact ⟨st', qu ts ρ hst hρ, h⟩
    · cases h
section
variable {P : Program} {cx : Cx} (hT : qU P cx.T) (hC : TabOk P cx) (hF : FOk P cx) (hm : P.follows .mixedOrders = true)
theorem jA {α β : Type} {a a' : α} {b b' : β} (h : some (a, b) = some (a', b')) : a = a' ∧ b = b' := by cases h; exact ⟨rfl, rfl⟩
include hT hC hF hm in
theorem evN_ok : ∀ n ords c st e s', chkC ords c = true → evN cx n ords c st = some (e, s') → SW P c (fun e1 s1 => e1 = e ∧ s1 = s') st := by
  intro n
  induction n using Nat.strongRecOn with
  | ind n IH =>
  cases n with
  | zero => intro ords c st e s' _ h; cases h
  | succ n =>
    have hev : EvOk P cx (fun _ fi args own => bif Nat.ble args.length fi.n then finR cx.T fi.ts (evN cx n fi.ords fi.c ⟨fi.n, jy 0 args, own⟩) else none) := by
      intro f fi args own r own' hfi h
      obtain ⟨fn, h1, h2, h3, h4, h5, h6, h7⟩ := hF f fi hfi
      cases hb : Nat.ble args.length fi.n with
      | false => simp only [hb, cond_false] at h; cases h
      | true =>
        simp only [hb, cond_true] at h
        unfold finR at h
        have hn : args.length ≤ fn.ntmps ∧ fn.ntmps ≤ 900 := by rw [h5]; exact ⟨Nat.le_of_ble_eq_true hb, Nat.le_of_ble_eq_true h6⟩
        split at h
        · rename_i st' he
          exact holdsV_of hT h1 h2 h3 h4 hn (by rw [h5]; exact IH n (Nat.lt_succ_self n) _ _ _ _ _ h7 he) (Or.inl rfl) h
        · rename_i st' he
          exact holdsV_of hT h1 h2 h3 h4 hn (by rw [h5]; exact IH n (Nat.lt_succ_self n) _ _ _ _ _ h7 he) (Or.inr rfl) h
        · cases h
    intro ords c
    induction c with
    | skip =>
      intro st e s' _ h
      obtain ⟨rfl, rfl⟩ := jA h
      exact qg ⟨rfl, rfl⟩
    | region id ops d =>
      intro st e s' hc h
      have h : (match evReg cx _ ords id ops.toList st d with | some st' => some (SEx.normal, st') | none => none) = some (e, s') := h
      split at h
      · rename_i st' hr
        obtain ⟨rfl, rfl⟩ := jA h
        exact (evReg_ok hT hC hev hm (fun hd => by subst hd; exact hc) hr).mono fun e s q => q
      · cases h
    | seq a b iha ihb =>
      intro st e s' hc h
      simp only [chkC, Bool.and_eq_true] at hc
      have h : (match evN cx (n + 1) ords a st with | some (.normal, st') => evN cx (n + 1) ords b st' | r => r) = some (e, s') := h
      refine qF ?_
      split at h
      · rename_i st1 ha
        exact (iha st _ _ hc.1 ha).mono fun e1 s1 ⟨q1, q2⟩ => by subst q1 q2; exact ihb _ _ _ hc.2 h
      · rename_i hne
        refine (iha st _ _ hc.1 h).mono fun e1 s1 ⟨q1, q2⟩ => ?_
        subst q1 q2
        cases e1 with
        | normal => exact absurd h (hne s1)
        | _ => exact ⟨rfl, rfl⟩
    | cond x a b iha ihb =>
      intro st e s' hc h
      simp only [chkC, Bool.and_eq_true] at hc
      have h : (match evF st x with | some (.p (.v (.bool true))) => evN cx (n + 1) ords a st | some (.p (.v (.bool false))) => evN cx (n + 1) ords b st | _ => none) = some (e, s') := h
      rw [evF_eq] at h
      split at h
      · rename_i hx
        exact sw_cond hx (fun _ => iha _ _ _ hc.1 h) fun q => by cases q
      · rename_i hx
        exact sw_cond hx (fun q => by cases q) fun _ => ihb _ _ _ hc.2 h
      · cases h
    | block id b ih =>
      intro st e s' hc h
      have h : (match evN cx (n + 1) ords b st with | some (.exit i, st') => bif Nat.beq i id then some (SEx.normal, st') else some (.exit i, st') | r => r) = some (e, s') := h
      refine sw_block ?_
      split at h
      · rename_i i st' hb
        refine (ih st _ _ hc hb).mono fun e1 s1 ⟨q1, q2⟩ => ?_
        subst q1 q2
        show (bif Nat.beq i id then _ else _)
        cases hi : Nat.beq i id with
        | true => rw [hi] at h; obtain ⟨rfl, rfl⟩ := jA h; exact ⟨rfl, rfl⟩
        | false => rw [hi] at h; obtain ⟨rfl, rfl⟩ := jA h; exact ⟨rfl, rfl⟩
      · rename_i hne
        refine (ih st _ _ hc h).mono fun e1 s1 ⟨q1, q2⟩ => ?_
        subst q1 q2
        cases e1 with
        | exit i => exact absurd h (hne i s1)
        | _ => exact ⟨rfl, rfl⟩
    | loop b ih =>
      intro st e s' hc h
      have hbody : ∀ m, m ≤ n → ∀ s e2 s2, evN cx (m + 1) ords b s = some (e2, s2) → SW P b (fun e1 s1 => e1 = e2 ∧ s1 = s2) s := fun m hmn s e2 s2 h2 => by
        rcases Nat.lt_or_eq_of_le hmn with hlt | rfl
        · exact IH (m + 1) (by omega) ords b s e2 s2 hc h2
        · exact ih s e2 s2 hc h2
      refine qC (fun m s => m ≤ n + 1 ∧ evN cx m ords (.loop b) s = some (e, s')) (n + 1) ⟨Nat.le_refl _, h⟩ ?_
      rintro m s ⟨hmn, h2⟩
      cases m with
      | zero => cases h2
      | succ m =>
        have h2 : (fNats (keys s.fr []) fun ts => match evN cx (m + 1) ords b s with | some (.normal, st') => turnE ts st' fun st'' => evN cx m ords (.loop b) st'' | r => r) = some (e, s') := h2
        rw [fNats_eq] at h2
        split at h2
        · rename_i st1 hb
          obtain ⟨st2, h3, h4⟩ := turnE_ok h2
          exact (hbody m (by omega) s _ _ hb).mono fun e1 s1 ⟨q1, q2⟩ => by
            subst q1 q2
            exact ⟨m, st2, Nat.lt_succ_self m, h3, by omega, h4⟩
        · rename_i hne
          refine (hbody m (by omega) s _ _ h2).mono fun e1 s1 ⟨q1, q2⟩ => ?_
          subst q1 q2
          cases e1 with
          | normal => exact absurd h2 (hne s1)
          | _ => exact ⟨rfl, rfl⟩
    | exit id =>
      intro st e s' _ h
      obtain ⟨rfl, rfl⟩ := jA h
      exact qz ⟨rfl, rfl⟩
    | ret =>
      intro st e s' _ h
      obtain ⟨rfl, rfl⟩ := jA h
      exact sw_ret ⟨rfl, rfl⟩
    | label l =>
      intro st e s' _ h
      obtain ⟨rfl, rfl⟩ := jA h
      exact sw_label ⟨rfl, rfl⟩
    | rangeFunc _ _ _ _ _ _ => intro st e s' _ h; cases h
    | goto l =>
      intro st e s' _ h
      obtain ⟨rfl, rfl⟩ := jA h
      exact sw_goto ⟨rfl, rfl⟩
    | scope b ih =>
      intro st e s' hc h
      have h : (match evN cx (n + 1) ords b st with | some (.goto l, st') => turnE (keys st'.fr []) st' fun st'' => evJ cx n ords b l st'' | r => r) = some (e, s') := h
      split at h
      · rename_i l st1 hb
        obtain ⟨st2, h3, h4⟩ := turnE_ok h
        have hrest : ∃ rest, findLabel b l = some rest := by
          cases n with
          | zero => cases h4
          | succ n =>
            have h4 : jumpE (evN cx (n + 1) ords) (evJ cx n ords b l) b l st2 = some (e, s') := h4
            unfold jumpE at h4
            split at h4
            · rename_i rest hr; exact ⟨rest, hr⟩
            · cases h4
        obtain ⟨rest, hr⟩ := hrest
        refine sw_scope l (fun m s => m ≤ n ∧ evJ cx m ords b l s = some (e, s')) hr ((ih st _ _ hc hb).mono fun e1 s1 ⟨q1, q2⟩ => by subst q1 q2; exact ⟨rfl, n, st2, h3, Nat.le_refl _, h4⟩) ?_
        rintro m s ⟨hmn, h2⟩
        cases m with
        | zero => cases h2
        | succ m =>
          have h2 : jumpE (evN cx (m + 1) ords) (evJ cx m ords b l) b l s = some (e, s') := h2
          unfold jumpE at h2
          rw [hr] at h2
          simp only at h2
          split at h2
          · rename_i l' st3 hx
            cases hl : Nat.beq l' l with
            | false => rw [hl] at h2; cases h2
            | true =>
              rw [hl, cond_true] at h2
              have el : l' = l := Nat.eq_of_beq_eq_true hl
              subst el
              obtain ⟨st4, h5, h6⟩ := turnE_ok h2
              exact (IH (m + 1) (by omega) ords rest s _ _ (chkC_label (c := b) hc hr) hx).mono fun e1 s1 ⟨q1, q2⟩ => by
                subst q1 q2
                exact ⟨rfl, m, st4, Nat.lt_succ_self m, h5, by omega, h6⟩
          · rename_i hne
            refine (IH (m + 1) (by omega) ords rest s _ _ (chkC_label (c := b) hc hr) h2).mono fun e1 s1 ⟨q1, q2⟩ => ?_
            subst q1 q2
            cases e1 with
            | goto l' => exact absurd h2 (hne l' s1)
            | _ => exact ⟨rfl, rfl⟩
      · rename_i hne
        refine sw_scope0 ((ih st _ _ hc h).mono fun e1 s1 ⟨q1, q2⟩ => ?_)
        subst q1 q2
        refine ⟨⟨rfl, rfl⟩, fun l hl => ?_⟩
        subst hl
        exact hne l s1 h
    | refuse _ => intro st e s' _ h; cases h
noncomputable def evF1 (cx : Cx) (n : Nat) (f : FuncId) (args : List SV) (own : List (Nat × Box)) : Ret := match lkF f cx.F with
  | some fi => bif Nat.ble args.length fi.n then finR cx.T fi.ts (evN cx n fi.ords fi.c ⟨fi.n, jy 0 args, own⟩) else none
  | none => none
include hT hC hF hm in
theorem zu {n : Nat} {f : FuncId} {args : List SV} {own : List (Nat × Box)} {r : SV} {own' : List (Nat × Box)} (h : evF1 cx n f args own = some (r, own')) : zE P f args own r own' := by
  unfold evF1 at h
  rw [qT] at h
  split at h
  · rename_i fi hfi
    obtain ⟨fn, h1, h2, h3, h4, h5, h6, h7⟩ := hF f fi hfi
    cases hb : Nat.ble args.length fi.n with
    | false => rw [hb] at h; cases h
    | true =>
      rw [hb, cond_true] at h
      unfold finR at h
      have hn : args.length ≤ fn.ntmps ∧ fn.ntmps ≤ 900 := by rw [h5]; exact ⟨Nat.le_of_ble_eq_true hb, Nat.le_of_ble_eq_true h6⟩
      split at h
      · rename_i st' he
        exact holdsV_of hT h1 h2 h3 h4 hn (by rw [h5]; exact evN_ok hT hC hF hm n _ _ _ _ _ h7 he) (Or.inl rfl) h
      · rename_i st' he
        exact holdsV_of hT h1 h2 h3 h4 hn (by rw [h5]; exact evN_ok hT hC hF hm n _ _ _ _ _ h7 he) (Or.inr rfl) h
      · cases h
  · cases h
end
theorem baseOf_nil (w : World) (γ : Nat → Value) : jD w γ [] = entry w := by
  unfold jD entry
  congr 1
  · funext b; exact propext ⟨fun h => h.1, fun h => ⟨h, fun i bx hi => by cases hi⟩⟩
  · funext i; split <;> rfl
theorem Holds.ofW {P : Program} {f : FuncId} {args : List PV} {r : SV} {own' : List (Nat × Box)} (h : zE P f (args.map .p) [] r own') : Holds P f args r own' := by
  refine ⟨h.1, fun w Sx vs hSx hl hr => (h.2 w Sx (fun _ => .nilIface) vs (by rw [baseOf_nil]; exact heap_nil hSx _) (by simpa using hl) fun i s u hs hu => ?_).mono fun e w' he => ?_⟩
  · rw [List.getElem?_map] at hs
    obtain ⟨x, hx, rfl⟩ := Option.map_eq_some_iff.1 hs
    exact .p ((hr i x u hx hu).weak fun b _ hok => ⟨hok, fun i bx hi => by cases hi⟩)
  · obtain ⟨v, γ', r', o', ⟨rfl, rfl⟩, h1, h2, h3, h4⟩ := he
    rw [baseOf_nil] at h2 h3
    exact ⟨v, γ', h1, belowB_entry.1 h2, h3, h4⟩
def FnOk (P : Program) (f : FuncId) (fi : FnI) : Prop := ∃ fn, P.funcs[f]? = some fn ∧ (fn.name == "runtime.NumGoroutine") = false ∧ fn.body = some fi.c ∧ fn.results = fi.ts.toArray ∧ fn.ntmps = fi.n ∧ Nat.ble fi.n 900 = true ∧ chkC fi.ords fi.c = true
theorem fok_nil {P : Program} {T : TT} {C : FuncId → List PV → Option SV} : FOk P ⟨T, [], C⟩ := fun f fi h => by cases h
theorem qf {P : Program} {T : TT} {C : FuncId → List PV → Option SV} {F : List (FuncId × FnI)} {f : FuncId} {fi : FnI} (h : FnOk P f fi) (r : FOk P ⟨T, F, C⟩) : FOk P ⟨T, (f, fi) :: F, C⟩ := fun g gi hg => by
  have h2 : lk g ((f, fi) :: F) = some gi := hg
  clear hg
  rw [qv] at h2
  by_cases e : g = f
  · rw [if_pos e] at h2
    obtain rfl := Option.some.inj h2
    subst e; exact h
  · rw [if_neg e] at h2; exact r g gi h2
end Go.Proofs.YtlmgamnpfdgdeaaGreatDoor
namespace Go.Proofs.YtlmgamnpfdgdeaaGreatDoor
open Go.RowKit Go.Shelf
def laysItoa_ren : Go.Shelf.Ren := ⟨fun | 171 => 171 | 243 => 194 | 246 => 213 | 283 => 224 | 284 => 225 | 285 => 226 | 286 => 227 | 129 => 233 | 317 => 232 | 318 => 234 | 319 => 235 | 320 => 236 | 337 => 239 | 338 => 240 | n => n, fun | 3 => 3 | 9 => 9 | 2 => 2 | 4 => 4 | 171 => 306 | 0 => 0 | 53 => 293 | 37 => 218 | 5 => 5 | 173 => 309 | 212 => 318 | 51 => 319 | 20 => 20 | 213 => 320 | 46 => 279 | 232 => 327 | 233 => 328 | n => n, fun | 17 => 3 | 18 => 4 | 19 => 5 | n => n⟩
theorem laysItoa : Go.Proofs.LaysM.n171 Tryz.prog laysItoa_ren := {
  mixed := by kernel_rfl
  f129 := Tryz.func233.trans (congrArg some (by kernel_rfl))
  f171 := Tryz.func171.trans (congrArg some (by kernel_rfl))
  f243 := Tryz.func194.trans (congrArg some (by kernel_rfl))
  f246 := Tryz.func213.trans (congrArg some (by kernel_rfl))
  f283 := Tryz.func224.trans (congrArg some (by kernel_rfl))
  f284 := Tryz.func225.trans (congrArg some (by kernel_rfl))
  f285 := Tryz.func226.trans (congrArg some (by kernel_rfl))
  f286 := Tryz.func227.trans (congrArg some (by kernel_rfl))
  f317 := Tryz.func232.trans (congrArg some (by kernel_rfl))
  f318 := Tryz.func234.trans (congrArg some (by kernel_rfl))
  f319 := Tryz.func235.trans (congrArg some (by kernel_rfl))
  f320 := Tryz.func236.trans (congrArg some (by kernel_rfl))
  f337 := Tryz.func239.trans (congrArg some (by kernel_rfl))
  f338 := Tryz.func240.trans (congrArg some (by kernel_rfl))
  t0 := Tryz.underlying0
  a0 := Tryz.isAgg0
  z0 := Tryz.sizeOf0
  v0 := Tryz.zeroValue0
  t2 := Tryz.underlying2
  a2 := Tryz.isAgg2
  z2 := Tryz.sizeOf2
  v2 := Tryz.zeroValue2
  t3 := Tryz.underlying3
  a3 := Tryz.isAgg3
  z3 := Tryz.sizeOf3
  v3 := Tryz.zeroValue3
  t4 := Tryz.underlying4
  a4 := Tryz.isAgg4
  z4 := Tryz.sizeOf4
  v4 := Tryz.zeroValue4
  t5 := Tryz.underlying5
  a5 := Tryz.isAgg5
  z5 := Tryz.sizeOf5
  v5 := Tryz.zeroValue5
  t9 := Tryz.underlying9
  a9 := Tryz.isAgg9
  z9 := Tryz.sizeOf9
  v9 := Tryz.zeroValue9
  t20 := Tryz.underlying20
  a20 := Tryz.isAgg20
  z20 := Tryz.sizeOf20
  v20 := Tryz.zeroValue20
  t37 := Tryz.underlying218
  a37 := Tryz.isAgg218
  z37 := Tryz.sizeOf218
  v37 := Tryz.zeroValue218
  t46 := Tryz.underlying279
  a46 := Tryz.isAgg279
  z46 := Tryz.sizeOf279
  v46 := Tryz.zeroValue279
  t51 := Tryz.underlying319
  a51 := Tryz.isAgg319
  z51 := Tryz.sizeOf319
  v51 := Tryz.zeroValue319
  t53 := Tryz.underlying293
  a53 := Tryz.isAgg293
  z53 := Tryz.sizeOf293
  v53 := Tryz.zeroValue293
  t171 := Tryz.underlying306
  a171 := Tryz.isAgg306
  z171 := Tryz.sizeOf306
  v171 := Tryz.zeroValue306
  t173 := Tryz.underlying309
  a173 := Tryz.isAgg309
  z173 := Tryz.sizeOf309
  v173 := Tryz.zeroValue309
  t212 := Tryz.underlying318
  a212 := Tryz.isAgg318
  z212 := Tryz.sizeOf318
  v212 := Tryz.zeroValue318
  t213 := Tryz.underlying320
  a213 := Tryz.isAgg320
  z213 := Tryz.sizeOf320
  t232 := Tryz.underlying327
  a232 := Tryz.isAgg327
  z232 := Tryz.sizeOf327
  v232 := Tryz.zeroValue327
  t233 := Tryz.underlying328
  a233 := Tryz.isAgg328
  z233 := Tryz.sizeOf328
  v233 := Tryz.zeroValue328
  g17 := by kernel_rfl
  g18 := by kernel_rfl
  g19 := by kernel_rfl
  i0 := by kernel_rfl
  i2 := by kernel_rfl
  i3 := by kernel_rfl
  i4 := by kernel_rfl
  i5 := by kernel_rfl
  i9 := by kernel_rfl
  i20 := by kernel_rfl
  i37 := by kernel_rfl
  i46 := by kernel_rfl
  i51 := by kernel_rfl
  i53 := by kernel_rfl
  i171 := by kernel_rfl
  i173 := by kernel_rfl
  i212 := by kernel_rfl
  i232 := by kernel_rfl
  i233 := by kernel_rfl
  m17 := by kernel_rfl
  m18 := by kernel_rfl
  m19 := by kernel_rfl
}
def laysIdx_ren : Go.Shelf.Ren := ⟨fun | 137 => 144 | 217 => 184 | 266 => 202 | n => n, fun | 9 => 9 | 5 => 5 | 3 => 3 | n => n, fun | n => n⟩
theorem laysIdx : Go.Proofs.Lays.n137 Tryz.prog laysIdx_ren := {
  mixed := by kernel_rfl
  f137 := Tryz.func144.trans (congrArg some (by kernel_rfl))
  f217 := Tryz.func184.trans (congrArg some (by kernel_rfl))
  f266 := Tryz.func202.trans (congrArg some (by kernel_rfl))
  t3 := Tryz.underlying3
  a3 := Tryz.isAgg3
  z3 := Tryz.sizeOf3
  v3 := Tryz.zeroValue3
  t5 := Tryz.underlying5
  a5 := Tryz.isAgg5
  z5 := Tryz.sizeOf5
  v5 := Tryz.zeroValue5
  t9 := Tryz.underlying9
  a9 := Tryz.isAgg9
  z9 := Tryz.sizeOf9
  v9 := Tryz.zeroValue9
}
def laysAtoi_ren : Go.Shelf.Ren := ⟨fun | 172 => 181 | 244 => 199 | 245 => 200 | 247 => 215 | 279 => 216 | 280 => 217 | 281 => 218 | 282 => 219 | 287 => 228 | 316 => 229 | 171 => 171 | 205 => 230 | 321 => 237 | 322 => 238 | 243 => 194 | 246 => 213 | 283 => 224 | 284 => 225 | 285 => 226 | 286 => 227 | 129 => 233 | 317 => 232 | 318 => 234 | 319 => 235 | 320 => 236 | 337 => 239 | 338 => 240 | n => n, fun | 9 => 9 | 3 => 3 | 75 => 223 | 76 => 224 | 4 => 4 | 5 => 5 | 167 => 295 | 37 => 218 | 0 => 0 | 85 => 296 | 2 => 2 | 168 => 298 | 53 => 293 | 175 => 311 | 46 => 279 | 210 => 314 | 127 => 263 | 145 => 325 | 143 => 323 | 21 => 21 | 171 => 306 | 173 => 309 | 212 => 318 | 51 => 319 | 20 => 20 | 213 => 320 | 232 => 327 | 233 => 328 | 80 => 191 | n => n, fun | 15 => 1 | 16 => 2 | 17 => 3 | 18 => 4 | 19 => 5 | n => n⟩
theorem laysAtoi : Go.Proofs.LaysC.n172 Tryz.prog laysAtoi_ren := {
  mixed := by kernel_rfl
  f129 := Tryz.func233.trans (congrArg some (by kernel_rfl))
  f171 := Tryz.func171.trans (congrArg some (by kernel_rfl))
  f172 := Tryz.func181.trans (congrArg some (by kernel_rfl))
  f205 := Tryz.func230.trans (congrArg some (by kernel_rfl))
  f243 := Tryz.func194.trans (congrArg some (by kernel_rfl))
  f244 := Tryz.func199.trans (congrArg some (by kernel_rfl))
  f245 := Tryz.func200.trans (congrArg some (by kernel_rfl))
  f246 := Tryz.func213.trans (congrArg some (by kernel_rfl))
  f247 := Tryz.func215.trans (congrArg some (by kernel_rfl))
  f279 := Tryz.func216.trans (congrArg some (by kernel_rfl))
  f280 := Tryz.func217.trans (congrArg some (by kernel_rfl))
  f281 := Tryz.func218.trans (congrArg some (by kernel_rfl))
  f282 := Tryz.func219.trans (congrArg some (by kernel_rfl))
  f283 := Tryz.func224.trans (congrArg some (by kernel_rfl))
  f284 := Tryz.func225.trans (congrArg some (by kernel_rfl))
  f285 := Tryz.func226.trans (congrArg some (by kernel_rfl))
  f286 := Tryz.func227.trans (congrArg some (by kernel_rfl))
  f287 := Tryz.func228.trans (congrArg some (by kernel_rfl))
  f316 := Tryz.func229.trans (congrArg some (by kernel_rfl))
  f317 := Tryz.func232.trans (congrArg some (by kernel_rfl))
  f318 := Tryz.func234.trans (congrArg some (by kernel_rfl))
  f319 := Tryz.func235.trans (congrArg some (by kernel_rfl))
  f320 := Tryz.func236.trans (congrArg some (by kernel_rfl))
  f321 := Tryz.func237.trans (congrArg some (by kernel_rfl))
  f322 := Tryz.func238.trans (congrArg some (by kernel_rfl))
  f337 := Tryz.func239.trans (congrArg some (by kernel_rfl))
  f338 := Tryz.func240.trans (congrArg some (by kernel_rfl))
  t0 := Tryz.underlying0
  a0 := Tryz.isAgg0
  z0 := Tryz.sizeOf0
  v0 := Tryz.zeroValue0
  t2 := Tryz.underlying2
  a2 := Tryz.isAgg2
  z2 := Tryz.sizeOf2
  v2 := Tryz.zeroValue2
  t3 := Tryz.underlying3
  a3 := Tryz.isAgg3
  z3 := Tryz.sizeOf3
  v3 := Tryz.zeroValue3
  t4 := Tryz.underlying4
  a4 := Tryz.isAgg4
  z4 := Tryz.sizeOf4
  v4 := Tryz.zeroValue4
  t5 := Tryz.underlying5
  a5 := Tryz.isAgg5
  z5 := Tryz.sizeOf5
  v5 := Tryz.zeroValue5
  t9 := Tryz.underlying9
  a9 := Tryz.isAgg9
  z9 := Tryz.sizeOf9
  v9 := Tryz.zeroValue9
  t20 := Tryz.underlying20
  a20 := Tryz.isAgg20
  z20 := Tryz.sizeOf20
  v20 := Tryz.zeroValue20
  t21 := Tryz.underlying21
  a21 := Tryz.isAgg21
  z21 := Tryz.sizeOf21
  v21 := Tryz.zeroValue21
  t37 := Tryz.underlying218
  a37 := Tryz.isAgg218
  z37 := Tryz.sizeOf218
  v37 := Tryz.zeroValue218
  t46 := Tryz.underlying279
  a46 := Tryz.isAgg279
  z46 := Tryz.sizeOf279
  v46 := Tryz.zeroValue279
  t51 := Tryz.underlying319
  a51 := Tryz.isAgg319
  z51 := Tryz.sizeOf319
  v51 := Tryz.zeroValue319
  t53 := Tryz.underlying293
  a53 := Tryz.isAgg293
  z53 := Tryz.sizeOf293
  v53 := Tryz.zeroValue293
  t75 := Tryz.underlying223
  a75 := Tryz.isAgg223
  z75 := Tryz.sizeOf223
  v75 := Tryz.zeroValue223
  t76 := Tryz.underlying224
  a76 := Tryz.isAgg224
  z76 := Tryz.sizeOf224
  v76 := Tryz.zeroValue224
  t85 := Tryz.underlying296
  a85 := Tryz.isAgg296
  z85 := Tryz.sizeOf296
  v85 := Tryz.zeroValue296
  t127 := Tryz.underlying263
  a127 := Tryz.isAgg263
  z127 := Tryz.sizeOf263
  v127 := Tryz.zeroValue263
  t143 := Tryz.underlying323
  a143 := Tryz.isAgg323
  z143 := Tryz.sizeOf323
  v143 := Tryz.zeroValue323
  t145 := Tryz.underlying325
  a145 := Tryz.isAgg325
  z145 := Tryz.sizeOf325
  v145 := Tryz.zeroValue325
  t167 := Tryz.underlying295
  a167 := Tryz.isAgg295
  z167 := Tryz.sizeOf295
  v167 := Tryz.zeroValue295
  t168 := Tryz.underlying298
  a168 := Tryz.isAgg298
  z168 := Tryz.sizeOf298
  v168 := Tryz.zeroValue298
  t171 := Tryz.underlying306
  a171 := Tryz.isAgg306
  z171 := Tryz.sizeOf306
  v171 := Tryz.zeroValue306
  t173 := Tryz.underlying309
  a173 := Tryz.isAgg309
  z173 := Tryz.sizeOf309
  v173 := Tryz.zeroValue309
  t175 := Tryz.underlying311
  a175 := Tryz.isAgg311
  z175 := Tryz.sizeOf311
  v175 := Tryz.zeroValue311
  t210 := Tryz.underlying314
  a210 := Tryz.isAgg314
  z210 := Tryz.sizeOf314
  v210 := Tryz.zeroValue314
  t212 := Tryz.underlying318
  a212 := Tryz.isAgg318
  z212 := Tryz.sizeOf318
  v212 := Tryz.zeroValue318
  t213 := Tryz.underlying320
  a213 := Tryz.isAgg320
  z213 := Tryz.sizeOf320
  t232 := Tryz.underlying327
  a232 := Tryz.isAgg327
  z232 := Tryz.sizeOf327
  v232 := Tryz.zeroValue327
  t233 := Tryz.underlying328
  a233 := Tryz.isAgg328
  z233 := Tryz.sizeOf328
  v233 := Tryz.zeroValue328
  g15 := by kernel_rfl
  g16 := by kernel_rfl
  g17 := by kernel_rfl
  g18 := by kernel_rfl
  g19 := by kernel_rfl
  t80 := Tryz.underlying191
  a80 := Tryz.isAgg191
  z80 := Tryz.sizeOf191
  v80 := Tryz.zeroValue191
  i0 := by kernel_rfl
  i2 := by kernel_rfl
  i3 := by kernel_rfl
  i4 := by kernel_rfl
  i5 := by kernel_rfl
  i9 := by kernel_rfl
  i20 := by kernel_rfl
  i21 := by kernel_rfl
  i37 := by kernel_rfl
  i46 := by kernel_rfl
  i51 := by kernel_rfl
  i53 := by kernel_rfl
  i75 := by kernel_rfl
  i76 := by kernel_rfl
  i80 := by kernel_rfl
  i85 := by kernel_rfl
  i127 := by kernel_rfl
  i143 := by kernel_rfl
  i145 := by kernel_rfl
  i167 := by kernel_rfl
  i168 := by kernel_rfl
  i171 := by kernel_rfl
  i173 := by kernel_rfl
  i175 := by kernel_rfl
  i210 := by kernel_rfl
  i212 := by kernel_rfl
  i232 := by kernel_rfl
  i233 := by kernel_rfl
  m15 := by kernel_rfl
  m16 := by kernel_rfl
  m17 := by kernel_rfl
  m18 := by kernel_rfl
  m19 := by kernel_rfl
  c0 := by kernel_rfl
  c2 := by kernel_rfl
  c3 := by kernel_rfl
  c4 := by kernel_rfl
  c5 := by kernel_rfl
  c9 := by kernel_rfl
  c20 := by kernel_rfl
  c21 := by kernel_rfl
  c37 := by kernel_rfl
  c46 := by kernel_rfl
  c51 := by kernel_rfl
  c53 := by kernel_rfl
  c75 := by kernel_rfl
  c76 := by kernel_rfl
  c80 := by kernel_rfl
  c85 := by kernel_rfl
  c127 := by kernel_rfl
  c143 := by kernel_rfl
  c145 := by kernel_rfl
  c167 := by kernel_rfl
  c168 := by kernel_rfl
  c171 := by kernel_rfl
  c173 := by kernel_rfl
  c175 := by kernel_rfl
  c210 := by kernel_rfl
  c212 := by kernel_rfl
  c213 := by kernel_rfl
  c232 := by kernel_rfl
  c233 := by kernel_rfl
}
theorem decF_eq : ∀ (f u : Nat), u < 10 ^ f → 0 < f → decF f u = Lib.decDigits u
  | f + 1, u, h, _ => by
    rw [decF, Lib.decDigits]
    by_cases hu : u < 10
    · rw [show Nat.blt u 10 = true from by simpa [Nat.blt, Nat.lt_iff_add_one_le] using hu, dif_pos hu]; rfl
    · rw [show Nat.blt u 10 = false from by cases hb : Nat.blt u 10 with | false => rfl | true => exact absurd (by simpa [Nat.blt, Nat.lt_iff_add_one_le] using hb) hu, dif_neg hu, cond_false]
      have hf : 0 < f := by
        rcases Nat.eq_zero_or_pos f with h0 | h0
        · subst h0; exact absurd (by simpa using h) hu
        · exact h0
      rw [decF_eq f (u / 10) (by rw [Nat.pow_succ] at h; omega) hf]
theorem itoaF_eq (n : Int) (h : -9223372036854775808 ≤ n ∧ n ≤ 9223372036854775807) : itoaF n = Lib.itoa n := by
  unfold itoaF Lib.itoa
  cases n with
  | ofNat u =>
    have : u < 10 ^ 20 := by have := h.2; simp only [Int.ofNat_eq_natCast] at this; omega
    rw [if_neg (by simp)]
    exact decF_eq 20 u this (by decide)
  | negSucc u =>
    have : u + 1 < 10 ^ 20 := by have := h.1; simp only [Int.negSucc_eq] at this; omega
    rw [if_pos (Int.negSucc_lt_zero u)]
    exact congrArg _ (decF_eq 20 (u + 1) this (by decide))
theorem itoa_h (n : Int) (h : -9223372036854775808 ≤ n ∧ n ≤ 9223372036854775807) : Holds Tryz.prog 171 [.v (.int .i64 n)] (.p (.v (.string ⟨⟨itoaF n⟩⟩))) [] :=
  .of_callsG Tryz.func171 (by kernel_rfl) rfl (fun w vs hg hl hr => by
    have hv : ∃ u, vs = [u] := by
      match vs, hl with
      | [u], _ => exact ⟨u, rfl⟩
    obtain ⟨u, rfl⟩ := hv
    have h1 := zl (hr 0 _ u rfl rfl) rfl
    subst h1
    have htab : Lib.TabIs Tryz.prog w "internal/strconv.uint64pow10" .u64 Lib.pow10Tab := by
      obtain ⟨ty, m, hb⟩ := hg 3 _ rfl
      unfold Lib.TabIs World.var?
      rw [show Tryz.prog.globalNamed "internal/strconv.uint64pow10" = some 3 from by kernel_rfl]
      simp only [Option.bind_some, hb]
      rfl
    refine (Any.strconv_Itoa laysItoa n h.1 h.2 w htab).mono fun e w' ⟨h1, k, os, h2⟩ => ⟨?_, ?_⟩
    · rw [h1, ← itoaF_eq n h]; rfl
    · subst h2
      refine ⟨rfl, rfl, rfl, by simp [Sort.grow], fun b hb => ?_⟩
      show (_ ++ os)[b]? = _
      rw [Array.getElem?_append_left (by exact hb)]; rfl) rfl fun w => .p (.v rfl)
theorem indexByte_h (s : ByteArray) (c : Int) : Holds Tryz.prog 144 [.v (.string s), .v (.int .u8 c)] (.p (.v (.int .i64 (Lib.indexByte s.data.toList c.toNat.toUInt8)))) [] :=
  .of_callsG Tryz.func144 (by kernel_rfl) rfl (fun w vs hg hl hr => by
    have hv : ∃ u v, vs = [u, v] := by
      match vs, hl with
      | [u, v], _ => exact ⟨u, v, rfl⟩
    obtain ⟨u, v, rfl⟩ := hv
    have h1 := zl (hr 0 _ u rfl rfl) rfl
    have h2 := zl (hr 1 _ v rfl rfl) rfl
    subst h1 h2
    exact (Any.strings_IndexByte laysIdx s c w).mono fun e w' ⟨h1, h2⟩ => ⟨h1, h2 ▸ Below.refl _ _⟩) rfl fun w => .p (.v rfl)
theorem atoi_h (s : ByteArray) (hs : s.size ≤ 9223372036854775806) (v : Int) (h : Lib.atoiAll s.data.toList = .ok v) : Holds Tryz.prog 181 [.v (.string s)] (.tup [.p (.v (.int .i64 v)), .p (.v .nilIface)]) [] :=
  .of_callsG Tryz.func181 (by kernel_rfl) rfl (fun w vs hg hl hr => by
    have hv : ∃ u, vs = [u] := by
      match vs, hl with
      | [u], _ => exact ⟨u, rfl⟩
    obtain ⟨u, rfl⟩ := hv
    have h1 := zl (hr 0 _ u rfl rfl) rfl
    subst h1
    refine (Any.strconv_Atoi_ok laysAtoi s hs v h w).mono fun e w' ⟨h1, h2⟩ => ⟨h1, ?_⟩
    rcases h2 with rfl | ⟨t, rfl⟩
    · exact Below.refl _ _
    · exact Lib.bytesWorld_below _ _ _) rfl fun w => .tup (us := [.int .i64 v, .nilIface]) rfl fun i s u hs hu => by
      match i, hs, hu with
      | 0, hs, hu => cases hs; cases hu; exact .p (.v rfl)
      | 1, hs, hu => cases hs; cases hu; exact .p (.v rfl)
def ctab (f : FuncId) (ps : List PV) : Option SV := bif Nat.beq f 171 then (match ps with
  | [.v (.int .i64 n)] => bif ible (-9223372036854775808) n && ible n 9223372036854775807 then some (.p (.v (.string ⟨⟨itoaF n⟩⟩))) else none
  | _ => none)
  else bif Nat.beq f 144 then (match ps with
  | [.v (.string s), .v (.int .u8 c)] => some (.p (.v (.int .i64 (Lib.indexByte s.data.toList c.toNat.toUInt8))))
  | _ => none)
  else bif Nat.beq f 181 then (match ps with
  | [.v (.string s)] => bif Nat.ble s.size 9223372036854775806 then (match Lib.atoiAll s.data.toList with
    | .ok v => some (.tup [.p (.v (.int .i64 v)), .p (.v .nilIface)])
    | _ => none) else none
  | _ => none)
  else none
theorem zr (F : List (FuncId × FnI)) : TabOk Tryz.prog ⟨TTab, F, ctab⟩ := fun f ps r h0 => by
  have h : ctab f ps = some r := h0
  clear h0
  unfold ctab at h
  cases hf : Nat.beq f 171 with
  | false =>
    rw [hf, cond_false] at h
    cases hf : Nat.beq f 144 with
    | true =>
      rw [hf, cond_true] at h
      have e := Nat.eq_of_beq_eq_true hf
      subst e
      split at h
      · cases h; exact indexByte_h _ _
      · cases h
    | false =>
      rw [hf, cond_false] at h
      cases hf : Nat.beq f 181 with
      | true =>
        rw [hf, cond_true] at h
        have e := Nat.eq_of_beq_eq_true hf
        subst e
        split at h
        · rename_i s
          cases hb : Nat.ble s.size 9223372036854775806 with
          | false => rw [hb] at h; cases h
          | true =>
            rw [hb, cond_true] at h
            split at h
            · rename_i v hv
              cases h
              exact atoi_h s (Nat.le_of_ble_eq_true hb) v hv
            · cases h
        · cases h
      | false =>
        rw [hf, cond_false] at h
        cases h
  | true =>
    rw [hf, cond_true] at h
    have e := Nat.eq_of_beq_eq_true hf
    subst e
    split at h
    · rename_i n
      cases hb : (ible (-9223372036854775808) n && ible n 9223372036854775807) with
      | false => rw [hb] at h; cases h
      | true =>
        rw [hb, cond_true] at h
        cases h
        simp only [Bool.and_eq_true] at hb
        exact itoa_h n ⟨jC hb.1, jC hb.2⟩
    · cases h
end Go.Proofs.YtlmgamnpfdgdeaaGreatDoor
namespace Go.Proofs.YtlmgamnpfdgdeaaGreatDoor
set_option linter.unusedVariables false
set_option linter.unusedSimpArgs false
open Go.RowKit
set_option maxHeartbeats 4000000
def quoteB (s : ByteArray) : ByteArray := ⟨(quoteL s).toArray⟩
def textS (v : Val) : ByteArray :=
  if !v.right then ⟨#[]⟩
  else if v.kind = 1 then (if v.n = 1 then ⟨#[116, 114, 117, 101]⟩ else ⟨#[102, 97, 108, 115, 101]⟩)
  else if v.kind = 4 then ⟨#[64]⟩ ++ ⟨⟨itoaF v.n⟩⟩
  else if v.kind = 5 then ⟨#[35]⟩ ++ v.s
  else if v.kind = 3 then quoteB v.s
  else ⟨⟨itoaF v.n⟩⟩
theorem decF_len : ∀ f u : Nat, (decF f u).length ≤ f
  | 0, _ => Nat.le_refl _
  | f + 1, u => by
    rw [decF]
    cases Nat.blt u 10 with
    | true => simp
    | false =>
      have := decF_len f (u / 10)
      simp
      omega
theorem itoaF_len (n : Int) : (itoaF n).length ≤ 21 := by
  unfold itoaF
  cases n with
  | ofNat u => exact Nat.le_trans (decF_len 20 u) (by omega)
  | negSucc u =>
    have := decF_len 20 (u + 1)
    simp only [List.length_cons]
    omega
theorem quoted_h (s : ByteArray) (hs : s.size ≤ 1000000) : Holds Tryz.prog 172 [pS s] (.p (pS (quoteB s))) [] :=
  .of_calls Tryz.func172 (by kernel_rfl) rfl (fun w vs hl hr => by
    obtain ⟨u, rfl⟩ := one_arg hl
    have h := zl (hr 0 _ u rfl rfl) rfl
    subst h
    exact quoted_any s w hs) rfl fun w => .p (.v rfl)
theorem fmtBool1_h (b : Bool) : Holds Tryz.prog 193 [pB b] (.p (pS (if b then ⟨#[116, 114, 117, 101]⟩ else ⟨#[102, 97, 108, 115, 101]⟩))) [] := by
  cases b with
  | true =>
    rw [if_pos rfl]
    refine qo (ts := [2]) Tryz.func193 (by kernel_rfl) rfl rfl rfl ?_
    refine uA ?_
    refine uA ?_
    refine uC (fun h => ?_) (fun h => ?_)
    · refine uA ?_
      refine uQ ?_
      exact uF []
    · cases h
  | false =>
    rw [if_neg (by simp)]
    refine qo (ts := [2]) Tryz.func193 (by kernel_rfl) rfl rfl rfl ?_
    refine uA ?_
    refine uA ?_
    refine uC (fun h => ?_) (fun h => ?_)
    · cases h
    · refine qg ?_
      refine uA ?_
      refine uQ ?_
      exact uF []
theorem fmtBool_h (b : Bool) : Holds Tryz.prog 170 [pB b] (.p (pS (if b then ⟨#[116, 114, 117, 101]⟩ else ⟨#[102, 97, 108, 115, 101]⟩))) [] := by
  refine qo (ts := [2]) Tryz.func170 (by kernel_rfl) rfl rfl rfl ?_
  refine uA ?_
  refine uR ?_
  refine uK (fmtBool1_h b) ?_
  refine qd ?_
  refine uQ ?_
  exact uF []
theorem right_size {v : Val} (h : v.right = true) (hk : v.kind = 3) : v.s.size ≤ 64 := by
  unfold Val.right at h
  rw [if_neg (by omega), if_neg (by omega), if_pos hk] at h
  simp at h
  exact h.2
theorem text_h (v : Val) (hv : v.Fit) : Holds Tryz.prog 127 [.agg v.pv] (.p (pS (textS v))) [] := by
  have hvs := hv.s
  have hn := hv.n
  unfold reachBytes at hvs
  cases hr : v.right with
  | false =>
    have e : textS v = ⟨#[]⟩ := by unfold textS; rw [hr]; rfl
    rw [e]
    refine qo (ts := [2]) Tryz.func127 (by kernel_rfl) rfl rfl rfl ?_
    refine uA ?_
    refine uR ?_
    refine uK (jF v hv.s) ?_
    rw [hr]
    refine uS ?_
    refine qd ?_
    refine uC (fun hc => ?_) (fun hc => ?_)
    · refine uA ?_
      refine uQ ?_
      exact uF []
    · cases hc
  | true =>
    unfold textS
    rw [hr]
    simp only [Bool.not_true, Bool.false_eq_true, if_false]
    refine qo (ts := [2]) Tryz.func127 (by kernel_rfl) rfl rfl rfl ?_
    refine uA ?_
    refine uR ?_
    refine uK (jF v hv.s) ?_
    rw [hr]
    refine uS ?_
    refine qd ?_
    refine uC (fun hc => ?_) (fun hc => ?_)
    · cases hc
    refine qg ?_
    refine uA ?_
    refine uB ?_
    refine uA ?_
    refine uC (fun h1 => ?_) (fun h1 => ?_)
    · have e1 : v.kind = 1 := by simpa using h1
      rw [if_pos e1]
      refine uR ?_
      refine uK (fmtBool_h (v.n == 1)) ?_
      refine qd ?_
      refine uQ ?_
      have e2 : (if (v.n == 1) = true then (⟨#[116, 114, 117, 101]⟩ : ByteArray) else ⟨#[102, 97, 108, 115, 101]⟩) = if v.n = 1 then ⟨#[116, 114, 117, 101]⟩ else ⟨#[102, 97, 108, 115, 101]⟩ := by
        by_cases h : v.n = 1 <;> simp [h]
      rw [← e2]
      exact uF []
    · have n1 : ¬ v.kind = 1 := by simpa using h1
      rw [if_neg n1]
      refine uA ?_
      refine uC (fun h4 => ?_) (fun h4 => ?_)
      · have e1 : v.kind = 4 := by simpa using h4
        rw [if_pos e1]
        refine uR ?_
        refine uK (itoa_h v.n ⟨hn.1, hn.2⟩) ?_
        have hl : ((⟨⟨itoaF v.n⟩⟩ : ByteArray)).size ≤ 21 := itoaF_len v.n
        refine qh qa rfl rfl (by rw [show (⟨#[64]⟩ : ByteArray).size = 1 from rfl]; unfold IntKind.max; simp [IntKind.signed, IntKind.bits]; omega) rfl ?_
        refine uS ?_
        refine qd ?_
        refine uQ ?_
        exact uF []
      · have n4 : ¬ v.kind = 4 := by simpa using h4
        rw [if_neg n4]
        refine uA ?_
        refine uC (fun h5 => ?_) (fun h5 => ?_)
        · have e1 : v.kind = 5 := by simpa using h5
          rw [if_pos e1]
          refine uR ?_
          refine qh qa rfl rfl (by rw [show (⟨#[35]⟩ : ByteArray).size = 1 from rfl]; unfold IntKind.max; simp [IntKind.signed, IntKind.bits]; omega) rfl ?_
          refine uS ?_
          refine qd ?_
          refine uQ ?_
          exact uF []
        · have n5 : ¬ v.kind = 5 := by simpa using h5
          rw [if_neg n5]
          refine uA ?_
          refine uC (fun h3 => ?_) (fun h3 => ?_)
          · have e1 : v.kind = 3 := by simpa using h3
            rw [if_pos e1]
            have hq := right_size hr e1
            refine uR ?_
            refine uK (quoted_h v.s (by omega)) ?_
            refine qd ?_
            refine uQ ?_
            exact uF []
          · have n3 : ¬ v.kind = 3 := by simpa using h3
            rw [if_neg n3]
            refine qg ?_
            refine uR ?_
            refine uK (itoa_h v.n ⟨hn.1, hn.2⟩) ?_
            refine qd ?_
            refine uQ ?_
            exact uF []
end Go.Proofs.YtlmgamnpfdgdeaaGreatDoor
namespace Go.Proofs.YtlmgamnpfdgdeaaGreatDoor
set_option linter.unusedVariables false
set_option linter.unusedSimpArgs false
open Go.RowKit
def zH (l : List ByteArray) (n : Int) : ByteArray := l.getD (n - 1).toNat ⟨#[]⟩
def joinB (l : List ByteArray) (sep : ByteArray) : ByteArray := ⟨(Lib.join (l.map (·.data.toList)) sep.data.toList).toArray⟩
def catsB : List ByteArray := [⟨#[115, 117, 98, 106, 101, 99, 116]⟩, ⟨#[97, 99, 116, 105, 111, 110]⟩, ⟨#[99, 97, 115, 101]⟩, ⟨#[101, 110, 118]⟩]
def fnsB : List ByteArray := [⟨#[111, 110, 101]⟩, ⟨#[115, 105, 122, 101]⟩, ⟨#[104, 97, 115]⟩, ⟨#[101, 113]⟩, ⟨#[108, 101, 115, 115]⟩, ⟨#[97, 100, 100]⟩, ⟨#[115, 117, 98]⟩, ⟨#[109, 117, 108]⟩, ⟨#[110, 111, 116]⟩, ⟨#[97, 110, 100]⟩, ⟨#[111, 114]⟩]
def opsB : List ByteArray := [⟨#[61]⟩, ⟨#[60]⟩, ⟨#[62]⟩]
def onsB : List ByteArray := [⟨#[112, 101, 114, 109, 105, 116]⟩, ⟨#[100, 101, 110, 121]⟩]
def kindsB : List ByteArray := [⟨#[108, 111, 103]⟩, ⟨#[114, 101, 100, 97, 99, 116]⟩, ⟨#[114, 101, 118, 105, 101, 119]⟩, ⟨#[110, 111, 116, 105, 102, 121]⟩]
def algsB : List ByteArray := [⟨#[100, 101, 110, 121, 111, 118, 101, 114]⟩, ⟨#[112, 101, 114, 109, 105, 116, 111, 118, 101, 114]⟩, ⟨#[102, 105, 114, 115, 116]⟩, ⟨#[111, 110, 108, 121]⟩, ⟨#[100, 101, 110, 121, 117, 110, 108, 101, 115, 115]⟩, ⟨#[112, 101, 114, 109, 105, 116, 117, 110, 108, 101, 115, 115]⟩]
def attrB (a : Atr) : ByteArray := if a.must then zH catsB a.cat ++ ⟨#[46]⟩ ++ a.name ++ ⟨#[33]⟩ else zH catsB a.cat ++ ⟨#[46]⟩ ++ a.name
def matB (m : Mat) : ByteArray := attrB m.attr ++ ⟨#[32]⟩ ++ zH opsB m.op ++ ⟨#[32]⟩ ++ textS m.val
def allB (l : List Mat) : ByteArray := joinB (l.map matB) ⟨#[44, 32]⟩
def anyB (x : List (List Mat)) : ByteArray := ⟨#[40]⟩ ++ joinB (x.map allB) ⟨#[32, 111, 114, 32]⟩ ++ ⟨#[41]⟩
def zU (t : Tar) : ByteArray := if t = [] then ⟨#[]⟩ else ⟨#[32, 119, 104, 101, 110, 32]⟩ ++ joinB (t.map anyB) ⟨#[32, 97, 110, 100, 32]⟩
def dutyB (o : Obli) : ByteArray := ⟨#[32, 111, 110, 32]⟩ ++ zH onsB o.on ++ ⟨#[32]⟩ ++ zH kindsB o.kind ++ ⟨#[32]⟩ ++ o.arg
def catB {α : Type} (f : α → ByteArray) (s : ByteArray) (l : List α) : ByteArray := l.foldl (fun s x => s ++ f x) s
def wy (l : List Obli) : ByteArray := catB dutyB ⟨#[]⟩ l
def manyF (op : Int) : Nat := if op = 3 ∨ op = 4 ∨ op = 11 then 1 else 2
def stB (st : List ByteArray) (n : Nod) : List ByteArray :=
  if n.op = 1 then st ++ [textS n.val] else if n.op = 2 then st ++ [attrB n.attr]
  else st.take (st.length - manyF n.op) ++ [⟨#[40]⟩ ++ zH fnsB (n.op - 3 + 1) ++ ⟨#[32]⟩ ++ joinB (st.drop (st.length - manyF n.op)) ⟨#[32]⟩ ++ ⟨#[41]⟩]
def exprB (l : List Nod) : ByteArray := (l.foldl stB []).getD 0 ⟨#[]⟩
def ruleB (r : Rul) : ByteArray :=
  let s := (if r.deny then ⟨#[32, 100, 101, 110, 121, 32]⟩ else ⟨#[32, 112, 101, 114, 109, 105, 116, 32]⟩) ++ (r.id ++ zU r.target)
  (if r.cond = [] then s else s ++ (⟨#[32, 105, 102, 32]⟩ ++ exprB r.cond)) ++ wy r.obls ++ ⟨#[59]⟩
def polB : Nat → Pol → ByteArray
  | 0, _ => ⟨#[]⟩
  | n + 1, p =>
    catB (fun k => ⟨#[32]⟩ ++ polB n k) (catB ruleB ((if p.set then ⟨#[115, 101, 116, 32]⟩ else ⟨#[112, 111, 108, 105, 99, 121, 32]⟩) ++ (p.id ++ ⟨#[32]⟩ ++ zH algsB p.alg ++ zU p.target ++ ⟨#[32, 123]⟩)) p.rules) p.kids ++ ⟨#[32, 125]⟩ ++ wy p.obls
def Inf (n s : ByteArray) : Prop := ∃ a b : ByteArray, s = a ++ n ++ b
theorem wN {n s : ByteArray} (h : Inf n s) (t : ByteArray) : Inf n (s ++ t) := by
  obtain ⟨a, b, rfl⟩ := h
  exact ⟨a, b ++ t, by simp [ByteArray.append_assoc]⟩
theorem inf_r {n s : ByteArray} (h : Inf n s) (t : ByteArray) : Inf n (t ++ s) := by
  obtain ⟨a, b, rfl⟩ := h
  exact ⟨t ++ a, b, by simp [ByteArray.append_assoc]⟩
theorem inf_self (n : ByteArray) : Inf n n := ⟨⟨#[]⟩, ⟨#[]⟩, by
  apply ByteArray.ext
  simp⟩
theorem inf_cat {α : Type} {f : α → ByteArray} {n : ByteArray} : ∀ (l : List α) (s : ByteArray), Inf n s ∨ (∃ x ∈ l, Inf n (f x)) → Inf n (catB f s l)
  | [], s, h => by
    rcases h with h | ⟨x, hx, _⟩
    · exact h
    · cases hx
  | y :: l, s, h => by
    show Inf n (catB f (s ++ f y) l)
    refine inf_cat l _ ?_
    rcases h with h | ⟨x, hx, h⟩
    · exact .inl (wN h _)
    · rcases List.mem_cons.1 hx with rfl | hx
      · exact .inl (inf_r h _)
      · exact .inr ⟨x, hx, h⟩
theorem toL_app (a b : ByteArray) : (a ++ b).data.toList = a.data.toList ++ b.data.toList := by
  rw [ByteArray.data_append]; simp
theorem of_list {s : ByteArray} {l : List UInt8} (h : s.data.toList = l) : s = ⟨⟨l⟩⟩ := by
  obtain ⟨⟨s⟩⟩ := s
  cases h; rfl
theorem inf_list {n s : ByteArray} (a b : List UInt8) (h : s.data.toList = a ++ n.data.toList ++ b) : Inf n s := by
  refine ⟨⟨⟨a⟩⟩, ⟨⟨b⟩⟩, ?_⟩
  rw [of_list h]
  refine (of_list ?_).symm
  rw [toL_app, toL_app]
theorem inf_to {n s : ByteArray} (h : Inf n s) : ∃ a b : List UInt8, s.data.toList = a ++ n.data.toList ++ b := by
  obtain ⟨a, b, rfl⟩ := h
  exact ⟨a.data.toList, b.data.toList, by rw [toL_app, toL_app]⟩
theorem join_in {sep : List UInt8} : ∀ {l : List (List UInt8)} {x : List UInt8}, x ∈ l → ∃ a b, Lib.join l sep = a ++ x ++ b
  | y :: l, x, h => by
    rw [Lib.join_cons]
    rcases List.mem_cons.1 h with rfl | h
    · exact ⟨[], Lib.joinTail sep l, by simp⟩
    · obtain ⟨p, q, rfl⟩ := List.append_of_mem h
      refine ⟨y ++ Lib.joinTail sep p ++ sep, Lib.joinTail sep q, ?_⟩
      simp [Lib.joinTail]
theorem inf_join {n x : ByteArray} {l : List ByteArray} (h : x ∈ l) (hn : Inf n x) (sep : ByteArray) : Inf n (joinB l sep) := by
  obtain ⟨a, b, e⟩ := inf_to hn
  obtain ⟨p, q, e2⟩ := join_in (sep := sep.data.toList) (List.mem_map.2 ⟨x, h, rfl⟩ : x.data.toList ∈ l.map (·.data.toList))
  refine inf_list (p ++ a) (b ++ q) ?_
  show (Lib.join (l.map (·.data.toList)) sep.data.toList).toArray.toList = _
  rw [show (Lib.join (l.map (·.data.toList)) sep.data.toList).toArray.toList = Lib.join (l.map (·.data.toList)) sep.data.toList by simp, e2, e]
  simp
theorem joinL_len {sep : List UInt8} {c : Nat} : ∀ {l : List (List UInt8)}, (∀ x ∈ l, x.length ≤ c) → (Lib.join l sep).length ≤ l.length * (c + sep.length)
  | [], _ => by rw [Lib.join_nil]; simp
  | y :: l, h => by
    rw [Lib.join_cons, List.length_append, List.length_cons, Nat.succ_mul]
    have h1 := h y (by simp)
    have h2 : (Lib.joinTail sep l).length ≤ l.length * (c + sep.length) := by
      have hl : ∀ x ∈ l, x.length ≤ c := fun x hx => h x (by simp [hx])
      clear h h1
      unfold Lib.joinTail
      induction l with
      | nil => simp
      | cons z l ih =>
        rw [List.map_cons, List.flatten_cons, List.length_append, List.length_append, List.length_cons, Nat.succ_mul]
        have := hl z (by simp)
        have := ih fun x hx => hl x (by simp [hx])
        omega
    omega
theorem joinB_size {sep : ByteArray} {c : Nat} {l : List ByteArray} (h : ∀ x ∈ l, x.size ≤ c) : (joinB l sep).size ≤ l.length * (c + sep.size) := by
  have := joinL_len (sep := sep.data.toList) (c := c) (l := l.map (·.data.toList)) fun x hx => by
    obtain ⟨y, hy, rfl⟩ := List.mem_map.1 hx
    exact h y hy
  rw [List.length_map] at this
  exact this
theorem catB_size {α : Type} {f : α → ByteArray} {c : Nat} : ∀ {l : List α} {s : ByteArray}, (∀ x ∈ l, (f x).size ≤ c) → (catB f s l).size ≤ s.size + l.length * c
  | [], s, _ => by simp [catB]
  | y :: l, s, h => by
    have := catB_size (l := l) (s := s ++ f y) fun x hx => h x (by simp [hx])
    have h1 := h y (by simp)
    show (catB f (s ++ f y) l).size ≤ _
    rw [ByteArray.size_append] at this
    rw [List.length_cons, Nat.succ_mul]
    omega
end Go.Proofs.YtlmgamnpfdgdeaaGreatDoor
namespace Go.Proofs.YtlmgamnpfdgdeaaGreatDoor
set_option linter.unusedVariables false
set_option linter.unusedSimpArgs false
open Go.RowKit
theorem ruleS_ok {m : List ByteArray} {n : Int} {r : Rul} : (wg ⟨m, n⟩ r).1 = 0 ↔ jT m r.id = true ∧ n + 1 ≤ 64 ∧ ruleE r = 0 := by
  unfold wg
  split
  · rename_i h
    simp only
    split
    · constructor
      · intro h; cases h
      · intro h; omega
    · exact ⟨fun h1 => ⟨h, by omega, h1⟩, fun h1 => h1.2.2⟩
  · rename_i h
    exact ⟨fun h => (by cases h), fun h1 => absurd h1.1 h⟩
end Go.Proofs.YtlmgamnpfdgdeaaGreatDoor
namespace Go.Proofs.YtlmgamnpfdgdeaaGreatDoor
set_option linter.unusedVariables false
set_option linter.unusedSimpArgs false
open Go.RowKit
theorem nameS_sz {s : ByteArray} (h : wC s = true) : s.size ≤ 16 := by
  unfold wC at h
  simp only [Bool.and_eq_true, decide_eq_true_eq] at h
  exact h.2
theorem right_tx {v : Val} (h : v.right = true) (hk : v.kind = 3 ∨ v.kind = 5) : v.s.size ≤ 64 := by
  unfold Val.right at h
  rcases hk with hk | hk
  · rw [if_neg (by omega), if_neg (by omega), if_pos hk] at h
    simp only [Bool.and_eq_true, decide_eq_true_eq] at h
    exact h.2
  · rw [if_neg (by omega), if_neg (by omega), if_neg (by omega), if_neg (by omega), if_pos hk] at h
    simp only [Bool.and_eq_true, decide_eq_true_eq] at h
    have := nameS_sz h.2
    omega
theorem qB_flat : ∀ l : List UInt8, (l.flatMap qB).length ≤ 3 * l.length
  | [] => by simp
  | c :: l => by
    have := qB_flat l
    have h1 : (qB c).length ≤ 3 := by unfold qB; split <;> simp
    rw [List.flatMap_cons, List.length_append, List.length_cons]; omega
theorem quote_size (s : ByteArray) : (quoteB s).size ≤ 3 * s.size + 2 := by
  have h := qB_flat s.data.toList
  have e : (quoteB s).size = (quoteL s).length := List.size_toArray
  have e2 : s.size = s.data.toList.length := rfl
  rw [e, e2]
  unfold quoteL
  simp only [List.length_cons, List.length_append, List.length_nil]
  omega
theorem itoa_size (n : Int) : (⟨⟨itoaF n⟩⟩ : ByteArray).size ≤ 21 := itoaF_len n
theorem textS_size (v : Val) : (textS v).size ≤ 200 := by
  unfold textS
  by_cases h : v.right = true
  · rw [h]
    rw [if_neg (by simp)]
    split
    · split <;> decide
    · split
      · rw [ByteArray.size_append]
        have := itoa_size v.n
        have : (⟨#[64]⟩ : ByteArray).size = 1 := rfl
        omega
      · split
        · rename_i h5
          have := right_tx h (.inr h5)
          rw [ByteArray.size_append]
          have : (⟨#[35]⟩ : ByteArray).size = 1 := rfl
          omega
        · split
          · rename_i h3
            have := right_tx h (.inl h3)
            have := quote_size v.s
            omega
          · have := itoa_size v.n
            omega
  · rw [if_pos (by simpa using h)]; decide
theorem jM {l : List ByteArray} {c : Nat} (h : ∀ x ∈ l, x.size ≤ c) (n : Int) : (zH l n).size ≤ c := by
  unfold zH
  rw [List.getD_eq_getElem?_getD]
  cases e : l[(n - 1).toNat]? with
  | none => exact Nat.zero_le _
  | some x => exact h x (List.mem_of_getElem? e)
theorem cats_size : ∀ n, (zH catsB n).size ≤ 7 := jM (by decide)
theorem fns_size : ∀ n, (zH fnsB n).size ≤ 4 := jM (by decide)
theorem ops_size : ∀ n, (zH opsB n).size ≤ 1 := jM (by decide)
theorem ons_size : ∀ n, (zH onsB n).size ≤ 6 := jM (by decide)
theorem kinds_size : ∀ n, (zH kindsB n).size ≤ 6 := jM (by decide)
theorem algs_size : ∀ n, (zH algsB n).size ≤ 12 := jM (by decide)
theorem qp (a : UInt8) : (⟨#[a]⟩ : ByteArray).size = 1 := rfl
theorem attrS_name {a : Atr} (h : attrS a = true) : 1 ≤ a.cat ∧ a.cat ≤ 4 ∧ a.name.size ≤ 16 := by
  unfold attrS at h
  simp only [Bool.and_eq_true, decide_eq_true_eq] at h
  exact ⟨h.1.1, h.1.2, nameS_sz h.2⟩
theorem attrB_size {a : Atr} (h : attrS a = true) : (attrB a).size ≤ 25 := by
  have h1 := (attrS_name h).2.2
  have h2 := cats_size a.cat
  unfold attrB
  split <;> (simp only [ByteArray.size_append, qp]; omega)
theorem matB_size {m : Mat} (h : attrS m.attr = true) : (matB m).size ≤ 228 := by
  have h1 := attrB_size h
  have h2 := ops_size m.op
  have h3 := textS_size m.val
  unfold matB
  simp only [ByteArray.size_append, qp]
  omega
theorem jW {α : Type} {f : α → Int} : ∀ {l : List α}, wa f l = 0 → ∀ x ∈ l, f x = 0
  | y :: l, h, x, hx => by
    rw [wa] at h
    split at h
    · rename_i h0
      rcases List.mem_cons.1 hx with rfl | hx
      · exact h0
      · exact jW h x hx
    · rename_i h0; exact absurd h h0
theorem manyS_le {n : Nat} (h : manyS n = 0) : n ≤ 8 := by
  unfold manyS at h
  split at h
  · cases h
  · split at h
    · cases h
    · omega
theorem allOf_ok {l : List Mat} (h : allOfS l = 0) : l.length ≤ 8 ∧ ∀ m ∈ l, matchS m = true := by
  unfold allOfS at h
  split at h
  · rename_i h0
    exact ⟨manyS_le h0, fun m hm => by
      have := jW h m hm
      unfold okE at this
      split at this
      · assumption
      · cases this⟩
  · rename_i h0; exact absurd h h0
theorem anyOf_ok {x : List (List Mat)} (h : anyOfS x = 0) : x.length ≤ 8 ∧ ∀ l ∈ x, allOfS l = 0 := by
  unfold anyOfS at h
  split at h
  · rename_i h0; exact ⟨manyS_le h0, jW h⟩
  · rename_i h0; exact absurd h h0
theorem target_ok {t : Tar} (h : zf t = 0) : t.length ≤ 8 ∧ ∀ x ∈ t, anyOfS x = 0 := by
  unfold zf at h
  split at h
  · cases h
  · exact ⟨by omega, jW h⟩
theorem match_ok {m : Mat} (h : matchS m = true) : attrS m.attr = true ∧ 1 ≤ m.op ∧ m.op ≤ 3 ∧ m.val.right = true := by
  unfold matchS at h
  simp only [Bool.and_eq_true, decide_eq_true_eq] at h
  exact ⟨h.1.1.1, h.1.1.2, h.1.2, h.2⟩
theorem obls_ok {l : List Obli} (h : oblsS l = 0) : l.length ≤ 8 ∧ ∀ o ∈ l, oblS o = true := by
  unfold oblsS at h
  split at h
  · cases h
  · exact ⟨by omega, fun o ho => by
      have := jW h o ho
      unfold okE at this
      split at this
      · assumption
      · cases this⟩
theorem obl_ok {o : Obli} (h : oblS o = true) : 1 ≤ o.on ∧ o.on ≤ 2 ∧ 1 ≤ o.kind ∧ o.kind ≤ 4 ∧ o.arg.size ≤ 16 := by
  unfold oblS at h
  simp only [Bool.and_eq_true, decide_eq_true_eq] at h
  exact ⟨h.1.1.1.1, h.1.1.1.2, h.1.1.2, h.1.2, nameS_sz h.2⟩
theorem allB_size {l : List Mat} (h : allOfS l = 0) : (allB l).size ≤ 1840 := by
  obtain ⟨h1, h2⟩ := allOf_ok h
  have h3 := joinB_size (sep := ⟨#[44, 32]⟩) (c := 228) (l := l.map matB) fun x hx => by
    obtain ⟨m, hm, rfl⟩ := List.mem_map.1 hx
    exact matB_size (match_ok (h2 m hm)).1
  have h4 : (⟨#[44, 32]⟩ : ByteArray).size = 2 := rfl
  rw [List.length_map, h4] at h3
  have : l.length * (228 + 2) ≤ 8 * 230 := Nat.mul_le_mul_right 230 h1
  unfold allB; omega
theorem anyB_size {x : List (List Mat)} (h : anyOfS x = 0) : (anyB x).size ≤ 14754 := by
  obtain ⟨h1, h2⟩ := anyOf_ok h
  have h3 := joinB_size (sep := ⟨#[32, 111, 114, 32]⟩) (c := 1840) (l := x.map allB) fun y hy => by
    obtain ⟨m, hm, rfl⟩ := List.mem_map.1 hy
    exact allB_size (h2 m hm)
  have h4 : (⟨#[32, 111, 114, 32]⟩ : ByteArray).size = 4 := rfl
  rw [List.length_map, h4] at h3
  have : x.length * (1840 + 4) ≤ 8 * 1844 := Nat.mul_le_mul_right 1844 h1
  unfold anyB
  simp only [ByteArray.size_append, qp]
  omega
theorem targetJ_size {t : Tar} (h : zf t = 0) : (joinB (t.map anyB) ⟨#[32, 97, 110, 100, 32]⟩).size ≤ 118072 := by
  obtain ⟨h1, h2⟩ := target_ok h
  have h3 := joinB_size (sep := ⟨#[32, 97, 110, 100, 32]⟩) (c := 14754) (l := t.map anyB) fun y hy => by
    obtain ⟨m, hm, rfl⟩ := List.mem_map.1 hy
    exact anyB_size (h2 m hm)
  have h4 : (⟨#[32, 97, 110, 100, 32]⟩ : ByteArray).size = 5 := rfl
  rw [List.length_map, h4] at h3
  have : t.length * (14754 + 5) ≤ 8 * 14759 := Nat.mul_le_mul_right 14759 h1
  omega
theorem ww {t : Tar} (h : zf t = 0) : (zU t).size ≤ 118078 := by
  have := targetJ_size h
  unfold zU
  split
  · exact Nat.zero_le _
  · rw [ByteArray.size_append]
    have : (⟨#[32, 119, 104, 101, 110, 32]⟩ : ByteArray).size = 6 := rfl
    omega
theorem dutyB_size {o : Obli} (h : oblS o = true) : (dutyB o).size ≤ 34 := by
  have h1 := (obl_ok h).2.2.2.2
  have h2 := ons_size o.on
  have h3 := kinds_size o.kind
  have h4 : (⟨#[32, 111, 110, 32]⟩ : ByteArray).size = 4 := rfl
  unfold dutyB
  simp only [ByteArray.size_append, qp, h4]
  omega
theorem wm {l : List Obli} (h : oblsS l = 0) : (wy l).size ≤ 272 := by
  obtain ⟨h1, h2⟩ := obls_ok h
  have h3 := catB_size (f := dutyB) (s := ⟨#[]⟩) (c := 34) fun o ho => dutyB_size (h2 o ho)
  have : l.length * 34 ≤ 8 * 34 := Nat.mul_le_mul_right 34 h1
  have h5 : (⟨#[]⟩ : ByteArray).size = 0 := rfl
  unfold wy; omega
theorem step_ok {l l' : List Bool} {n : Nod} (h : zX l n = some l') : wZ n = true ∧ 1 ≤ n.op ∧ n.op ≤ 13 ∧ qL n.op ≤ l.length ∧ l'.length = l.length - qL n.op + 1 := by
  unfold zX at h
  split at h
  · cases h
  · rename_i w hw
    split at h
    · rename_i hc
      cases h
      have h1 := jQ hw
      refine ⟨hc.1, ?_, ?_, by omega, by simp; omega⟩
      all_goals
        unfold zJ at hw
        repeat' split at hw
        all_goals first | omega | cases hw
    · cases h
theorem many_of {op : Int} (h1 : op ≠ 1) (h2 : op ≠ 2) : qL op = manyF op := by
  unfold qL manyF
  rw [if_neg (by omega)]
def inS (n : ByteArray) (st : List ByteArray) : Prop := ∃ x ∈ st, Inf n x
theorem stB_len {st : List ByteArray} {n : Nod} {l l' : List Bool} (hl : st.length = l.length) (h : zX l n = some l') : (stB st n).length = l'.length := by
  obtain ⟨_, h1, h2, h3, h4⟩ := step_ok h
  unfold stB
  by_cases e1 : n.op = 1
  · have : qL n.op = 0 := by unfold qL; rw [if_pos (.inl e1)]
    rw [if_pos e1, List.length_append]
    simp; omega
  rw [if_neg e1]
  by_cases e2 : n.op = 2
  · have : qL n.op = 0 := by unfold qL; rw [if_pos (.inr e2)]
    rw [if_pos e2, List.length_append]
    simp; omega
  rw [if_neg e2, ← many_of e1 e2]
  simp; omega
theorem stB_in {st : List ByteArray} {n : Nod} {x : ByteArray} (h : inS x st) : inS x (stB st n) := by
  obtain ⟨y, hy, hi⟩ := h
  unfold stB
  split
  · exact ⟨y, List.mem_append_left _ hy, hi⟩
  split
  · exact ⟨y, List.mem_append_left _ hy, hi⟩
  rw [← List.take_append_drop (st.length - manyF n.op) st, List.mem_append] at hy
  rcases hy with hy | hy
  · exact ⟨y, List.mem_append_left _ hy, hi⟩
  · exact ⟨_, List.mem_append_right _ (List.mem_singleton.2 rfl), wN (inf_r (inf_join hy hi _) _) _⟩
theorem foldB_in {x : ByteArray} : ∀ {l : List Nod} {st : List ByteArray}, inS x st ∨ (∃ n ∈ l, n.op = 2 ∧ Inf x (attrB n.attr)) → inS x (l.foldl stB st)
  | [], st, h => by
    rcases h with h | ⟨n, hn, _⟩
    · exact h
    · cases hn
  | y :: l, st, h => by
    rw [List.foldl_cons]
    refine foldB_in ?_
    rcases h with h | ⟨n, hn, h2, hi⟩
    · exact .inl (stB_in h)
    · rcases List.mem_cons.1 hn with rfl | hn
      · refine .inl ⟨attrB n.attr, ?_, hi⟩
        unfold stB
        rw [if_neg (by omega), if_pos h2]
        simp
      · exact .inr ⟨n, hn, h2, hi⟩
theorem foldB_len : ∀ {r : List Nod} {s : List ByteArray} {l l' : List Bool}, s.length = l.length → zi l r = some l' → (r.foldl stB s).length = l'.length
  | [], s, l, l', hl, h => by cases h; exact hl
  | n :: r, s, l, l', hl, h => by
    rw [zi] at h
    cases hs : zX l n with
    | none => rw [hs] at h; cases h
    | some m =>
      rw [hs] at h
      rw [List.foldl_cons]
      exact foldB_len (stB_len hl hs) h
def cK (k : Nat) : Nat := 2 ^ (k + 8) - 9
theorem cK_succ (k : Nat) : 2 * cK k + 9 ≤ cK (k + 1) := by
  unfold cK
  have h1 : 2 ^ (k + 1 + 8) = 2 * 2 ^ (k + 8) := by rw [show k + 1 + 8 = (k + 8) + 1 from by omega, Nat.pow_succ]; omega
  have h2 : 2 ^ 8 ≤ 2 ^ (k + 8) := Nat.pow_le_pow_right (by omega) (by omega)
  omega
theorem cK_le (k : Nat) : 247 ≤ cK k := by
  unfold cK
  have h2 : 2 ^ 8 ≤ 2 ^ (k + 8) := Nat.pow_le_pow_right (by omega) (by omega)
  omega
theorem cK_max {k : Nat} (h : k ≤ 32) : cK k ≤ 1099511627776 := by
  unfold cK
  have h2 : 2 ^ (k + 8) ≤ 2 ^ 40 := Nat.pow_le_pow_right (by omega) (by omega)
  have : (2 : Nat) ^ 40 = 1099511627776 := by decide
  omega
theorem drop_size {st : List ByteArray} {k : Nat} {m : Nat} (hm : m ≤ 2) (h : ∀ x ∈ st, x.size ≤ cK k) : (joinB (st.drop (st.length - m)) ⟨#[32]⟩).size ≤ 2 * (cK k + 1) := by
  have h3 := joinB_size (sep := ⟨#[32]⟩) (c := cK k) (l := st.drop (st.length - m)) fun y hy => h y (List.mem_of_mem_drop hy)
  have h1 : (st.drop (st.length - m)).length ≤ 2 := by rw [List.length_drop]; omega
  have h4 : (⟨#[32]⟩ : ByteArray).size = 1 := rfl
  rw [h4] at h3
  exact Nat.le_trans h3 (Nat.mul_le_mul_right _ h1)
theorem manyF_le (op : Int) : manyF op ≤ 2 := by unfold manyF; split <;> omega
theorem stB_size {st : List ByteArray} {n : Nod} {k : Nat} (h : ∀ x ∈ st, x.size ≤ cK k) (ha : n.op = 2 → attrS n.attr = true) : ∀ x ∈ stB st n, x.size ≤ cK (k + 1) := by
  have hs := cK_succ k
  have hk := cK_le k
  intro x hx
  unfold stB at hx
  split at hx
  · rcases List.mem_append.1 hx with hx | hx
    · have := h x hx; omega
    · rw [List.mem_singleton] at hx
      have := textS_size n.val
      rw [hx]; omega
  split at hx
  · rename_i h2
    rcases List.mem_append.1 hx with hx | hx
    · have := h x hx; omega
    · rw [List.mem_singleton] at hx
      have := attrB_size (ha h2)
      rw [hx]; omega
  · rcases List.mem_append.1 hx with hx | hx
    · have := h x (List.mem_of_mem_take hx); omega
    · rw [List.mem_singleton] at hx
      have h1 := drop_size (manyF_le n.op) h
      have h2 := fns_size (n.op - 3 + 1)
      rw [hx]
      simp only [ByteArray.size_append, qp]
      omega
theorem foldB_size {l : List Nod} (ha : ∀ n ∈ l, n.op = 2 → attrS n.attr = true) : ∀ k, k ≤ l.length → ∀ x ∈ (l.take k).foldl stB [], x.size ≤ cK k
  | 0, _, x, hx => by simp at hx
  | k + 1, hk, x, hx => by
    rw [List.take_succ_eq_append_getElem (by omega), List.foldl_append] at hx
    exact stB_size (foldB_size ha k (by omega)) (ha _ (List.getElem_mem _)) x hx
theorem steps_attr : ∀ {l : List Nod} {a b : List Bool}, zi a l = some b → ∀ n ∈ l, n.op = 2 → attrS n.attr = true
  | y :: l, a, b, h, n, hn, h2 => by
    rw [zi] at h
    cases hs : zX a y with
    | none => rw [hs] at h; cases h
    | some m =>
      rw [hs] at h
      rcases List.mem_cons.1 hn with rfl | hn
      · have := (step_ok hs).1
        unfold wZ at this
        rw [if_neg (by omega), if_pos h2] at this
        simp only [Bool.and_eq_true] at this
        exact this.1
      · exact steps_attr h n hn h2
theorem exprB_of {l : List Nod} (h : wi l = 0) (hn : l ≠ []) : l.foldl stB [] = [exprB l] := by
  have h1 := foldB_len (s := []) rfl (wE h hn).1
  unfold exprB
  obtain ⟨x, hx⟩ := List.length_eq_one_iff.1 h1
  rw [hx]; rfl
theorem exprB_size {l : List Nod} (h : wi l = 0) (hn : l ≠ []) : (exprB l).size ≤ 1099511627776 := by
  obtain ⟨h1, h2⟩ := wE h hn
  have h3 := foldB_size (steps_attr h1) l.length (Nat.le_refl _)
  rw [List.take_length, exprB_of h hn] at h3
  exact Nat.le_trans (h3 _ (by simp)) (cK_max h2)
theorem exprB_in {l : List Nod} (h : wi l = 0) {n : Nod} (hn : n ∈ l) (h2 : n.op = 2) : Inf n.attr.name (exprB l) := by
  have hx : Inf n.attr.name (attrB n.attr) := by
    unfold attrB
    split
    · exact wN (inf_r (inf_self _) _) _
    · exact inf_r (inf_self _) _
  obtain ⟨y, hy, hi⟩ := foldB_in (st := []) (.inr ⟨n, hn, h2, hx⟩)
  rw [exprB_of h (List.ne_nil_of_mem hn), List.mem_singleton] at hy
  rw [← hy]; exact hi
end Go.Proofs.YtlmgamnpfdgdeaaGreatDoor
namespace Go.Proofs.YtlmgamnpfdgdeaaGreatDoor
open Go.RowKit Go.Shelf
def laysJN_ren : Go.Shelf.Ren := ⟨fun | 156 => 92 | 165 => 128 | 166 => 129 | 169 => 130 | 240 => 173 | 241 => 174 | 276 => 196 | 277 => 197 | n => n, fun | 31 => 173 | 9 => 9 | 3 => 3 | 4 => 4 | 0 => 0 | 20 => 20 | 72 => 220 | 76 => 224 | 70 => 217 | 37 => 218 | 75 => 223 | 127 => 263 | 164 => 280 | 5 => 5 | 80 => 191 | n => n, fun | n => n⟩
theorem laysJN : Go.Proofs.Lays.n156 Tryz.prog laysJN_ren := {
  mixed := by kernel_rfl
  f156 := Tryz.func92.trans (congrArg some (by kernel_rfl))
  f165 := Tryz.func128.trans (congrArg some (by kernel_rfl))
  f166 := Tryz.func129.trans (congrArg some (by kernel_rfl))
  f169 := Tryz.func130.trans (congrArg some (by kernel_rfl))
  f240 := Tryz.func173.trans (congrArg some (by kernel_rfl))
  f241 := Tryz.func174.trans (congrArg some (by kernel_rfl))
  f276 := Tryz.func196.trans (congrArg some (by kernel_rfl))
  f277 := Tryz.func197.trans (congrArg some (by kernel_rfl))
  t0 := Tryz.underlying0
  a0 := Tryz.isAgg0
  z0 := Tryz.sizeOf0
  v0 := Tryz.zeroValue0
  t3 := Tryz.underlying3
  a3 := Tryz.isAgg3
  z3 := Tryz.sizeOf3
  v3 := Tryz.zeroValue3
  t4 := Tryz.underlying4
  a4 := Tryz.isAgg4
  z4 := Tryz.sizeOf4
  v4 := Tryz.zeroValue4
  t9 := Tryz.underlying9
  a9 := Tryz.isAgg9
  z9 := Tryz.sizeOf9
  v9 := Tryz.zeroValue9
  t20 := Tryz.underlying20
  a20 := Tryz.isAgg20
  z20 := Tryz.sizeOf20
  v20 := Tryz.zeroValue20
  t31 := Tryz.underlying173
  a31 := Tryz.isAgg173
  z31 := Tryz.sizeOf173
  v31 := Tryz.zeroValue173
  t37 := Tryz.underlying218
  a37 := Tryz.isAgg218
  z37 := Tryz.sizeOf218
  v37 := Tryz.zeroValue218
  t70 := Tryz.underlying217
  a70 := Tryz.isAgg217
  z70 := Tryz.sizeOf217
  v70 := Tryz.zeroValue217
  t72 := Tryz.underlying220
  a72 := Tryz.isAgg220
  z72 := Tryz.sizeOf220
  v72 := Tryz.zeroValue220
  t75 := Tryz.underlying223
  a75 := Tryz.isAgg223
  z75 := Tryz.sizeOf223
  v75 := Tryz.zeroValue223
  t76 := Tryz.underlying224
  a76 := Tryz.isAgg224
  z76 := Tryz.sizeOf224
  v76 := Tryz.zeroValue224
  t127 := Tryz.underlying263
  a127 := Tryz.isAgg263
  z127 := Tryz.sizeOf263
  v127 := Tryz.zeroValue263
  t164 := Tryz.underlying280
  a164 := Tryz.isAgg280
  z164 := Tryz.sizeOf280
  v164 := Tryz.zeroValue280
}
theorem extJN : Builder.Extra Tryz.prog laysJN_ren := {
  sizeBuilder := by kernel_rfl
  liesBuilder := by kernel_rfl
  t5 := Tryz.underlying5
  a5 := Tryz.isAgg5
  z5 := Tryz.sizeOf5
  v5 := Tryz.zeroValue5
  infoByte := by kernel_rfl
  cellsByte := by kernel_rfl
  sizeByte := by kernel_rfl
  neB5 := by decide
}
theorem join_none (a : Option Addr) (c : Nat) (sep : ByteArray) (w : World) : Calls Tryz.prog 92 #[.slice a 0 c, .string sep] w fun e w' => e = .returned (.string ⟨#[]⟩) ∧ w' = w := Any.strings_Join_none laysJN extJN a c sep w
theorem join_any (bk o c : Nat) (xs : List ByteArray) (sep : ByteArray) (w : World) (hcells : ∀ (j : Nat) x, xs[j]? = some x → w.cell? ⟨bk, o + j, none⟩ = some (.string x)) (hbk : bk < w.heap.size) (hN : xs.length ≤ 140737488355328) (hcap : xs.length ≤ c)
    (hlen : (Lib.join (xs.map (·.data.toList)) sep.data.toList).length ≤ 140737488355328) :
    Calls Tryz.prog 92 #[.slice (some ⟨bk, o, none⟩) xs.length c, .string sep] w fun e w' => e = .returned (.string ⟨(Lib.join (xs.map (·.data.toList)) sep.data.toList).toArray⟩) ∧ Below w.heap.size w w' := Any.strings_Join laysJN extJN bk o c xs sep w hcells hbk hN hcap hlen
end Go.Proofs.YtlmgamnpfdgdeaaGreatDoor
namespace Go.Proofs.YtlmgamnpfdgdeaaGreatDoor
set_option linter.unusedVariables false
set_option linter.unusedSimpArgs false
open Go.RowKit
abbrev ssP (l : List ByteArray) : List (List PV) := l.map fun s => [pS s]
theorem joinS_h (l : List ByteArray) (sep : ByteArray) (hN : l.length ≤ 140737488355328) (h : (joinB l sep).size ≤ 140737488355328) : Holds Tryz.prog 92 [.sl 1 (ssP l), pS sep] (.p (pS (joinB l sep))) [] :=
  .of_calls Tryz.func92 (by kernel_rfl) rfl (fun w vs hl hr => by
    obtain ⟨u, v, rfl⟩ : ∃ u v, vs = [u, v] := by
      match vs, hl with
      | [u, v], _ => exact ⟨u, v, rfl⟩
    have h2 := zl (hr 1 _ v rfl rfl) rfl
    subst h2
    have h1 := hr 0 _ u rfl rfl
    generalize he1 : (ssP l) = L at h1
    cases h1 with
    | @sl _ _ A c hc hm he hA hx hh =>
      have hL : L.length = l.length := by rw [← he1]; simp
      cases l with
      | nil =>
        have h0 : L.length = 0 := hL
        rw [h0]
        exact (join_none A c sep w).mono fun e w' hw => by
          obtain ⟨rfl, rfl⟩ := hw
          exact ⟨rfl, Below.refl _ _⟩
      | cons s0 l =>
        obtain ⟨b, o, rfl, _, hlt⟩ := hA (by rw [hL]; simp)
        rw [hL]
        refine join_any b o c (s0 :: l) sep w (fun j x hj => ?_) hlt hN (by rw [← hL]; exact hc) ?_
        · have hj2 : j < L.length := by
            rw [hL]; exact (List.getElem?_eq_some_iff.1 hj).1
          obtain ⟨u, hu⟩ := hx b o j 0 rfl hj2 (by omega)
          have e1 : L[j]? = some [pS x] := by rw [← he1, List.getElem?_map, hj]; rfl
          have e2 := zl (hh b o j 0 [pS x] (pS x) u rfl e1 rfl hu) rfl
          rw [e2] at hu
          have e3 : o + j * 1 + 0 = o + j := by omega
          rw [e3] at hu
          exact hu
        · have : (joinB (s0 :: l) sep).size = (Lib.join ((s0 :: l).map (·.data.toList)) sep.data.toList).length := List.size_toArray
          rw [← this]; exact h) rfl fun w => .p (.v rfl)
end Go.Proofs.YtlmgamnpfdgdeaaGreatDoor
namespace Go.Proofs.YtlmgamnpfdgdeaaGreatDoor
set_option linter.unusedVariables false
set_option linter.unusedSimpArgs false
open Go.RowKit
def SWB (P : Program) (ops : List Oper) (κ : Kap) (ls : Array Bool) (fuel : Nat) (Q : St → Prop) (st : St) : Prop := ∀ (w0 : Base) (Sx : Nat → Prop) (γ : Nat → Value) (a : Act) (w : World) (QQ : Exit → Act → World → Prop), Sim w0 Sx γ st a w →
  (∀ st' γ' a' w', Sim w0 Sx γ' st' a' w' → Q st' → QQ .normal a' w') → wpAnyP P ops.toArray (NoPanic QQ) fuel (pendOf γ st.own w κ) ls a w
def SWBo (P : Program) (ops : List Oper) (κ : Kap) (ls : Array Bool) (fuel : Nat) (Q : St → Prop) (st : St) (i : Nat) : Prop := ∀ (w0 : Base) (Sx : Nat → Prop) (γ : Nat → Value) (a : Act) (w : World) (QQ : Exit → Act → World → Prop), Sim w0 Sx γ st a w →
  (∀ st' γ' a' w', Sim w0 Sx γ' st' a' w' → Q st' → QQ .normal a' w') → wpOp P ops.toArray (NoPanic QQ) i (fun a' w' => (∀ p ∈ alive ops.toArray i (pendOf γ st.own w κ), p.2 w') ∧ wpAnyP P ops.toArray (NoPanic QQ) fuel (alive ops.toArray i (pendOf γ st.own w κ)) (ls.setIfInBounds i true) a' w') a w
section
variable {P : Program} {ops : List Oper} {κ : Kap} {ls : Array Bool} {fuel : Nat} {st : St} {Q : St → Prop} {i j : Nat} {o : Oper}
theorem qY (hr : Region.ready .any ops.toArray ls = []) (h : Q st) : SWB P ops κ ls fuel Q st := fun _ _ γ a w _ hI hQ => by
  cases fuel with
  | zero => exact ⟨hr, hQ st γ a w hI h⟩
  | succ f => exact ⟨fun _ => hQ st γ a w hI h, fun i hi => by rw [hr] at hi; cases hi⟩
theorem qn (i : Nat) (hr : Region.ready .any ops.toArray ls = [i]) (h : SWBo P ops κ ls fuel Q st i) : SWB P ops κ ls (fuel + 1) Q st := fun w0 Sx γ a w QQ hI hQ =>
  ⟨fun h0 => (by rw [hr] at h0; cases h0), fun k hk => by
    rw [hr] at hk
    obtain rfl : k = i := by simpa using hk
    exact h w0 Sx γ a w QQ hI hQ⟩
theorem zt (i j : Nat) (hr : Region.ready .any ops.toArray ls = [i, j]) (h : SWBo P ops κ ls fuel Q st i) (h2 : SWBo P ops κ ls fuel Q st j) : SWB P ops κ ls (fuel + 1) Q st := fun w0 Sx γ a w QQ hI hQ =>
  ⟨fun h0 => (by rw [hr] at h0; cases h0), fun k hk => by
    rw [hr] at hk
    have hk : k = i ∨ k = j := by simpa using hk
    rcases hk with rfl | rfl
    · exact h w0 Sx γ a w QQ hI hQ
    · exact h2 w0 Sx γ a w QQ hI hQ⟩
theorem qm {K : List Nat} {s : SV} (hB : (Region.free .any ops.toArray ls i && (Region.ready .any ops.toArray ls).contains i) = true) (hs : Region.noSelect ops.toArray = true) (hi : nthO ops i = some o) (hw : zF ops st o = some true) (hr : RdO P K st o s) (hd : zn st o.dst = true)
    (h : SWB P ops ((i, K) :: κ) (ls.setIfInBounds i true) fuel Q (st.put o.dst s)) : SWB P ops κ ls (fuel + 1) Q st := fun w0 Sx γ a w QQ hI hQ => by
  obtain ⟨v, h1, h2⟩ := hr w0 Sx γ a w hI
  have hrest := h w0 Sx γ _ w QQ (hI.put (dst := o.dst) hd h1) hQ
  simp only [wR] at hrest
  rw [Bool.and_eq_true] at hB
  have hio := (zd ops i).trans hi
  exact wpAnyP_first hio (Region.noSelect_spec hs) (fun _ _ _ h => h) fuel _ ls a w (Region.free_spec hio hB.1) (by simpa using hB.2) (Or.inl ⟨zq hI hw, h2⟩) (SameOn.refl _ _) wI hrest
theorem qb {Ws : List Nat} (hi : nthO ops i = some o) (hw : zF ops st o = some true) (hK : (kapB o κ).all (fun p => Ws.all fun j => p.2.contains j) = true) (h : ActOk P Ws o st (SWB P ops (kapB o κ) (ls.setIfInBounds i true) fuel Q)) : SWBo P ops κ ls fuel Q st i := fun w0 Sx γ a w QQ hI hQ => by
  have hsub : ∀ p ∈ kapB o κ, ∀ j ∈ Ws, j ∈ p.2 := fun p hp j hj => by simpa using List.all_eq_true.1 (List.all_eq_true.1 hK p hp) j hj
  have hio := (zd ops i).trans hi
  unfold wpOp
  rw [hio]
  simp only [zq hI hw, if_true]
  refine Or.inl ?_
  have := h w0 Sx γ a w (NoPanic QQ) hI
  have mono : ∀ {a' w'}, (∃ γ' st', SWB P ops (kapB o κ) (ls.setIfInBounds i true) fuel Q st' ∧ Sim w0 Sx γ' st' a' w' ∧ SameOn (vis Ws γ st.own) w w' ∧ ∀ K : List Nat, (∀ i ∈ Ws, i ∈ K) → ∀ b, b < w.heap.size → vis K γ st.own b → vis K γ' st'.own b) →
      (∀ p ∈ alive ops.toArray i (pendOf γ st.own w κ), p.2 w') ∧ wpAnyP P ops.toArray (NoPanic QQ) fuel (alive ops.toArray i (pendOf γ st.own w κ)) (ls.setIfInBounds i true) a' w' := fun {a' w'} ⟨γ', st', h1, h2, h3, h4⟩ => by
    have hc : Covers (alive ops.toArray i (pendOf γ st.own w κ)) (pendOf γ' st'.own w' (kapB o κ)) := fun p hp => by
      obtain ⟨hp1, hp2⟩ := mem_alive.1 hp
      obtain ⟨q, hq, rfl⟩ := List.mem_map.1 hp1
      have hq' : q ∈ kapB o κ := List.mem_filter.2 ⟨hq, by rw [hp2 o hio]; rfl⟩
      have hs := hsub q hq'
      refine .inr ⟨_, List.mem_map.2 ⟨q, hq', rfl⟩, rfl, fun x hx => ⟨Nat.le_trans h3.size hx.size, fun b hb hv => ?_⟩⟩
      have e1 := h3.block b hb (fun j bx hj hjW hjb => hv j bx hj (by simpa using hs j (by simpa using hjW)) hjb)
      have e2 := hx.block b (Nat.lt_of_lt_of_le hb h3.size) (h4 q.2 hs b hb hv)
      exact e2.trans e1
    exact ⟨hc.at wI, wc _ hc _ _ _ (h1 w0 Sx γ' a' w' QQ h2 hQ)⟩
  unfold Oper.wp at this ⊢
  generalize (execOp a.eval o).run P w = res at *
  cases res with
  | ok n w' =>
    cases n <;> simp only [Oper.upon] at this ⊢ <;> first
      | exact mono this
      | exact this
      | exact Calls.mono this (fun e w'' he => by cases e <;> first | exact mono he | exact he)
      | exact Rows.mono this (fun _ _ he => mono he)
  | halt x w' => cases x <;> simp only [Oper.upon] at this ⊢ <;> exact this
theorem ze {id : Nat} {l : List Oper} {QS : SEx → St → Prop} (n : Nat) (hn : l.length = n) (hm : P.follows .mixedOrders = true) (h : SWB P l [] (Array.replicate n false) n (QS .normal) st) : SW P (.region id l.toArray true) QS st := fun w0 Sx γ a w QQ hI hQ => by
  refine wp_region_noPanic (wp_region_any hm (wU _ [] _ _ _ ?_))
  have h1 := h w0 Sx γ a w.drew QQ hI.drew fun s' γ' a' w' hI' hq => hQ .normal s' γ' a' w' hI' hq
  have e : l.toArray.size = n := by simpa using hn
  rw [e]
  exact h1
end
end Go.Proofs.YtlmgamnpfdgdeaaGreatDoor
namespace Go.Proofs.YtlmgamnpfdgdeaaGreatDoor
set_option linter.unusedVariables false
set_option linter.unusedSimpArgs false
open Go.RowKit
set_option maxHeartbeats 4000000
theorem finS {ts : List Tmp} {st : St} {b b' : ByteArray} (h : resS st ts = some (.p (.v (.string b)))) (hb : b = b') : Fin ts (.p (.v (.string b'))) [] .ret st := by
  subst hb; exact ⟨Or.inr rfl, st, _, [], Wk.refl _, h, rfl, rfl, rfl⟩
theorem qO {a b : Nat} (h : a + b ≤ 9223372036854775807) : ((a + b : Nat) : Int) ≤ IntKind.i64.max := by
  show ((a + b : Nat) : Int) ≤ 9223372036854775807
  omega
theorem word_h (l : List ByteArray) (n : Int) (h1 : 1 ≤ n) (h2 : n ≤ l.length) (hl : l.length ≤ 100) : Holds Tryz.prog 60 [pI n, .sl 1 (ssP l)] (.p (pS (zH l n))) [] := by
  have ll : (ssP l).length = l.length := by simp
  obtain ⟨k, rfl⟩ : ∃ k : Nat, n = k + 1 := ⟨(n - 1).toNat, by omega⟩
  have hk : k < l.length := by omega
  have e : zH l ((k : Int) + 1) = l[k] := by
    unfold zH
    rw [show ((k : Int) + 1 - 1).toNat = k by omega, List.getD_eq_getElem?_getD, List.getElem?_eq_getElem hk]; rfl
  rw [e]
  refine qo (ts := [4]) Tryz.func60 (by kernel_rfl) rfl rfl rfl ?_
  refine uA ?_
  refine uR ?_
  rw [show IntKind.i64.wrap ((k : Int) + 1 - 1) = (k : Int) by rw [IntWalk.i64_in _ (by omega)]; omega]
  refine uS ?_
  refine qh qa rfl rfl (by rw [ll]; omega) rfl ?_
  rw [qx hk]
  refine uS ?_
  refine qd ?_
  refine uQ ?_
  refine ⟨Or.inr rfl, _, _, [], Wk.refl _, rfl, rfl, rfl, rfl⟩
theorem sattr_h (a : Atr) (h : attrS a = true) : Holds Tryz.prog 126 [.agg a.pv] (.p (pS (attrB a))) [] := by
  obtain ⟨h1, h2, h3⟩ := attrS_name h
  have H := attr_h a (by unfold reachBytes; omega)
  rw [h] at H
  have HW := word_h catsB a.cat h1 h2 (by decide)
  have hs := cats_size a.cat
  obtain ⟨cat, name, must⟩ := a
  simp only at h1 h2 h3 H HW hs
  generalize hw : zH catsB cat = w at HW hs
  refine qo (ts := [2]) Tryz.func126 (by kernel_rfl) rfl rfl rfl ?_
  refine uA ?_
  refine uR ?_
  refine uK H ?_
  refine qd ?_
  refine uC (fun hc => ?_) (fun hc => ?_)
  · cases hc
  refine qg ?_
  refine uD [] [1, 3, 11, 13, 4, 6, 9, 15, 17] ?_
  refine uk HW ?_
  refine qG qa rfl rfl rfl (qO (by simp only [ByteArray.size_append, qp]; omega)) rfl ?_
  refine uT ?_
  refine qG qa rfl rfl rfl (qO (by simp only [ByteArray.size_append, qp]; omega)) rfl ?_
  refine uT ?_
  refine wd ?_
  refine uA ?_
  cases must with
  | true =>
    refine uC (fun h4 => ?_) (fun h4 => ?_)
    · refine uR ?_
      refine qh qa rfl rfl (qO (by simp only [ByteArray.size_append, qp]; omega)) rfl ?_
      refine uS ?_
      refine qd ?_
      refine uA ?_
      refine uQ ?_
      have e : attrB ⟨cat, name, true⟩ = w ++ ⟨#[46]⟩ ++ name ++ ⟨#[33]⟩ := by rw [← hw]; rfl
      rw [e]
      refine ⟨Or.inr rfl, _, _, [], Wk.refl _, rfl, rfl, rfl, rfl⟩
    · cases h4
  | false =>
    refine uC (fun h4 => ?_) (fun h4 => ?_)
    · cases h4
    refine qg ?_
    refine uA ?_
    refine uQ ?_
    have e : attrB ⟨cat, name, false⟩ = w ++ ⟨#[46]⟩ ++ name := by rw [← hw]; rfl
    rw [e]
    refine ⟨Or.inr rfl, _, _, [], Wk.refl _, rfl, rfl, rfl, rfl⟩
theorem ss_succ {α : Type} (f : α → ByteArray) {l : List α} {k : Nat} (hk : k < l.length) : ssP ((l.take (k + 1)).map f) = ssP ((l.take k).map f) ++ [[pS (f l[k])]] := by
  show ((l.take (k + 1)).map f).map _ = _
  rw [List.take_succ_eq_append_getElem hk, List.map_append, List.map_append]; rfl
theorem all_h (l : List Mat) (h : allOfS l = 0) (hf : ∀ m ∈ l, m.Fit) : Holds Tryz.prog 91 [matsP l] (.p (pS (allB l))) [] := by
  obtain ⟨h8, hm⟩ := allOf_ok h
  have lm : (l.map Mat.pv).length = l.length := by simp
  have HJ := joinS_h (l.map matB) ⟨#[44, 32]⟩ (by simp; omega) (by have := allB_size h; unfold allB at this; omega)
  refine qo (ts := [2]) Tryz.func91 (by kernel_rfl) rfl rfl rfl ?_
  refine uA ?_
  refine uA ?_
  refine uA ?_
  refine uB ?_
  refine SW.wk (jo 3 900 9 1 rfl rfl) ?_
  refine uZ [3, 6, 7, 8] [(900, 0)] ?_
  refine qC (fun m s => ∃ (k : Nat) (kk : Int), k ≤ l.length ∧ m = l.length - k ∧ kk = k ∧ s = ⟨32, [(3, .row 0), (6, .p (matsP l)), (7, .p (pI (l.map Mat.pv).length)), (8, .p (pI kk))], [(0, .row 9 1 (ssP ((l.take k).map matB)))]⟩) l.length ⟨0, 0, Nat.zero_le _, rfl, rfl, rfl⟩ ?_
  rintro m s ⟨k, _, hk, rfl, rfl, rfl⟩
  refine uA ?_
  refine uC (fun hlt => ?_) (fun hlt => ?_)
  · refine qg ?_
    rw [lm] at hlt
    simp only [decide_eq_true_eq] at hlt
    have hlt' : k < l.length := by omega
    have hx' := match_ok (hm _ (List.getElem_mem hlt'))
    have hf' := hf _ (List.getElem_mem hlt')
    have hS := ss_succ matB hlt'
    obtain ⟨x, hx⟩ : ∃ x, x = l[k] := ⟨_, rfl⟩
    rw [← hx] at hx' hf' hS
    have HA := sattr_h x.attr hx'.1
    have HO := word_h opsB x.op hx'.2.1 hx'.2.2.1 (by decide)
    have HT := text_h x.val hf'.val
    have s1 := attrB_size hx'.1
    have s2 := ops_size x.op
    have s3 := textS_size x.val
    have e : matB x = attrB x.attr ++ ⟨#[32]⟩ ++ zH opsB x.op ++ ⟨#[32]⟩ ++ textS x.val := rfl
    rw [e] at hS
    clear e
    generalize attrB x.attr = A at *
    generalize zH opsB x.op = O at *
    generalize textS x.val = T at *
    refine uB ?_
    refine uR ?_
    refine qh qa rfl rfl (by rw [lm]; omega) rfl ?_
    rw [qx hlt', ← hx]
    refine uS ?_
    refine qd ?_
    (repeat refine qF ?_); refine ze 18 rfl (by kernel_rfl) ?_
    refine qm (i := 0) (K := [0]) (by kernel_rfl) (by kernel_rfl) rfl rfl (qe qa rfl (by exact True.intro)) rfl ?_
    refine qm (i := 1) (K := [0]) (by kernel_rfl) (by kernel_rfl) rfl rfl (qe qa rfl (by exact True.intro)) rfl ?_
    refine qm (i := 2) (K := [0]) (by kernel_rfl) (by kernel_rfl) rfl rfl (qe qa rfl (by exact True.intro)) rfl ?_
    refine qm (i := 5) (K := [0]) (by kernel_rfl) (by kernel_rfl) rfl rfl (qe qa rfl (by exact True.intro)) rfl ?_
    refine qm (i := 6) (K := [0]) (by kernel_rfl) (by kernel_rfl) rfl rfl (qe qa rfl (by exact True.intro)) rfl ?_
    refine qm (i := 11) (K := [0]) (by kernel_rfl) (by kernel_rfl) rfl rfl (qe qa rfl (by exact True.intro)) rfl ?_
    refine qm (i := 12) (K := [0]) (by kernel_rfl) (by kernel_rfl) rfl rfl (qe qa rfl (by exact True.intro)) rfl ?_
    refine zt 3 7 (by kernel_rfl) ?_ ?_
    refine qb rfl rfl rfl (qA rfl rfl rfl rfl (HA) rfl rfl ?_)
    refine qm (i := 4) (K := [0]) (by kernel_rfl) (by kernel_rfl) rfl rfl (qe qa rfl (qO (by simp only [ByteArray.size_append, qp]; omega))) rfl ?_
    refine qn 7 (by kernel_rfl) ?_
    first | refine qb rfl rfl rfl (aM (h := ?_)) | refine qb rfl rfl rfl (aB (h := ?_)) | refine qb rfl rfl rfl (aA (h := ?_)) | refine qb rfl rfl rfl (aS (h := ?_)) | refine qb rfl rfl rfl (aL (h := ?_)) | refine qb rfl rfl rfl (qy (K := []) (qe qa rfl (by exact True.intro)) rfl ?_)
    refine qn 8 (by kernel_rfl) ?_
    refine qb rfl rfl rfl (qA rfl rfl rfl rfl (HO) rfl rfl ?_)
    refine qm (i := 9) (K := [0]) (by kernel_rfl) (by kernel_rfl) rfl rfl (qe qa rfl (qO (by simp only [ByteArray.size_append, qp]; omega))) rfl ?_
    refine qm (i := 10) (K := [0]) (by kernel_rfl) (by kernel_rfl) rfl rfl (qe qa rfl (qO (by simp only [ByteArray.size_append, qp]; omega))) rfl ?_
    refine qn 13 (by kernel_rfl) ?_
    refine qb rfl rfl rfl (qA rfl rfl rfl rfl (HT) rfl rfl ?_)
    refine qm (i := 14) (K := [0]) (by kernel_rfl) (by kernel_rfl) rfl rfl (qe qa rfl (qO (by simp only [ByteArray.size_append, qp]; omega))) rfl ?_
    refine qn 15 (by kernel_rfl) ?_
    first | refine qb rfl rfl rfl (aM (h := ?_)) | refine qb rfl rfl rfl (aB (h := ?_)) | refine qb rfl rfl rfl (aA (h := ?_)) | refine qb rfl rfl rfl (aS (h := ?_)) | refine qb rfl rfl rfl (aL (h := ?_)) | refine qb rfl rfl rfl (qy (K := []) (qe qa rfl (by exact True.intro)) rfl ?_)
    refine qn 16 (by kernel_rfl) ?_
    refine qb rfl rfl rfl (qr qa rfl rfl rfl rfl rfl rfl rfl rfl rfl rfl rfl rfl rfl rfl rfl rfl (by simp only [List.length_append, List.length_map, List.length_take, List.length_cons, List.length_nil]; unfold reachBytes; omega) (by simp only [List.length_append, List.length_map, List.length_take, List.length_cons, List.length_nil]; omega) ?_)
    refine qm (i := 17) (K := [0]) (by kernel_rfl) (by kernel_rfl) rfl rfl (qe qa rfl (by exact True.intro)) rfl ?_
    refine qY (by kernel_rfl) ?_
    refine SW.wk (qu [3, 6, 7, 8] [(28, 0)] rfl rfl) ?_
    refine ?fk5_133
    rotate_left
    first | refine qb rfl rfl rfl (aM (h := ?_)) | refine qb rfl rfl rfl (aB (h := ?_)) | refine qb rfl rfl rfl (aA (h := ?_)) | refine qb rfl rfl rfl (aS (h := ?_)) | refine qb rfl rfl rfl (aL (h := ?_)) | refine qb rfl rfl rfl (qy (K := []) (qe qa rfl (by exact True.intro)) rfl ?_)
    refine qn 3 (by kernel_rfl) ?_
    refine qb rfl rfl rfl (qA rfl rfl rfl rfl (HA) rfl rfl ?_)
    refine qm (i := 4) (K := [0]) (by kernel_rfl) (by kernel_rfl) rfl rfl (qe qa rfl (qO (by simp only [ByteArray.size_append, qp]; omega))) rfl ?_
    refine qn 8 (by kernel_rfl) ?_
    refine qb rfl rfl rfl (qA rfl rfl rfl rfl (HO) rfl rfl ?_)
    refine qm (i := 9) (K := [0]) (by kernel_rfl) (by kernel_rfl) rfl rfl (qe qa rfl (qO (by simp only [ByteArray.size_append, qp]; omega))) rfl ?_
    refine qm (i := 10) (K := [0]) (by kernel_rfl) (by kernel_rfl) rfl rfl (qe qa rfl (qO (by simp only [ByteArray.size_append, qp]; omega))) rfl ?_
    refine qn 13 (by kernel_rfl) ?_
    refine qb rfl rfl rfl (qA rfl rfl rfl rfl (HT) rfl rfl ?_)
    refine qm (i := 14) (K := [0]) (by kernel_rfl) (by kernel_rfl) rfl rfl (qe qa rfl (qO (by simp only [ByteArray.size_append, qp]; omega))) rfl ?_
    refine qn 15 (by kernel_rfl) ?_
    first | refine qb rfl rfl rfl (aM (h := ?_)) | refine qb rfl rfl rfl (aB (h := ?_)) | refine qb rfl rfl rfl (aA (h := ?_)) | refine qb rfl rfl rfl (aS (h := ?_)) | refine qb rfl rfl rfl (aL (h := ?_)) | refine qb rfl rfl rfl (qy (K := []) (qe qa rfl (by exact True.intro)) rfl ?_)
    refine qn 16 (by kernel_rfl) ?_
    refine qb rfl rfl rfl (qr qa rfl rfl rfl rfl rfl rfl rfl rfl rfl rfl rfl rfl rfl rfl rfl rfl (by simp only [List.length_append, List.length_map, List.length_take, List.length_cons, List.length_nil]; unfold reachBytes; omega) (by simp only [List.length_append, List.length_map, List.length_take, List.length_cons, List.length_nil]; omega) ?_)
    refine qm (i := 17) (K := [0]) (by kernel_rfl) (by kernel_rfl) rfl rfl (qe qa rfl (by exact True.intro)) rfl ?_
    refine qY (by kernel_rfl) ?_
    refine SW.wk (qu [3, 6, 7, 8] [(28, 0)] rfl rfl) ?_
    exact ?fk5_133
    refine uA ?_
    refine ⟨_, _, ?_, qu [3, 6, 7, 8] [(0, 0)] rfl rfl, k + 1, _, hlt', rfl, qt hlt' (by omega), ?_⟩
    · omega
    · rw [hS]; rfl
  · refine qz ?_
    rw [lm] at hlt
    simp only [decide_eq_false_iff_not] at hlt
    have hkk : k = l.length := by omega
    subst hkk
    rw [List.take_length]
    refine uR ?_
    refine uK HJ ?_
    refine qd ?_
    refine uQ ?_
    refine ⟨Or.inr rfl, _, _, [], Wk.refl _, rfl, rfl, rfl, rfl⟩
theorem starget_h (t : Tar) (h : zf t = 0) (hf : TarFit t) : Holds Tryz.prog 61 [tgtP t] (.p (pS (zU t))) [] := by
  obtain ⟨h8, hm⟩ := target_ok h
  have lt : (t.map fun x => [anyP x]).length = t.length := by simp
  have hs := targetJ_size h
  have HJ := joinS_h (t.map anyB) ⟨#[32, 97, 110, 100, 32]⟩ (by simp; omega) (by omega)
  refine qo (ts := [2]) Tryz.func61 (by kernel_rfl) rfl rfl rfl ?_
  refine uA ?_
  refine uA ?_
  rw [lt]
  refine uC (fun h0 => ?_) (fun h0 => ?_)
  · have e : t = [] := by simpa using h0
    subst e
    refine uA ?_
    refine uQ ?_
    exact finS rfl rfl
  have n0 : ¬ t = [] := by simpa using h0
  have e : zU t = ⟨#[32, 119, 104, 101, 110, 32]⟩ ++ joinB (t.map anyB) ⟨#[32, 97, 110, 100, 32]⟩ := by unfold zU; rw [if_neg n0]
  rw [e]
  clear e
  refine qg ?_
  refine uA ?_
  refine uA ?_
  refine uB ?_
  refine SW.wk (jo 3 900 9 1 rfl rfl) ?_
  refine uZ [3, 12, 13, 14] [(900, 0)] ?_
  refine qC (fun m s => ∃ (k : Nat) (kk : Int), k ≤ t.length ∧ m = t.length - k ∧ kk = k ∧ s = ⟨41, [(3, .row 0), (12, .p (tgtP t)), (13, .p (pI (t.map fun x => [anyP x]).length)), (14, .p (pI kk))], [(0, .row 9 1 (ssP ((t.take k).map anyB)))]⟩) t.length ⟨0, 0, Nat.zero_le _, rfl, rfl, rfl⟩ ?_
  rintro m s ⟨k, _, hk, rfl, rfl, rfl⟩
  refine uA ?_
  refine uC (fun hlt => ?_) (fun hlt => ?_)
  · refine qg ?_
    rw [lt] at hlt
    simp only [decide_eq_true_eq] at hlt
    have hlt' : k < t.length := by omega
    have hx0 := hm _ (List.getElem_mem hlt')
    have hf' := hf _ (List.getElem_mem hlt')
    have hS := ss_succ anyB hlt'
    obtain ⟨x, hx⟩ : ∃ x, x = t[k] := ⟨_, rfl⟩
    rw [← hx] at hx0 hf' hS
    obtain ⟨g8, gm⟩ := anyOf_ok hx0
    have gs := anyB_size hx0
    have lx : (x.map fun y => [matsP y]).length = x.length := by simp
    have e : anyB x = ⟨#[40]⟩ ++ joinB (x.map allB) ⟨#[32, 111, 114, 32]⟩ ++ ⟨#[41]⟩ := rfl
    rw [e] at hS gs
    simp only [ByteArray.size_append, qp] at gs
    have HK := joinS_h (x.map allB) ⟨#[32, 111, 114, 32]⟩ (by simp; omega) (by omega)
    generalize joinB (x.map allB) ⟨#[32, 111, 114, 32]⟩ = J at *
    clear e
    refine uB ?_
    refine uR ?_
    refine qh qa rfl rfl (by rw [lt]; omega) rfl ?_
    rw [qx hlt', ← hx]
    refine uS ?_
    refine qd ?_
    refine uA ?_
    refine uA ?_
    refine uB ?_
    refine SW.wk (jo 6 901 9 1 rfl rfl) ?_
    refine uZ [3, 6, 12, 13, 14, 18, 19, 20] [(0, 0), (901, 1)] ?_
    refine qC (fun m s => ∃ (j : Nat) (jj : Int), j ≤ x.length ∧ m = x.length - j ∧ jj = j ∧ s = ⟨41, [(3, .row 0), (6, .row 1), (12, .p (tgtP t)), (13, .p (pI (t.map fun x => [anyP x]).length)), (14, .p (pI k)), (18, .p (anyP x)), (19, .p (pI (x.map fun y => [matsP y]).length)), (20, .p (pI jj))], [(0, .row 9 1 (ssP ((t.take k).map anyB))), (1, .row 9 1 (ssP ((x.take j).map allB)))]⟩) x.length ⟨0, 0, Nat.zero_le _, rfl, rfl, rfl⟩ ?_
    rintro m s ⟨j, _, hj, rfl, rfl, rfl⟩
    refine uA ?_
    refine uC (fun hlj => ?_) (fun hlj => ?_)
    · refine qg ?_
      rw [lx] at hlj
      simp only [decide_eq_true_eq] at hlj
      have hlj' : j < x.length := by omega
      have HA := all_h _ (gm _ (List.getElem_mem hlj')) (hf' _ (List.getElem_mem hlj'))
      have hT := ss_succ allB hlj'
      obtain ⟨y, hy⟩ : ∃ y, y = x[j] := ⟨_, rfl⟩
      rw [← hy] at HA hT
      refine uB ?_
      refine uR ?_
      refine qh qa rfl rfl (by rw [lx]; omega) rfl ?_
      rw [qx hlj', ← hy]
      refine uS ?_
      refine qd ?_
      refine uR ?_
      refine uK HA ?_
      refine qI rfl (qr qa rfl rfl rfl rfl rfl rfl rfl rfl rfl rfl rfl rfl rfl rfl rfl rfl (by simp only [List.length_append, List.length_map, List.length_take, List.length_cons, List.length_nil]; unfold reachBytes; omega) (by simp only [List.length_append, List.length_map, List.length_take, List.length_cons, List.length_nil]; omega) ?_)
      refine uS ?_
      refine qd ?_
      refine uA ?_
      refine ⟨_, _, ?_, qu [3, 6, 12, 13, 14, 18, 19, 20] [(0, 0), (28, 1)] rfl rfl, j + 1, _, hlj', rfl, qt hlj' (by omega), ?_⟩
      · omega
      · rw [hT]; rfl
    · refine qz ?_
      rw [lx] at hlj
      simp only [decide_eq_false_iff_not] at hlj
      have hjj : j = x.length := by omega
      subst hjj
      rw [List.take_length]
      refine uR ?_
      refine uK HK ?_
      refine qh qa rfl rfl (qO (by simp only [ByteArray.size_append, qp]; omega)) rfl ?_
      refine uS ?_
      refine qh qa rfl rfl (qO (by simp only [ByteArray.size_append, qp]; omega)) rfl ?_
      refine uS ?_
      refine qI rfl (qr qa rfl rfl rfl rfl rfl rfl rfl rfl rfl rfl rfl rfl rfl rfl rfl rfl (by simp only [List.length_append, List.length_map, List.length_take, List.length_cons, List.length_nil]; unfold reachBytes; omega) (by simp only [List.length_append, List.length_map, List.length_take, List.length_cons, List.length_nil]; omega) ?_)
      refine uS ?_
      refine qd ?_
      refine uA ?_
      refine ⟨_, _, ?_, qu [3, 12, 13, 14] [(36, 0)] rfl rfl, k + 1, _, hlt', rfl, qt hlt' (by omega), ?_⟩
      · omega
      · rw [hS]; rfl
  · refine qz ?_
    rw [lt] at hlt
    simp only [decide_eq_false_iff_not] at hlt
    have hkk : k = t.length := by omega
    subst hkk
    rw [List.take_length]
    refine uR ?_
    refine uK HJ ?_
    refine qh qa rfl rfl (qO (by show 6 + _ ≤ _; omega)) rfl ?_
    refine uS ?_
    refine qd ?_
    refine uQ ?_
    refine ⟨Or.inr rfl, _, _, [], Wk.refl _, rfl, rfl, rfl, rfl⟩
theorem duties_sh (l : List Obli) (h : oblsS l = 0) (hf : ∀ o ∈ l, o.Fit) : Holds Tryz.prog 63 [jt l] (.p (pS (wy l))) [] := by
  obtain ⟨h8, hm⟩ := obls_ok h
  have lo : (l.map Obli.pv).length = l.length := by simp
  refine qo (ts := [2]) Tryz.func63 (by kernel_rfl) rfl rfl rfl ?_
  refine uA ?_
  refine uA ?_
  refine uA ?_
  refine uB ?_
  refine uZ [3, 6, 7, 8] [] ?_
  refine qC (fun m s => ∃ (k : Nat) (kk : Int) (S : ByteArray), k ≤ l.length ∧ m = l.length - k ∧ kk = k ∧ S = catB dutyB ⟨#[]⟩ (l.take k) ∧ s = ⟨31, [(3, .p (pS S)), (6, .p (jt l)), (7, .p (pI (l.map Obli.pv).length)), (8, .p (pI kk))], []⟩) l.length ⟨0, 0, _, Nat.zero_le _, rfl, rfl, rfl, rfl⟩ ?_
  rintro m s ⟨k, _, S, hk, rfl, rfl, hSe, rfl⟩
  refine uA ?_
  refine uC (fun hlt => ?_) (fun hlt => ?_)
  · refine qg ?_
    rw [lo] at hlt
    simp only [decide_eq_true_eq] at hlt
    have hlt' : k < l.length := by omega
    have hx' := obl_ok (hm _ (List.getElem_mem hlt'))
    have hz := catB_size (f := dutyB) (s := ⟨#[]⟩) (c := 34) (l := l.take k) fun o ho => dutyB_size (hm o (List.mem_of_mem_take ho))
    have hz1 : (l.take k).length * 34 ≤ 8 * 34 := Nat.mul_le_mul_right 34 (by rw [List.length_take]; omega)
    have hz2 : (⟨#[]⟩ : ByteArray).size = 0 := rfl
    have hS2 : S ++ dutyB l[k] = catB dutyB ⟨#[]⟩ (l.take (k + 1)) := by rw [hSe]; exact (zw (fun s x => s ++ dutyB x) ⟨#[]⟩ l k hlt').symm
    rw [← hSe] at hz
    obtain ⟨x, hx⟩ : ∃ x, x = l[k] := ⟨_, rfl⟩
    rw [← hx] at hx' hS2
    have HO := word_h onsB x.on hx'.1 hx'.2.1 (by decide)
    have HK := word_h kindsB x.kind hx'.2.2.1 hx'.2.2.2.1 (by decide)
    have s0 := hx'.2.2.2.2
    have s1 := ons_size x.on
    have s2 := kinds_size x.kind
    have s3 : (⟨#[32, 111, 110, 32]⟩ : ByteArray).size = 4 := rfl
    have e : dutyB x = ⟨#[32, 111, 110, 32]⟩ ++ zH onsB x.on ++ ⟨#[32]⟩ ++ zH kindsB x.kind ++ ⟨#[32]⟩ ++ x.arg := rfl
    rw [e] at hS2
    clear e
    generalize zH onsB x.on = A at *
    generalize zH kindsB x.kind = O at *
    refine uB ?_
    refine uR ?_
    refine qh qa rfl rfl (by rw [lo]; omega) rfl ?_
    rw [qx hlt', ← hx]
    refine uS ?_
    refine qd ?_
    (repeat refine qF ?_); refine ze 18 rfl (by kernel_rfl) ?_
    refine qm (i := 0) (K := []) (by kernel_rfl) (by kernel_rfl) rfl rfl (qe qa rfl (by exact True.intro)) rfl ?_
    refine qm (i := 1) (K := []) (by kernel_rfl) (by kernel_rfl) rfl rfl (qe qa rfl (by exact True.intro)) rfl ?_
    refine qm (i := 2) (K := []) (by kernel_rfl) (by kernel_rfl) rfl rfl (qe qa rfl (by exact True.intro)) rfl ?_
    refine qm (i := 7) (K := []) (by kernel_rfl) (by kernel_rfl) rfl rfl (qe qa rfl (by exact True.intro)) rfl ?_
    refine qm (i := 8) (K := []) (by kernel_rfl) (by kernel_rfl) rfl rfl (qe qa rfl (by exact True.intro)) rfl ?_
    refine qm (i := 13) (K := []) (by kernel_rfl) (by kernel_rfl) rfl rfl (qe qa rfl (by exact True.intro)) rfl ?_
    refine qm (i := 14) (K := []) (by kernel_rfl) (by kernel_rfl) rfl rfl (qe qa rfl (by exact True.intro)) rfl ?_
    refine zt 3 9 (by kernel_rfl) ?_ ?_
    first | refine qb rfl rfl rfl (aM (h := ?_)) | refine qb rfl rfl rfl (aB (h := ?_)) | refine qb rfl rfl rfl (aA (h := ?_)) | refine qb rfl rfl rfl (aS (h := ?_)) | refine qb rfl rfl rfl (aL (h := ?_)) | refine qb rfl rfl rfl (qy (K := []) (qe qa rfl (by exact True.intro)) rfl ?_)
    refine zt 4 9 (by kernel_rfl) ?_ ?_
    refine qb rfl rfl rfl (qA rfl rfl rfl rfl (HO) rfl rfl ?_)
    refine qm (i := 5) (K := []) (by kernel_rfl) (by kernel_rfl) rfl rfl (qe qa rfl (qO (by simp only [s3]; omega))) rfl ?_
    refine qm (i := 6) (K := []) (by kernel_rfl) (by kernel_rfl) rfl rfl (qe qa rfl (qO (by simp only [ByteArray.size_append, qp, s3]; omega))) rfl ?_
    refine qn 9 (by kernel_rfl) ?_
    first | refine qb rfl rfl rfl (aM (h := ?_)) | refine qb rfl rfl rfl (aB (h := ?_)) | refine qb rfl rfl rfl (aA (h := ?_)) | refine qb rfl rfl rfl (aS (h := ?_)) | refine qb rfl rfl rfl (aL (h := ?_)) | refine qb rfl rfl rfl (qy (K := []) (qe qa rfl (by exact True.intro)) rfl ?_)
    refine qn 10 (by kernel_rfl) ?_
    refine qb rfl rfl rfl (qA rfl rfl rfl rfl (HK) rfl rfl ?_)
    refine qm (i := 11) (K := []) (by kernel_rfl) (by kernel_rfl) rfl rfl (qe qa rfl (qO (by simp only [ByteArray.size_append, qp, s3]; omega))) rfl ?_
    refine qm (i := 12) (K := []) (by kernel_rfl) (by kernel_rfl) rfl rfl (qe qa rfl (qO (by simp only [ByteArray.size_append, qp, s3]; omega))) rfl ?_
    refine qm (i := 15) (K := []) (by kernel_rfl) (by kernel_rfl) rfl rfl (qe qa rfl (qO (by simp only [ByteArray.size_append, qp, s3]; omega))) rfl ?_
    refine qm (i := 16) (K := []) (by kernel_rfl) (by kernel_rfl) rfl rfl (qe qa rfl (qO (by simp only [ByteArray.size_append, qp, s3]; omega))) rfl ?_
    refine qm (i := 17) (K := []) (by kernel_rfl) (by kernel_rfl) rfl rfl (qe qa rfl (by exact True.intro)) rfl ?_
    refine qY (by kernel_rfl) ?_
    refine SW.wk (qu [3, 6, 7, 8] [] rfl rfl) ?_
    refine ?fk5_355
    rotate_left
    first | refine qb rfl rfl rfl (aM (h := ?_)) | refine qb rfl rfl rfl (aB (h := ?_)) | refine qb rfl rfl rfl (aA (h := ?_)) | refine qb rfl rfl rfl (aS (h := ?_)) | refine qb rfl rfl rfl (aL (h := ?_)) | refine qb rfl rfl rfl (qy (K := []) (qe qa rfl (by exact True.intro)) rfl ?_)
    refine qn 4 (by kernel_rfl) ?_
    refine qb rfl rfl rfl (qA rfl rfl rfl rfl (HO) rfl rfl ?_)
    refine qm (i := 5) (K := []) (by kernel_rfl) (by kernel_rfl) rfl rfl (qe qa rfl (qO (by simp only [s3]; omega))) rfl ?_
    refine qm (i := 6) (K := []) (by kernel_rfl) (by kernel_rfl) rfl rfl (qe qa rfl (qO (by simp only [ByteArray.size_append, qp, s3]; omega))) rfl ?_
    refine qn 10 (by kernel_rfl) ?_
    refine qb rfl rfl rfl (qA rfl rfl rfl rfl (HK) rfl rfl ?_)
    refine qm (i := 11) (K := []) (by kernel_rfl) (by kernel_rfl) rfl rfl (qe qa rfl (qO (by simp only [ByteArray.size_append, qp, s3]; omega))) rfl ?_
    refine qm (i := 12) (K := []) (by kernel_rfl) (by kernel_rfl) rfl rfl (qe qa rfl (qO (by simp only [ByteArray.size_append, qp, s3]; omega))) rfl ?_
    refine qm (i := 15) (K := []) (by kernel_rfl) (by kernel_rfl) rfl rfl (qe qa rfl (qO (by simp only [ByteArray.size_append, qp, s3]; omega))) rfl ?_
    refine qm (i := 16) (K := []) (by kernel_rfl) (by kernel_rfl) rfl rfl (qe qa rfl (qO (by simp only [ByteArray.size_append, qp, s3]; omega))) rfl ?_
    refine qm (i := 17) (K := []) (by kernel_rfl) (by kernel_rfl) rfl rfl (qe qa rfl (by exact True.intro)) rfl ?_
    refine qY (by kernel_rfl) ?_
    refine SW.wk (qu [3, 6, 7, 8] [] rfl rfl) ?_
    exact ?fk5_355
    first | refine qb rfl rfl rfl (aM (h := ?_)) | refine qb rfl rfl rfl (aB (h := ?_)) | refine qb rfl rfl rfl (aA (h := ?_)) | refine qb rfl rfl rfl (aS (h := ?_)) | refine qb rfl rfl rfl (aL (h := ?_)) | refine qb rfl rfl rfl (qy (K := []) (qe qa rfl (by exact True.intro)) rfl ?_)
    refine qn 3 (by kernel_rfl) ?_
    first | refine qb rfl rfl rfl (aM (h := ?_)) | refine qb rfl rfl rfl (aB (h := ?_)) | refine qb rfl rfl rfl (aA (h := ?_)) | refine qb rfl rfl rfl (aS (h := ?_)) | refine qb rfl rfl rfl (aL (h := ?_)) | refine qb rfl rfl rfl (qy (K := []) (qe qa rfl (by exact True.intro)) rfl ?_)
    refine qn 4 (by kernel_rfl) ?_
    refine qb rfl rfl rfl (qA rfl rfl rfl rfl (HO) rfl rfl ?_)
    refine qm (i := 5) (K := []) (by kernel_rfl) (by kernel_rfl) rfl rfl (qe qa rfl (qO (by simp only [s3]; omega))) rfl ?_
    refine qm (i := 6) (K := []) (by kernel_rfl) (by kernel_rfl) rfl rfl (qe qa rfl (qO (by simp only [ByteArray.size_append, qp, s3]; omega))) rfl ?_
    refine qn 10 (by kernel_rfl) ?_
    refine qb rfl rfl rfl (qA rfl rfl rfl rfl (HK) rfl rfl ?_)
    refine qm (i := 11) (K := []) (by kernel_rfl) (by kernel_rfl) rfl rfl (qe qa rfl (qO (by simp only [ByteArray.size_append, qp, s3]; omega))) rfl ?_
    refine qm (i := 12) (K := []) (by kernel_rfl) (by kernel_rfl) rfl rfl (qe qa rfl (qO (by simp only [ByteArray.size_append, qp, s3]; omega))) rfl ?_
    refine qm (i := 15) (K := []) (by kernel_rfl) (by kernel_rfl) rfl rfl (qe qa rfl (qO (by simp only [ByteArray.size_append, qp, s3]; omega))) rfl ?_
    refine qm (i := 16) (K := []) (by kernel_rfl) (by kernel_rfl) rfl rfl (qe qa rfl (qO (by simp only [ByteArray.size_append, qp, s3]; omega))) rfl ?_
    refine qm (i := 17) (K := []) (by kernel_rfl) (by kernel_rfl) rfl rfl (qe qa rfl (by exact True.intro)) rfl ?_
    refine qY (by kernel_rfl) ?_
    refine SW.wk (qu [3, 6, 7, 8] [] rfl rfl) ?_
    exact ?fk5_355
    refine uA ?_
    refine ⟨_, _, ?_, qu [3, 6, 7, 8] [] rfl rfl, k + 1, _, _, hlt', rfl, qt hlt' (by omega), hS2, rfl⟩
    omega
  · refine qz ?_
    rw [lo] at hlt
    simp only [decide_eq_false_iff_not] at hlt
    have hkk : k = l.length := by omega
    subst hkk
    rw [List.take_length] at hSe
    refine uA ?_
    refine uQ ?_
    exact finS rfl hSe
end Go.Proofs.YtlmgamnpfdgdeaaGreatDoor
namespace Go.Proofs.YtlmgamnpfdgdeaaGreatDoor
set_option linter.unusedVariables false
set_option linter.unusedSimpArgs false
open Go.RowKit
set_option maxHeartbeats 4000000
theorem sfunc_h (op : Int) (h1 : 3 ≤ op) (h2 : op ≤ 13) : Holds Tryz.prog 131 [pI op] (.tup [.p (pS (zH fnsB (op - 3 + 1))), .p (pI (manyF op))]) [] := by
  have HW := word_h fnsB (op - 3 + 1) (by omega) (by show _ ≤ (11 : Int); omega) (by decide)
  generalize zH fnsB (op - 3 + 1) = W at *
  refine qo (ts := [2,3]) Tryz.func131 (by kernel_rfl) rfl rfl rfl ?_
  refine uA ?_
  refine uR ?_
  rw [show IntKind.i64.wrap (op - 3) = op - 3 from IntWalk.i64_in _ (by omega)]
  refine uS ?_
  rw [show IntKind.i64.wrap (op - 3 + 1) = op - 3 + 1 from IntWalk.i64_in _ (by omega)]
  refine uS ?_
  refine uK HW ?_
  refine qd ?_
  refine uZ [0, 2, 3, 4] [] ?_
  (repeat refine qF ?_); refine ql (by kernel_rfl) ?_
  repeat (refine qi qa rfl (by exact True.intro) rfl ?_)
  refine qH ?_
  refine uC (fun hc => ?_) (fun hc => ?_)
  · have e : manyF op = 1 := by
      change (bif (bif (op == 3) then true else (op == 4)) then true else (op == 11)) = true at hc
      unfold manyF
      rw [if_pos]
      revert hc
      by_cases a : op = 3 <;> by_cases b : op = 4 <;> by_cases c : op = 11 <;> simp [a, b, c]
    rw [e]
    refine uA ?_
    refine uQ ?_
    refine ⟨Or.inr rfl, _, _, [], Wk.refl _, rfl, rfl, rfl, rfl⟩
  · have e : manyF op = 2 := by
      change (bif (bif (op == 3) then true else (op == 4)) then true else (op == 11)) = false at hc
      unfold manyF
      rw [if_neg]
      revert hc
      by_cases a : op = 3 <;> by_cases b : op = 4 <;> by_cases c : op = 11 <;> simp [a, b, c]
    rw [e]
    refine qg ?_
    refine uA ?_
    refine uQ ?_
    refine ⟨Or.inr rfl, _, _, [], Wk.refl _, rfl, rfl, rfl, rfl⟩
theorem foldB_cnt : ∀ (l : List Nod) (st : List ByteArray), (l.foldl stB st).length ≤ st.length + l.length
  | [], st => Nat.le_refl _
  | n :: l, st => by
    have h := foldB_cnt l (stB st n)
    have h2 : (stB st n).length ≤ st.length + 1 := by
      unfold stB
      repeat' split
      · simp
      · simp
      · rw [List.length_append, List.length_take, List.length_singleton]; omega
    rw [List.foldl_cons, List.length_cons]; omega
theorem sexpr_h (l : List Nod) (h : wi l = 0) (hn : l ≠ []) (hf : ∀ x ∈ l, x.Fit) : Holds Tryz.prog 93 [nodsP l] (.p (pS (exprB l))) [] := by
  obtain ⟨hst, hl32⟩ := wE h hn
  have lm : (l.map Nod.pv).length = l.length := by simp
  have HE := expr_h l hf
  rw [h] at HE
  have hat := steps_attr hst
  have hsz := foldB_size hat
  have hfin := exprB_of h hn
  have hfz := exprB_size h hn
  have l0 : ¬ l.length = 0 := fun e => hn (List.length_eq_zero_iff.1 e)
  refine qo (ts := [2]) Tryz.func93 (by kernel_rfl) rfl rfl rfl ?_
  refine uA ?_
  refine uR ?_
  rw [show (((l.map Nod.pv).length : Int) == 0) = false by rw [lm]; simp; omega]
  refine uS ?_
  refine uK HE ?_
  refine qd ?_
  refine uC (fun hc => ?_) (fun hc => ?_)
  · cases hc
  refine qg ?_
  refine uA ?_
  refine uA ?_
  refine uB ?_
  refine SW.wk (jo 3 900 9 1 rfl rfl) ?_
  refine uZ [3, 18, 19, 20] [(900, 0)] ?_
  refine qC (fun m s => ∃ (k : Nat) (kk : Int) (S : List ByteArray) (made : List Bool), k ≤ l.length ∧ m = l.length - k ∧ kk = k ∧ S = (l.take k).foldl stB [] ∧ zi [] (l.take k) = some made ∧ S.length = made.length ∧ s = ⟨71, [(3, .row 0), (18, .p (nodsP l)), (19, .p (pI (l.map Nod.pv).length)), (20, .p (pI kk))], [(0, .row 9 1 (ssP S))]⟩) l.length ⟨0, 0, [], [], Nat.zero_le _, rfl, rfl, rfl, rfl, rfl, rfl⟩ ?_
  rintro m s ⟨k, _, S, made, hk, rfl, rfl, hSe, ha, hSl, rfl⟩
  refine uA ?_
  refine uC (fun hlt => ?_) (fun hlt => ?_)
  · refine qg ?_
    rw [lm] at hlt
    simp only [decide_eq_true_eq] at hlt
    have hlt' : k < l.length := by omega
    have hst2 := wW hlt' ha
    have hz := hsz k hk
    rw [← hSe] at hz
    have hS2 : stB S l[k] = (l.take (k + 1)).foldl stB [] := by rw [hSe]; exact (zw stB [] l k hlt').symm
    cases hs : zX made l[k] with
    | none =>
      rw [hs] at hst2
      rw [wT (k + 1) hst2] at hst
      cases hst
    | some made' =>
      rw [hs] at hst2
      have hSl' := stB_len hSl hs
      obtain ⟨_, hop1, hop2, hopn, _⟩ := step_ok hs
      have hxf := hf _ (List.getElem_mem hlt')
      have hxa := hat _ (List.getElem_mem hlt')
      have hSk : S.length ≤ 1000 := by
        have := foldB_cnt (l.take k) []
        rw [← hSe, List.length_take] at this
        simp only [List.length_nil] at this
        omega
      have lS : (ssP S).length = S.length := by simp
      obtain ⟨x, hx⟩ : ∃ x, x = l[k] := ⟨_, rfl⟩
      rw [← hx] at hS2 hs hSl' hop1 hop2 hopn hxf hxa
      refine uB ?_
      refine uR ?_
      refine qh qa rfl rfl (by rw [lm]; omega) rfl ?_
      rw [qx hlt', ← hx]
      refine uS ?_
      refine qd ?_
      refine uA ?_
      refine uB ?_
      refine uA ?_
      by_cases e1 : x.op = 1
      · rw [show (x.op == 1) = true by simpa using e1]
        refine uC (fun hc => ?_) (fun hc => ?_)
        · have HT := text_h x.val hxf.val
          have e : stB S x = S ++ [textS x.val] := by unfold stB; rw [if_pos e1]
          have e5 : ssP (S ++ [textS x.val]) = ssP S ++ [[pS (textS x.val)]] := List.map_append ..
          refine uR ?_
          refine uK HT ?_
          refine qI rfl (qr qa rfl rfl rfl rfl rfl rfl rfl rfl rfl rfl rfl rfl rfl rfl rfl rfl (by simp only [List.length_append, List.length_map, List.length_take, List.length_cons, List.length_nil]; unfold reachBytes; omega) (by simp only [List.length_append, List.length_map, List.length_take, List.length_cons, List.length_nil]; omega) ?_)
          refine uS ?_
          refine qd ?_
          refine uZ [3, 18, 19, 20] [(58, 0)] ?_
          refine uA ?_
          refine ⟨_, _, ?_, qu [3, 18, 19, 20] [(0, 0)] rfl rfl, k + 1, _, stB S x, made', hlt', rfl, qt hlt' (by omega), hS2, hst2, hSl', ?_⟩
          · omega
          · rw [e, e5]; rfl
        · cases hc
      · rw [show (x.op == 1) = false by simpa using e1]
        refine uC (fun hc => ?_) (fun hc => ?_)
        · cases hc
        refine uA ?_
        by_cases e2 : x.op = 2
        · rw [show (x.op == 2) = true by simpa using e2]
          refine uC (fun hd => ?_) (fun hd => ?_)
          · have HT := sattr_h x.attr (hxa e2)
            have e : stB S x = S ++ [attrB x.attr] := by unfold stB; rw [if_neg e1, if_pos e2]
            have e5 : ssP (S ++ [attrB x.attr]) = ssP S ++ [[pS (attrB x.attr)]] := List.map_append ..
            refine uR ?_
            refine uK HT ?_
            refine qI rfl (qr qa rfl rfl rfl rfl rfl rfl rfl rfl rfl rfl rfl rfl rfl rfl rfl rfl (by simp only [List.length_append, List.length_map, List.length_take, List.length_cons, List.length_nil]; unfold reachBytes; omega) (by simp only [List.length_append, List.length_map, List.length_take, List.length_cons, List.length_nil]; omega) ?_)
            refine uS ?_
            refine qd ?_
            refine uZ [3, 18, 19, 20] [(66, 0)] ?_
            refine uA ?_
            refine ⟨_, _, ?_, qu [3, 18, 19, 20] [(0, 0)] rfl rfl, k + 1, _, stB S x, made', hlt', rfl, qt hlt' (by omega), hS2, hst2, hSl', ?_⟩
            · omega
            · rw [e, e5]; rfl
          · cases hd
        · rw [show (x.op == 2) = false by simpa using e2]
          refine uC (fun hd => ?_) (fun hd => ?_)
          · cases hd
          have hmo := many_of e1 e2
          have HF := sfunc_h x.op (by omega) hop2
          have hml := manyF_le x.op
          obtain ⟨left, hleft⟩ : ∃ left : Nat, left + manyF x.op = S.length := ⟨S.length - manyF x.op, by omega⟩
          have hd2 := drop_size hml hz
          have hk2 := cK_max (k := k) (by omega)
          have hfs := fns_size (x.op - 3 + 1)
          have e : stB S x = S.take left ++ [⟨#[40]⟩ ++ zH fnsB (x.op - 3 + 1) ++ ⟨#[32]⟩ ++ joinB (S.drop left) ⟨#[32]⟩ ++ ⟨#[41]⟩] := by
            unfold stB; rw [if_neg e1, if_neg e2, show S.length - manyF x.op = left by omega]
          rw [show S.length - manyF x.op = left by omega] at hd2
          have HJ := joinS_h (S.drop left) ⟨#[32]⟩ (by rw [List.length_drop]; omega) (by omega)
          generalize zH fnsB (x.op - 3 + 1) = W at *
          generalize joinB (S.drop left) ⟨#[32]⟩ = J at *
          have e5 : ssP (S.take left ++ [⟨#[40]⟩ ++ W ++ ⟨#[32]⟩ ++ J ++ ⟨#[41]⟩]) = (ssP S).take left ++ [[pS (⟨#[40]⟩ ++ W ++ ⟨#[32]⟩ ++ J ++ ⟨#[41]⟩)]] := by
            show List.map _ _ = _
            rw [List.map_append, List.map_take]; rfl
          have E6 : ((ssP S).drop (Int.toNat (left : Int))).take (Int.toNat ((ssP S).length : Int) - Int.toNat (left : Int)) = ssP (S.drop left) := by
            rw [Int.toNat_natCast, Int.toNat_natCast, List.take_of_length_le (Nat.le_of_eq List.length_drop)]
            exact List.map_drop.symm
          rw [← E6] at HJ
          refine uR ?_
          refine uK HF ?_
          refine qd ?_
          refine uR ?_
          rw [show IntKind.i64.wrap (((ssP S).length : Int) - (manyF x.op : Int)) = (left : Int) by rw [lS, IntWalk.i64_in _ (by omega)]; omega]
          refine uS ?_
          refine qd ?_
          refine uR ?_
          refine qh qa rfl rfl (qO (by simp only [ByteArray.size_append, qp]; omega)) rfl ?_
          refine uS ?_
          refine qh qa rfl rfl (qO (by simp only [ByteArray.size_append, qp]; omega)) rfl ?_
          refine uS ?_
          refine qh qa rfl rfl (by rw [lS]; omega) rfl ?_
          refine uS ?_
          refine uK HJ ?_
          refine qh qa rfl rfl (qO (by simp only [ByteArray.size_append, qp]; omega)) rfl ?_
          refine uS ?_
          refine qh qa rfl rfl (qO (by simp only [ByteArray.size_append, qp]; omega)) rfl ?_
          refine uS ?_
          refine qd ?_
          refine uR ?_
          refine qh qa rfl rfl (by rw [lS]; omega) rfl ?_
          refine uS ?_
          refine qI rfl (ActOk.shrink 47 999 rfl rfl rfl rfl (qr qa rfl rfl rfl rfl rfl rfl rfl rfl rfl rfl rfl rfl rfl rfl rfl rfl (by simp only [List.length_append, List.length_take, lS, List.length_cons, List.length_nil]; unfold reachBytes; simp; omega) (by simp only [List.length_append, List.length_take, lS, List.length_cons, List.length_nil]; simp; omega) ?_))
          refine uS ?_
          refine qd ?_
          refine uZ [3, 18, 19, 20] [(50, 0)] ?_
          refine uA ?_
          refine ⟨_, _, ?_, qu [3, 18, 19, 20] [(0, 0)] rfl rfl, k + 1, _, stB S x, made', hlt', rfl, qt hlt' (by omega), hS2, hst2, hSl', ?_⟩
          · omega
          · rw [e, e5]; rfl
  · refine qz ?_
    rw [lm] at hlt
    simp only [decide_eq_false_iff_not] at hlt
    have hkk : k = l.length := by omega
    subst hkk
    rw [List.take_length] at hSe
    rw [hfin] at hSe
    subst hSe
    refine uR ?_
    refine qh qa rfl rfl (by simp) rfl ?_
    refine qh qa rfl (qP rfl rfl rfl rfl rfl (show (ssP [exprB l]).getD (Int.toNat 0) [] = [pS (exprB l)] from rfl) rfl) (by simp) rfl ?_
    refine uS ?_
    refine qd ?_
    refine uQ ?_
    refine ⟨Or.inr rfl, _, _, [], Wk.refl _, rfl, rfl, rfl, rfl⟩
end Go.Proofs.YtlmgamnpfdgdeaaGreatDoor
namespace Go.Proofs.YtlmgamnpfdgdeaaGreatDoor
set_option linter.unusedVariables false
set_option linter.unusedSimpArgs false
open Go.RowKit
set_option maxHeartbeats 4000000
theorem ruleE_ok {r : Rul} (h : ruleE r = 0) : zf r.target = 0 ∧ wi r.cond = 0 ∧ oblsS r.obls = 0 := by
  unfold ruleE at h
  split at h
  · split at h
    · exact ⟨by assumption, by assumption, h⟩
    · rename_i h1; exact absurd h h1
  · rename_i h1; exact absurd h h1
def RulOk (r : Rul) : Prop := r.id.size ≤ 16 ∧ zf r.target = 0 ∧ wi r.cond = 0 ∧ oblsS r.obls = 0
structure HdOk (p : Pol) : Prop where
  id : p.id.size ≤ 16
  a1 : 1 ≤ p.alg
  a6 : p.alg ≤ 6
  tgt : zf p.target = 0
  obls : oblsS p.obls = 0
  nr : p.rules.length ≤ 16
  nk : p.kids.length ≤ 16
def Prt : Nat → Pol → Prop
  | 0, _ => False
  | n + 1, p => HdOk p ∧ (∀ r ∈ p.rules, RulOk r) ∧ ∀ k ∈ p.kids, Prt n k
theorem nameOk_sz {m : List ByteArray} {s : ByteArray} (h : jT m s = true) : s.size ≤ 16 := by
  unfold jT at h
  simp only [Bool.and_eq_true] at h
  exact nameS_sz h.2
theorem hd_ok {w : Wlk} {p : Pol} (h : (headS w p).1 = 0) : HdOk p := by
  unfold headS at h
  simp only at h
  split at h
  · rename_i hc
    simp only [Bool.and_eq_true, decide_eq_true_eq] at hc
    unfold headE at h
    split at h
    · cases h
    · split at h
      · split at h
        · split at h
          · cases h
          · exact ⟨nameOk_sz hc.1.1, hc.1.2, hc.2, by assumption, by assumption, by omega, by omega⟩
        · rename_i h1; exact absurd h h1
      · rename_i h1; exact absurd h h1
  · cases h
theorem prt_of : ∀ (n : Nat) {w : Wlk} {p : Pol}, (polS n w p).1 = 0 → Prt n p
  | 0, w, p, h => by cases h
  | n + 1, w, p, h => by
    obtain ⟨h1, h2, h3⟩ := polS_kids h
    refine ⟨hd_ok h1, seqS_each (fun w r h => ?_) h2, seqS_each (fun w k h => prt_of n h) h3⟩
    obtain ⟨a, _, b⟩ := ruleS_ok.1 h
    exact ⟨nameOk_sz a, ruleE_ok b⟩
theorem prt_right {p : Pol} (h : wG p = 0) : Prt 4 p := prt_of 4 h
def szR : Nat := 1099511827776
def szB : Nat → Nat
  | 0 => 0
  | n + 1 => 16 * szB n + 20000000000000
theorem condB_size {r : Rul} (h : RulOk r) (hn : r.cond ≠ []) : (exprB r.cond).size ≤ 1099511627776 := exprB_size h.2.2.1 hn
theorem ruleB_size {r : Rul} (h : RulOk r) : (ruleB r).size ≤ szR := by
  have h1 := ww h.2.1
  have h2 := wm h.2.2.2
  have h3 := h.1
  have h4 : (⟨#[32, 100, 101, 110, 121, 32]⟩ : ByteArray).size = 6 := rfl
  have h5 : (⟨#[32, 112, 101, 114, 109, 105, 116, 32]⟩ : ByteArray).size = 8 := rfl
  have h6 : (⟨#[32, 105, 102, 32]⟩ : ByteArray).size = 4 := rfl
  unfold ruleB szR
  simp only
  split
  · split <;> (simp only [ByteArray.size_append, qp, h4, h5]; omega)
  · rename_i hn
    have := condB_size h hn
    split <;> (simp only [ByteArray.size_append, qp, h4, h5, h6]; omega)
def preB (b : Bool) : ByteArray := if b then ⟨#[115, 101, 116, 32]⟩ else ⟨#[112, 111, 108, 105, 99, 121, 32]⟩
def headB (p : Pol) : ByteArray := preB p.set ++ (p.id ++ ⟨#[32]⟩ ++ zH algsB p.alg ++ zU p.target ++ ⟨#[32, 123]⟩)
theorem headB_size {p : Pol} (h : HdOk p) : (headB p).size ≤ 118200 := by
  have h1 := ww h.tgt
  have h3 := h.id
  have h2 := algs_size p.alg
  have h4 : (⟨#[115, 101, 116, 32]⟩ : ByteArray).size = 4 := rfl
  have h5 : (⟨#[112, 111, 108, 105, 99, 121, 32]⟩ : ByteArray).size = 7 := rfl
  have h6 : (⟨#[32, 123]⟩ : ByteArray).size = 2 := rfl
  unfold headB preB
  split <;> (simp only [ByteArray.size_append, qp, h4, h5, h6]; omega)
def rulesB (p : Pol) (k : Nat) : ByteArray := catB ruleB (headB p) (p.rules.take k)
def kidsB (n : Nat) (p : Pol) (k : Nat) : ByteArray := catB (fun q => ⟨#[32]⟩ ++ polB n q) (rulesB p p.rules.length) (p.kids.take k)
theorem polB_eq (n : Nat) (p : Pol) : polB (n + 1) p = kidsB n p p.kids.length ++ ⟨#[32, 125]⟩ ++ wy p.obls := by
  unfold kidsB rulesB headB
  rw [List.take_length, List.take_length]; rfl
theorem rulesB_size {n : Nat} {p : Pol} (h : Prt (n + 1) p) (k : Nat) : (rulesB p k).size ≤ 118200 + 16 * szR := by
  have h1 := headB_size h.1
  have h2 := catB_size (f := ruleB) (s := headB p) (c := szR) (l := p.rules.take k) fun r hr => ruleB_size (h.2.1 r (List.mem_of_mem_take hr))
  have h3 : (p.rules.take k).length * szR ≤ 16 * szR := Nat.mul_le_mul_right _ (by rw [List.length_take]; have := h.1.nr; omega)
  unfold rulesB; omega
theorem kidsB_size {n : Nat} {p : Pol} (h : Prt (n + 1) p) (hk : ∀ k ∈ p.kids, (polB n k).size ≤ szB n) (k : Nat) : (kidsB n p k).size ≤ 118200 + 16 * szR + 16 * (szB n + 1) := by
  have h1 := rulesB_size h p.rules.length
  have h2 := catB_size (f := fun q => ⟨#[32]⟩ ++ polB n q) (s := rulesB p p.rules.length) (c := szB n + 1) (l := p.kids.take k) fun q hq => by
    have := hk q (List.mem_of_mem_take hq)
    rw [ByteArray.size_append, qp]; omega
  have h3 : (p.kids.take k).length * (szB n + 1) ≤ 16 * (szB n + 1) := Nat.mul_le_mul_right _ (by rw [List.length_take]; have := h.1.nk; omega)
  unfold kidsB; omega
theorem polB_size : ∀ {n : Nat} {p : Pol}, Prt n p → (polB n p).size ≤ szB n
  | n + 1, p, h => by
    have h1 := kidsB_size h (fun k hk => polB_size (h.2.2 k hk)) p.kids.length
    have h2 := wm h.1.obls
    have h3 : (⟨#[32, 125]⟩ : ByteArray).size = 2 := rfl
    rw [polB_eq]
    simp only [ByteArray.size_append, h3, szB]
    unfold szR at h1
    omega
def rB (s : ByteArray) (c : List Nod) (D : ByteArray) : ByteArray := (if c = [] then s else s ++ (⟨#[32, 105, 102, 32]⟩ ++ exprB c)) ++ D ++ ⟨#[59]⟩
theorem rule_sh (r : Rul) (h : RulOk r) (hf : RulFit r) : Holds Tryz.prog 62 [.agg (jl r)] (.p (pS (ruleB r))) [] := by
  have hp1 : (⟨#[32, 100, 101, 110, 121, 32]⟩ : ByteArray).size = 6 := rfl
  have hp2 : (⟨#[32, 112, 101, 114, 109, 105, 116, 32]⟩ : ByteArray).size = 8 := rfl
  have hp3 : (⟨#[32, 105, 102, 32]⟩ : ByteArray).size = 4 := rfl
  have HT := starget_h r.target h.2.1 hf.tgt
  have HE := fun hn => sexpr_h r.cond h.2.2.1 hn hf.cond
  have HD := duties_sh r.obls h.2.2.2 hf.obls
  have hcond := h.2.2.1
  have z1 := ww h.2.1
  have z2 := wm h.2.2.2
  have z3 := h.1
  have e0 : ruleB r = rB ((if r.deny then ⟨#[32, 100, 101, 110, 121, 32]⟩ else ⟨#[32, 112, 101, 114, 109, 105, 116, 32]⟩) ++ (r.id ++ zU r.target)) r.cond (wy r.obls) := rfl
  rw [e0]
  clear e0 h hf
  obtain ⟨id, deny, tgt, cond, obls⟩ := r
  have lc : (cond.map Nod.pv).length = cond.length := by simp
  simp only at *
  generalize zU tgt = T at *
  generalize wy obls = D at *
  refine qo (ts := [2]) Tryz.func62 (by kernel_rfl) rfl rfl rfl ?_
  refine uA ?_
  refine uA ?_
  refine uA ?_
  cases deny with
  | true =>
    rw [if_pos rfl]
    refine uC (fun h1 => ?_) (fun h1 => ?_)
    · refine uA ?_
      refine uD [] [1, 3, 5, 7, 9, 10, 13, 15, 17] ?_
      refine uk HT ?_
      refine uT ?_
      refine qG qa rfl rfl rfl (qO (by show id.size + T.size ≤ _; omega)) rfl ?_
      refine uT ?_
      refine qG qa rfl rfl rfl (qO (by simp only [ByteArray.size_append, qp, hp1, hp2]; omega)) rfl ?_
      refine uT ?_
      refine wd ?_
      refine uA ?_
      rw [lc]
      by_cases hc : cond = []
      · have e : rB ((⟨#[32, 100, 101, 110, 121, 32]⟩ : ByteArray) ++ (id ++ T)) cond D = (⟨#[32, 100, 101, 110, 121, 32]⟩ : ByteArray) ++ (id ++ T) ++ D ++ ⟨#[59]⟩ := by unfold rB; rw [if_pos hc]
        rw [e, show decide ((cond.length : Int) > 0) = false by subst hc; rfl]
        refine uC (fun h2 => ?_) (fun h2 => ?_)
        · cases h2
        refine qg ?_
        refine uR ?_
        refine uK HD ?_
        refine qh qa rfl rfl (qO (by simp only [ByteArray.size_append, qp, hp1, hp2]; omega)) rfl ?_
        refine uS ?_
        refine qh qa rfl rfl (qO (by simp only [ByteArray.size_append, qp, hp1, hp2]; omega)) rfl ?_
        refine uS ?_
        refine qd ?_
        refine uQ ?_
        refine ⟨Or.inr rfl, _, _, [], Wk.refl _, rfl, rfl, rfl, rfl⟩
      · have hE := HE hc
        have hs2 := exprB_size hcond hc
        have e : rB ((⟨#[32, 100, 101, 110, 121, 32]⟩ : ByteArray) ++ (id ++ T)) cond D = (⟨#[32, 100, 101, 110, 121, 32]⟩ : ByteArray) ++ (id ++ T) ++ (⟨#[32, 105, 102, 32]⟩ ++ exprB cond) ++ D ++ ⟨#[59]⟩ := by unfold rB; rw [if_neg hc]
        have hpos : 0 < cond.length := List.length_pos_iff.2 hc
        rw [e, show decide ((cond.length : Int) > 0) = true by rw [decide_eq_true_eq]; omega]
        generalize exprB cond = X at *
        refine uC (fun h2 => ?_) (fun h2 => ?_)
        · refine uR ?_
          refine uK hE ?_
          refine qh qa rfl rfl (qO (by simp only [hp3]; omega)) rfl ?_
          refine uS ?_
          refine qh qa rfl rfl (qO (by simp only [ByteArray.size_append, qp, hp1, hp2, hp3]; omega)) rfl ?_
          refine uS ?_
          refine qd ?_
          refine uR ?_
          refine uK HD ?_
          refine qh qa rfl rfl (qO (by simp only [ByteArray.size_append, qp, hp1, hp2, hp3]; omega)) rfl ?_
          refine uS ?_
          refine qh qa rfl rfl (qO (by simp only [ByteArray.size_append, qp, hp1, hp2, hp3]; omega)) rfl ?_
          refine uS ?_
          refine qd ?_
          refine uQ ?_
          refine ⟨Or.inr rfl, _, _, [], Wk.refl _, rfl, rfl, rfl, rfl⟩
        · cases h2
    · cases h1
  | false =>
    rw [if_neg (by simp)]
    refine uC (fun h1 => ?_) (fun h1 => ?_)
    · cases h1
    refine qg ?_
    refine uD [] [1, 3, 5, 7, 9, 10, 13, 15, 17] ?_
    refine uk HT ?_
    refine uT ?_
    refine qG qa rfl rfl rfl (qO (by show id.size + T.size ≤ _; omega)) rfl ?_
    refine uT ?_
    refine qG qa rfl rfl rfl (qO (by simp only [ByteArray.size_append, qp, hp1, hp2]; omega)) rfl ?_
    refine uT ?_
    refine wd ?_
    refine uA ?_
    rw [lc]
    by_cases hc : cond = []
    · have e : rB ((⟨#[32, 112, 101, 114, 109, 105, 116, 32]⟩ : ByteArray) ++ (id ++ T)) cond D = (⟨#[32, 112, 101, 114, 109, 105, 116, 32]⟩ : ByteArray) ++ (id ++ T) ++ D ++ ⟨#[59]⟩ := by unfold rB; rw [if_pos hc]
      rw [e, show decide ((cond.length : Int) > 0) = false by subst hc; rfl]
      refine uC (fun h2 => ?_) (fun h2 => ?_)
      · cases h2
      refine qg ?_
      refine uR ?_
      refine uK HD ?_
      refine qh qa rfl rfl (qO (by simp only [ByteArray.size_append, qp, hp1, hp2]; omega)) rfl ?_
      refine uS ?_
      refine qh qa rfl rfl (qO (by simp only [ByteArray.size_append, qp, hp1, hp2]; omega)) rfl ?_
      refine uS ?_
      refine qd ?_
      refine uQ ?_
      refine ⟨Or.inr rfl, _, _, [], Wk.refl _, rfl, rfl, rfl, rfl⟩
    · have hE := HE hc
      have hs2 := exprB_size hcond hc
      have e : rB ((⟨#[32, 112, 101, 114, 109, 105, 116, 32]⟩ : ByteArray) ++ (id ++ T)) cond D = (⟨#[32, 112, 101, 114, 109, 105, 116, 32]⟩ : ByteArray) ++ (id ++ T) ++ (⟨#[32, 105, 102, 32]⟩ ++ exprB cond) ++ D ++ ⟨#[59]⟩ := by unfold rB; rw [if_neg hc]
      have hpos : 0 < cond.length := List.length_pos_iff.2 hc
      rw [e, show decide ((cond.length : Int) > 0) = true by rw [decide_eq_true_eq]; omega]
      generalize exprB cond = X at *
      refine uC (fun h2 => ?_) (fun h2 => ?_)
      · refine uR ?_
        refine uK hE ?_
        refine qh qa rfl rfl (qO (by simp only [hp3]; omega)) rfl ?_
        refine uS ?_
        refine qh qa rfl rfl (qO (by simp only [ByteArray.size_append, qp, hp1, hp2, hp3]; omega)) rfl ?_
        refine uS ?_
        refine qd ?_
        refine uR ?_
        refine uK HD ?_
        refine qh qa rfl rfl (qO (by simp only [ByteArray.size_append, qp, hp1, hp2, hp3]; omega)) rfl ?_
        refine uS ?_
        refine qh qa rfl rfl (qO (by simp only [ByteArray.size_append, qp, hp1, hp2, hp3]; omega)) rfl ?_
        refine uS ?_
        refine qd ?_
        refine uQ ?_
        refine ⟨Or.inr rfl, _, _, [], Wk.refl _, rfl, rfl, rfl, rfl⟩
      · cases h2
def TxOk (n : Nat) : Prop := ∀ (m : Nat) (p : Pol), Prt n p → PolF m p → szB n ≤ 1000000000000000000 → Holds Tryz.prog 36 [.agg (polP p)] (.p (pS (polB n p))) []
theorem text_step (n : Nat) (IH : TxOk n) : TxOk (n + 1) := by
  intro m p hp hf hz
  cases m with
  | zero => cases hf
  | succ m =>
  have hp1 : (⟨#[115, 101, 116, 32]⟩ : ByteArray).size = 4 := rfl
  have hp2 : (⟨#[112, 111, 108, 105, 99, 121, 32]⟩ : ByteArray).size = 7 := rfl
  have hp3 : (⟨#[32, 123]⟩ : ByteArray).size = 2 := rfl
  have hp4 : (⟨#[32, 125]⟩ : ByteArray).size = 2 := rfl
  have hz' : szB (n + 1) = 16 * szB n + 20000000000000 := rfl
  have eR : szR = 1099511827776 := rfl
  have HT := starget_h p.target hp.1.tgt hf.1.tgt
  have HD := duties_sh p.obls hp.1.obls hf.1.obls
  have HW := word_h algsB p.alg hp.1.a1 hp.1.a6 (by decide)
  have HR := fun r hr => rule_sh r (hp.2.1 r hr) (hf.1.rules r hr)
  have HK := fun k hk => IH m k (hp.2.2 k hk) (hf.2.2 k hk) (by omega)
  have z1 := ww hp.1.tgt
  have z2 := wm hp.1.obls
  have z3 := hp.1.id
  have z4 := algs_size p.alg
  have z5 := fun k => rulesB_size hp k
  have z6 := fun k => kidsB_size hp (fun k hk => polB_size (hp.2.2 k hk)) k
  have z7 := fun r hr => ruleB_size (hp.2.1 r hr)
  have z8 := fun k hk => polB_size (hp.2.2 k hk)
  have nr := hp.1.nr
  have nk := hp.1.nk
  have e1 : ∀ k (h : k < p.rules.length), rulesB p k ++ ruleB p.rules[k] = rulesB p (k + 1) := fun k h => (zw (fun s x => s ++ ruleB x) (headB p) p.rules k h).symm
  have e2 : ∀ k (h : k < p.kids.length), kidsB n p k ++ (⟨#[32]⟩ ++ polB n p.kids[k]) = kidsB n p (k + 1) := fun k h => (zw (fun s x => s ++ (⟨#[32]⟩ ++ polB n x)) (rulesB p p.rules.length) p.kids k h).symm
  have e0 : rulesB p 0 = headB p := rfl
  have e3 : kidsB n p 0 = rulesB p p.rules.length := rfl
  have hH : headB p = preB p.set ++ (p.id ++ ⟨#[32]⟩ ++ zH algsB p.alg ++ zU p.target ++ ⟨#[32, 123]⟩) := rfl
  rw [polB_eq]
  generalize hRB : rulesB p = RB at *
  generalize hKB : kidsB n p = KB at *
  generalize headB p = HB at *
  rw [zh]
  clear hRB hKB hp hf IH
  obtain ⟨id, set, alg, tg, rules, kids, obls⟩ := p
  simp only [Pol.id, Pol.set, Pol.alg, Pol.target, Pol.rules, Pol.kids, Pol.obls] at *
  have l1 : (rules.map jl).length = rules.length := by simp
  have l2 : (kids.map polP).length = kids.length := by simp
  generalize zU tg = T at *
  generalize wy obls = D at *
  generalize zH algsB alg = W at *
  refine qo (ts := [2]) Tryz.func36 (by kernel_rfl) rfl rfl rfl ?_
  refine uA ?_
  refine uA ?_
  refine uA ?_
  (repeat refine qF ?_)
  refine SW.mono (Q := fun e s => e = .normal ∧ Wk s ⟨56, [(1, .ptr 1 0), (3, .p (pS (preB set)))], [(1, .cells [.p (pS id), .p (pB set), .p (pI alg), .p (tgtP tg), .p (.sl 5 (rules.map jl)), .p (.sl 7 (kids.map polP)), .p (jt obls)])]⟩) ?_ ?_
  · cases set with
    | true =>
      refine uC (fun h1 => ?_) (fun h1 => ?_)
      · refine uA ?_
        exact ⟨rfl, qu [1, 3] [(1, 1)] rfl rfl⟩
      · cases h1
    | false =>
      refine uC (fun h1 => ?_) (fun h1 => ?_)
      · cases h1
      refine qg ?_
      exact ⟨rfl, qu [1, 3] [(1, 1)] rfl rfl⟩
  rintro e s ⟨rfl, hwk⟩
  refine SW.wk hwk ?_
  have hpz : (preB set).size ≤ 7 := by
    unfold preB
    split
    · rw [hp1]; omega
    · rw [hp2]; omega
  generalize preB set = H at *
  clear hwk
  refine uD [] [1, 3, 5, 7, 9, 11, 19, 21, 12, 14, 17, 22, 25, 27, 29, 31] ?_
  refine qG qa rfl rfl rfl (qO (by simp only [qp]; omega)) rfl ?_
  refine uT ?_
  refine uk HW ?_
  refine qG qa rfl rfl rfl (qO (by simp only [ByteArray.size_append, qp]; omega)) rfl ?_
  refine uT ?_
  refine uk HT ?_
  refine qG qa rfl rfl rfl (qO (by simp only [ByteArray.size_append, qp]; omega)) rfl ?_
  refine uT ?_
  refine qG qa rfl rfl rfl (qO (by simp only [ByteArray.size_append, qp, hp3]; omega)) rfl ?_
  refine uT ?_
  refine qG qa rfl rfl rfl (qO (by simp only [ByteArray.size_append, qp, hp3]; omega)) rfl ?_
  refine uT ?_
  refine wd ?_
  refine uA ?_
  refine uB ?_
  refine uZ [1, 3, 26, 27, 28] [(1, 1)] ?_
  refine qC (fun m s => ∃ (k : Nat) (kk : Int) (S : ByteArray), k ≤ rules.length ∧ m = rules.length - k ∧ kk = k ∧ S = RB k ∧ s = ⟨56, [(1, .ptr 1 0), (3, .p (pS S)), (26, .p (.sl 5 (rules.map jl))), (27, .p (pI (rules.map jl).length)), (28, .p (pI kk))], [(1, .cells [.p (pS id), .p (pB set), .p (pI alg), .p (tgtP tg), .p (.sl 5 (rules.map jl)), .p (.sl 7 (kids.map polP)), .p (jt obls)])]⟩) rules.length ⟨0, 0, _, Nat.zero_le _, rfl, rfl, by rw [e0, hH], rfl⟩ ?_
  rintro m s ⟨k, _, S, hk, rfl, rfl, hS, rfl⟩
  refine uA ?_
  refine uC (fun hlt => ?_) (fun hlt => ?_)
  · refine qg ?_
    rw [l1] at hlt
    simp only [decide_eq_true_eq] at hlt
    have hlt' : k < rules.length := by omega
    have HC := HR _ (List.getElem_mem hlt')
    have zc := z7 _ (List.getElem_mem hlt')
    have ec := e1 k hlt'
    have zz := z5 k
    rw [← hS] at ec zz
    obtain ⟨x, hx⟩ : ∃ x, x = rules[k] := ⟨_, rfl⟩
    rw [← hx] at HC zc ec
    refine uB ?_
    refine uR ?_
    refine qh qa rfl rfl (by rw [l1]; omega) rfl ?_
    rw [qx hlt', ← hx]
    refine uS ?_
    refine qd ?_
    refine uR ?_
    refine uK HC ?_
    refine qh qa rfl rfl (qO (by omega)) rfl ?_
    refine uS ?_
    refine qd ?_
    refine uA ?_
    refine ⟨_, _, ?_, qu [1, 3, 26, 27, 28] [(1, 1)] rfl rfl, k + 1, _, _, hlt', rfl, qt hlt' (by omega), ec, rfl⟩
    omega
  · refine qz ?_
    rw [l1] at hlt
    simp only [decide_eq_false_iff_not] at hlt
    have hkk : k = rules.length := by omega
    subst hkk
    refine uA ?_
    refine uB ?_
    refine uZ [1, 3, 38, 39, 40] [(1, 1)] ?_
    refine qC (fun m s => ∃ (k : Nat) (kk : Int) (S : ByteArray), k ≤ kids.length ∧ m = kids.length - k ∧ kk = k ∧ S = KB k ∧ s = ⟨56, [(1, .ptr 1 0), (3, .p (pS S)), (38, .p (.sl 7 (kids.map polP))), (39, .p (pI (kids.map polP).length)), (40, .p (pI kk))], [(1, .cells [.p (pS id), .p (pB set), .p (pI alg), .p (tgtP tg), .p (.sl 5 (rules.map jl)), .p (.sl 7 (kids.map polP)), .p (jt obls)])]⟩) kids.length ⟨0, 0, _, Nat.zero_le _, rfl, rfl, hS.trans e3.symm, rfl⟩ ?_
    clear hS hk
    rintro m s ⟨k, _, S, hk, rfl, rfl, hS, rfl⟩
    have zz := z6 k
    rw [← hS] at zz
    refine uA ?_
    refine uC (fun hlt => ?_) (fun hlt => ?_)
    · refine qg ?_
      rw [l2] at hlt
      simp only [decide_eq_true_eq] at hlt
      have hlt' : k < kids.length := by omega
      have HC := HK _ (List.getElem_mem hlt')
      have zc := z8 _ (List.getElem_mem hlt')
      have ec := e2 k hlt'
      rw [← hS] at ec
      obtain ⟨x, hx⟩ : ∃ x, x = kids[k] := ⟨_, rfl⟩
      rw [← hx] at HC zc ec
      rw [zh] at HC
      refine uB ?_
      refine uR ?_
      refine qh qa rfl rfl (by rw [l2]; omega) rfl ?_
      rw [qx hlt', ← hx, zh]
      refine uS ?_
      refine qd ?_
      refine uR ?_
      refine uK HC ?_
      refine qh qa rfl rfl (qO (by simp only [qp]; omega)) rfl ?_
      refine uS ?_
      refine qh qa rfl rfl (qO (by simp only [ByteArray.size_append, qp]; omega)) rfl ?_
      refine uS ?_
      refine qd ?_
      refine uA ?_
      refine ⟨_, _, ?_, qu [1, 3, 38, 39, 40] [(1, 1)] rfl rfl, k + 1, _, _, hlt', rfl, qt hlt' (by omega), ec, rfl⟩
      omega
    · refine qz ?_
      rw [l2] at hlt
      simp only [decide_eq_false_iff_not] at hlt
      have hkk : k = kids.length := by omega
      subst hkk
      refine uR ?_
      refine qh qa rfl rfl (qO (by simp only [hp4]; omega)) rfl ?_
      refine uS ?_
      refine uK HD ?_
      refine qh qa rfl rfl (qO (by simp only [ByteArray.size_append, hp4]; omega)) rfl ?_
      refine uS ?_
      refine qd ?_
      refine uQ ?_
      exact finS rfl (by rw [hS])
theorem text_all : ∀ n, TxOk n
  | 0 => fun _ _ h => h.elim
  | n + 1 => text_step n (text_all n)
theorem show_h {n : Nat} (p : Pol) (hf : PolF n p) (h : wG p = 0) : Holds Tryz.prog 13 [.agg (polP p)] (.p (pS (polB 4 p))) [] := by
  have HR := right_h p (polF_fit 4 hf)
  have HT := text_all 4 n p (prt_right h) hf (by decide)
  rw [h] at HR
  generalize polB 4 p = S at *
  rw [zh] at HR HT ⊢
  refine qo (ts := [2]) Tryz.func13 (by kernel_rfl) rfl rfl rfl ?_
  refine uA ?_
  refine uR ?_
  refine uK HR ?_
  refine qd ?_
  refine uC (fun hc => ?_) (fun hc => ?_)
  · cases hc
  refine qg ?_
  refine uR ?_
  refine uK HT ?_
  refine qd ?_
  refine uQ ?_
  refine ⟨Or.inr rfl, _, _, [], Wk.refl _, rfl, rfl, rfl, rfl⟩
theorem show_size {p : Pol} (h : wG p = 0) : (polB 4 p).size ≤ 1000000000000000000 := Nat.le_trans (polB_size (prt_right h)) (by decide)
end Go.Proofs.YtlmgamnpfdgdeaaGreatDoor
namespace Go.Proofs.YtlmgamnpfdgdeaaGreatDoor
set_option linter.unusedVariables false
set_option linter.unusedSimpArgs false
open Go.RowKit
set_option maxHeartbeats 1000000
theorem beq_bytes (a b : ByteArray) : (a.toList == b.toList) = decide (a = b) := by
  rw [Bool.eq_iff_iff]
  simp only [beq_iff_eq, decide_eq_true_eq]
  exact ⟨toList_inj, fun h => by rw [h]⟩
theorem cloneV_h (l : List Val) (hn : l.length ≤ 1000000) : Holds Tryz.prog 38 [valsP l] (.row 0) [(0, .row 31 3 (l.map Val.pv))] := by
  refine qo (ts := [2]) Tryz.func38 (by kernel_rfl) rfl rfl rfl ?_
  refine uA ?_
  refine uR ?_
  refine qI rfl (act_nilcmp qa rfl rfl rfl rfl rfl rfl (fun b hb => ?_))
  refine qd ?_
  refine uC (fun hc => ?_) (fun hc => ?_)
  · have hl := hb hc
    have hl' : l = [] := by simpa using hl
    subst hl'
    refine uA ?_
    refine uQ ?_
    exact ⟨Or.inr rfl, _, _, [(0, 0)], jo 2 0 31 3 rfl rfl, rfl, rfl, rfl, rfl⟩
  · refine qg ?_
    refine uR ?_
    refine qI rfl (qr qa rfl rfl rfl rfl rfl rfl rfl rfl rfl rfl rfl rfl rfl rfl rfl rfl (by simp [reachBytes]; omega) (by simp; omega) ?_)
    refine uS ?_
    refine qd ?_
    refine uQ ?_
    exact uF [(7, 0)]
theorem place1_h (cat : Int) (name : ByteArray) (g : Giv) : Holds Tryz.prog 54 [.agg g.pv, .rp [pI cat], .rp [pS name]] (.p (pB (isG cat name g))) [] := by
  refine qo (ts := [4]) Tryz.func54 (by kernel_rfl) rfl rfl rfl ?_
  refine uA ?_
  (repeat refine qF ?_); refine ql (by kernel_rfl) ?_
  repeat (refine qi qa rfl (by exact True.intro) rfl ?_)
  refine qH ?_
  refine uQ ?_
  refine wJ rfl ?_
  unfold isG
  rw [beq_bytes]
  cases h : decide (g.cat = cat) <;> simp_all
theorem index_h (l : List Giv) (hn : l.length ≤ 1000000) (f : FuncId) (caps : List PV) (p : Giv → Bool) (hF : ∀ g, Holds Tryz.prog f ([.agg g.pv] ++ caps) (.p (pB (p g))) []) :
    Holds Tryz.prog 53 [zj l, .fn f caps] (.p (pI (if l.findIdx p < l.length then (l.findIdx p : Int) else -1))) [] := by
  refine qo (ts := [4]) Tryz.func53 (by kernel_rfl) rfl rfl rfl ?_
  refine uA ?_
  refine uA ?_
  refine uB ?_
  refine uZ [0, 1, 7, 8] [] ?_
  refine qC (fun n s => ∃ (k : Nat) (kk : Int), k ≤ l.length ∧ n = l.length - k ∧ kk = k ∧ (∀ g ∈ l.take k, p g = false) ∧ s = ⟨19, [(0, .p (zj l)), (1, .p (.fn f caps)), (7, .p (pI (l.map Giv.pv).length)), (8, .p (pI kk))], []⟩) l.length ⟨0, 0, Nat.zero_le _, rfl, rfl, by simp, rfl⟩ ?_
  rintro n s ⟨k, _, hk, rfl, rfl, ha, rfl⟩
  refine uA ?_
  refine uC (fun hlt => ?_) (fun hlt => ?_)
  · refine qg ?_
    simp only [List.length_map, decide_eq_true_eq] at hlt
    have hlt' : k < l.length := by omega
    refine uB ?_
    refine uA ?_
    refine uR ?_
    refine qh qa rfl rfl (by simp only [List.length_map]; omega) rfl ?_
    rw [qx hlt']
    refine uS ?_
    refine uK (hF l[k]) ?_
    refine qd ?_
    refine uC (fun hp => ?_) (fun hp => ?_)
    · refine uA ?_
      refine uQ ?_
      refine qW rfl ?_
      have e : l.findIdx p = k := (List.findIdx_eq hlt').2 ⟨hp, fun j hj => ha _ (List.mem_take_iff_getElem.2 ⟨j, by omega, rfl⟩)⟩
      rw [e, if_pos hlt']
    · refine qg ?_
      refine uA ?_
      refine ⟨_, _, ?_, qu [0, 1, 7, 8] [] rfl rfl, k + 1, _, hlt', rfl, qt hlt' (by omega), ?_, rfl⟩
      · omega
      · intro g hg
        rw [List.take_succ_eq_append_getElem hlt', List.mem_append, List.mem_singleton] at hg
        rcases hg with hg | rfl
        · exact ha g hg
        · exact hp
  · refine qz ?_
    simp only [List.length_map, decide_eq_false_iff_not] at hlt
    have hkk : k = l.length := by omega
    subst hkk
    refine uA ?_
    refine uQ ?_
    refine qW rfl ?_
    rw [List.take_length] at ha
    rw [if_neg]
    have := List.findIdx_eq_length_of_false ha
    omega
theorem place_h (cat : Int) (name : ByteArray) (l : List Giv) (hn : l.length ≤ 1000000) : Holds Tryz.prog 31 [zj l, pI cat, pS name] (.p (pI (placeS cat name l))) [] := by
  refine qo (ts := [6]) Tryz.func31 (by kernel_rfl) rfl rfl rfl ?_
  refine uA ?_
  refine uR ?_
  refine uK (index_h l hn _ _ (isG cat name) (fun g => place1_h cat name g)) ?_
  refine qd ?_
  refine uQ ?_
  exact qW rfl rfl
theorem get_h (a : Atr) (l : List Giv) (hn : l.length ≤ 1000000) (hb : ∀ g ∈ l, g.bag.length ≤ 1000000) : Holds Tryz.prog 113 [zj l, .agg a.pv] (.tup [.p (valsP (getS a l).1), .p (pI (getS a l).2)]) [] := by
  refine qo (ts := [4,5]) Tryz.func113 (by kernel_rfl) rfl rfl rfl ?_
  refine uA ?_
  refine uA ?_
  refine uR ?_
  refine uK (place_h a.cat a.name l hn) ?_
  refine qd ?_
  rcases place_cases a.cat a.name l with ⟨hp, hbag, _⟩ | ⟨k, hk, hp, hbag, _, _⟩
  · rw [hp]
    refine uA ?_
    refine uC (fun hc => ?_) (fun hc => ?_)
    · simp at hc
    · refine qg ?_
      refine uA ?_
      refine uC (fun hm => ?_) (fun hm => ?_)
      · replace hm : a.must = true := hm
        have e : getS a l = ([], 4) := by simp [getS, hbag, hm]
        rw [e]
        refine uA ?_
        refine uQ ?_
        exact ⟨Or.inr rfl, _, _, [], wk_nilp 4 900 31 3 rfl rfl, rfl, rfl, rfl, rfl⟩
      · replace hm : a.must = false := hm
        have e : getS a l = ([], 0) := by simp [getS, hbag, hm]
        rw [e]
        refine qg ?_
        refine uA ?_
        refine uQ ?_
        exact ⟨Or.inr rfl, _, _, [], wk_nilp 4 900 31 3 rfl rfl, rfl, rfl, rfl, rfl⟩
  · rw [hp]
    refine uA ?_
    refine uC (fun hc => ?_) (fun hc => ?_)
    · refine uR ?_
      refine qh qa rfl rfl (by simp only [List.length_map]; omega) rfl ?_
      rw [qx hk]
      refine uS ?_
      refine uO ((cloneV_h l[k].bag (hb _ (List.getElem_mem hk))).row_sl) ?_
      refine qd ?_
      generalize l[k].bag = b at *
      cases b with
      | nil =>
        refine uA ?_
        refine uC (fun hm => ?_) (fun hm => ?_)
        · replace hm : a.must = true := hm
          have e : getS a l = ([], 4) := by simp [getS, hbag, hm]
          rw [e]
          refine uA ?_
          refine uQ ?_
          exact ⟨Or.inr rfl, _, _, [], wk_nilp 4 900 31 3 rfl rfl, rfl, rfl, rfl, rfl⟩
        · replace hm : a.must = false := hm
          have e : getS a l = ([], 0) := by simp [getS, hbag, hm]
          rw [e]
          refine qg ?_
          refine uA ?_
          refine uQ ?_
          exact uF []
      | cons v r =>
        have e : getS a l = (v :: r, 0) := by simp [getS, hbag]
        rw [e]
        refine uR ?_
        rw [show ((((v :: r).map Val.pv).length : Int) == 0) = false by simp; omega]
        refine uS ?_
        refine qd ?_
        refine uC (fun hm => ?_) (fun hm => ?_)
        · cases hm
        · refine qg ?_
          refine uA ?_
          refine uQ ?_
          exact uF []
    · exfalso
      simp at hc
end Go.Proofs.YtlmgamnpfdgdeaaGreatDoor
namespace Go.Proofs.YtlmgamnpfdgdeaaGreatDoor
set_option linter.unusedVariables false
set_option linter.unusedSimpArgs false
open Go.RowKit
theorem inf_at {n s : ByteArray} (h : Inf n s) : ∃ j : Nat, j + n.size ≤ s.size ∧ s.extract j (j + n.size) = n := by
  obtain ⟨a, b, rfl⟩ := h
  refine ⟨a.size, by simp only [ByteArray.size_append]; omega, ?_⟩
  apply ByteArray.ext
  apply Array.toList_inj.1
  rw [ByteArray.data_extract, ByteArray.data_append, ByteArray.data_append, Array.toList_extract, List.extract_eq_take_drop, Array.toList_append, Array.toList_append]
  have e1 : a.size = a.data.toList.length := rfl
  have e2 : n.size = n.data.toList.length := rfl
  rw [List.append_assoc, e1, List.drop_left, e2, Nat.add_sub_cancel_left, List.take_left]
theorem mat_in {m : Mat} : Inf m.attr.name (matB m) := by
  have h : Inf m.attr.name (attrB m.attr) := by
    unfold attrB
    split
    · exact wN (inf_r (inf_self _) _) _
    · exact inf_r (inf_self _) _
  unfold matB
  exact wN (wN (wN (wN h _) _) _) _
theorem tar_in {t : Tar} {a : Atm} (h : a ∈ tarA t) : a.c = [] ∧ Inf a.m.attr.name (zU t) := by
  obtain ⟨x, hx, h⟩ := List.mem_flatMap.1 h
  obtain ⟨y, hy, h⟩ := List.mem_flatMap.1 h
  obtain ⟨m, hm, rfl⟩ := List.mem_map.1 h
  refine ⟨rfl, ?_⟩
  have h1 : Inf m.attr.name (allB y) := inf_join (List.mem_map.2 ⟨m, hm, rfl⟩) mat_in _
  have h2 : Inf m.attr.name (anyB x) := wN (inf_r (inf_join (List.mem_map.2 ⟨y, hy, rfl⟩) h1 _) _) _
  unfold zU
  rw [if_neg (List.ne_nil_of_mem hx)]
  exact inf_r (inf_join (List.mem_map.2 ⟨x, hx, rfl⟩) h2 _) _
def AtmIn (a : Atm) (s : ByteArray) : Prop := (a.c = [] → Inf a.m.attr.name s) ∧ ∀ n ∈ a.c, n.op = 2 → Inf n.attr.name s
theorem AtmIn.mono {a : Atm} {s t : ByteArray} (h : AtmIn a s) (hst : ∀ n, Inf n s → Inf n t) : AtmIn a t := ⟨fun e => hst _ (h.1 e), fun n hn h2 => hst _ (h.2 n hn h2)⟩
theorem tar_atm {t : Tar} {a : Atm} (h : a ∈ tarA t) : AtmIn a (zU t) := by
  obtain ⟨h1, h2⟩ := tar_in h
  exact ⟨fun _ => h2, fun n hn => by rw [h1] at hn; cases hn⟩
theorem rul_atm {r : Rul} (hr : RulOk r) {a : Atm} (h : a ∈ rulA r) : AtmIn a (ruleB r) := by
  unfold ruleB
  rcases List.mem_append.1 h with h | h
  · refine (tar_atm h).mono fun n hn => wN (wN ?_ _) _
    split
    · exact inf_r (inf_r hn _) _
    · exact wN (inf_r (inf_r hn _) _) _
  · unfold condA at h
    split at h
    · cases h
    · rename_i hc
      rw [List.mem_singleton] at h
      subst h
      refine ⟨fun e => absurd e hc, fun n hn h2 => wN (wN ?_ _) _⟩
      rw [if_neg hc]
      exact inf_r (inf_r (exprB_in hr.2.2.1 hn h2) _) _
theorem pol_atm : ∀ {n : Nat} {p : Pol}, Prt n p → ∀ {a : Atm}, a ∈ polA n p → AtmIn a (polB n p)
  | n + 1, p, h, a, ha => by
    rw [polB_eq]
    have hk : ∀ {s : ByteArray}, Inf s (rulesB p p.rules.length) → Inf s (kidsB n p p.kids.length ++ ⟨#[32, 125]⟩ ++ wy p.obls) := fun hs => wN (wN (inf_cat _ _ (.inl hs)) _) _
    rcases List.mem_append.1 ha with ha | ha
    · refine (tar_atm ha).mono fun s hs => hk (inf_cat _ _ (.inl ?_))
      unfold headB
      exact inf_r (wN (inf_r hs _) _) _
    rcases List.mem_append.1 ha with ha | ha
    · obtain ⟨r, hr, ha⟩ := List.mem_flatMap.1 ha
      refine (rul_atm (h.2.1 r hr) ha).mono fun s hs => hk (inf_cat _ _ (.inr ⟨r, ?_, hs⟩))
      rw [List.take_length]; exact hr
    · obtain ⟨k, hk', ha⟩ := List.mem_flatMap.1 ha
      refine (pol_atm (h.2.2 k hk') ha).mono fun s hs => wN (wN (inf_cat _ _ (.inr ⟨k, ?_, inf_r hs _⟩)) _) _
      rw [List.take_length]; exact hk'
theorem isG_name {a : Atr} {x : Giv} (h : a.name ≠ x.name) : isG a.cat a.name x = false := by
  unfold isG
  rw [Bool.and_eq_false_iff]
  exact .inr (decide_eq_false fun e => h e.symm)
theorem eval_only {p : Pol} (h : wG p = 0) (g : List Giv) (x : Giv) (hx : ¬ Inf x.name (polB 4 p)) : evalS p (withS g x) = evalS p g := by
  refine eval_alike fun a ha => ?_
  have hin : AtmIn a (polB 4 p) := pol_atm (prt_right h) ((addA_mem.1 ha).elim (fun h => (nomatch h)) id)
  unfold askA
  split
  · rename_i hc
    have e : isG a.m.attr.cat a.m.attr.name x = false := isG_name fun e => hx (e ▸ hin.1 hc)
    unfold matchT
    rw [getS_with a.m.attr g x e]
  · have e : jz a.c (withS g x) = jz a.c g := valueS_with g x fun n hn h2 => isG_name fun e => hx (e ▸ hin.2 n hn h2)
    unfold condS
    rw [e]
end Go.Proofs.YtlmgamnpfdgdeaaGreatDoor
namespace Go.Proofs.YtlmgamnpfdgdeaaGreatDoor
open Go.RowKit
noncomputable def fnsm167 : FnI := ⟨31, Tryz.f167.body.getD .skip, [.tmp 6], []⟩
theorem fnsm167_ok : FnOk Tryz.prog 167 fnsm167 := ⟨_, Tryz.func167, by kernel_rfl, by kernel_rfl, by kernel_rfl, by kernel_rfl, by kernel_rfl, by kernel_rfl⟩
noncomputable def fnsm120 : FnI := ⟨26, Tryz.f120.body.getD .skip, [.tmp 4], []⟩
theorem fnsm120_ok : FnOk Tryz.prog 120 fnsm120 := ⟨_, Tryz.func120, by kernel_rfl, by kernel_rfl, by kernel_rfl, by kernel_rfl, by kernel_rfl, by kernel_rfl⟩
noncomputable def fnsm163 : FnI := ⟨8, Tryz.f163.body.getD .skip, [.tmp 4], []⟩
theorem fnsm163_ok : FnOk Tryz.prog 163 fnsm163 := ⟨_, Tryz.func163, by kernel_rfl, by kernel_rfl, by kernel_rfl, by kernel_rfl, by kernel_rfl, by kernel_rfl⟩
noncomputable def fnsm162 : FnI := ⟨10, Tryz.f162.body.getD .skip, [.tmp 2, .tmp 3], []⟩
theorem fnsm162_ok : FnOk Tryz.prog 162 fnsm162 := ⟨_, Tryz.func162, by kernel_rfl, by kernel_rfl, by kernel_rfl, by kernel_rfl, by kernel_rfl, by kernel_rfl⟩
noncomputable def fnsm166 : FnI := ⟨13, Tryz.f166.body.getD .skip, [.tmp 2], []⟩
theorem fnsm166_ok : FnOk Tryz.prog 166 fnsm166 := ⟨_, Tryz.func166, by kernel_rfl, by kernel_rfl, by kernel_rfl, by kernel_rfl, by kernel_rfl, by kernel_rfl⟩
noncomputable def fnsm165 : FnI := ⟨5, Tryz.f165.body.getD .skip, [.tmp 2], []⟩
theorem fnsm165_ok : FnOk Tryz.prog 165 fnsm165 := ⟨_, Tryz.func165, by kernel_rfl, by kernel_rfl, by kernel_rfl, by kernel_rfl, by kernel_rfl, by kernel_rfl⟩
noncomputable def fnsm122 : FnI := ⟨13, Tryz.f122.body.getD .skip, [.tmp 2], []⟩
theorem fnsm122_ok : FnOk Tryz.prog 122 fnsm122 := ⟨_, Tryz.func122, by kernel_rfl, by kernel_rfl, by kernel_rfl, by kernel_rfl, by kernel_rfl, by kernel_rfl⟩
noncomputable def fnsm121 : FnI := ⟨29, Tryz.f121.body.getD .skip, [.tmp 2], []⟩
theorem fnsm121_ok : FnOk Tryz.prog 121 fnsm121 := ⟨_, Tryz.func121, by kernel_rfl, by kernel_rfl, by kernel_rfl, by kernel_rfl, by kernel_rfl, by kernel_rfl⟩
noncomputable def fnsm119 : FnI := ⟨6, Tryz.f119.body.getD .skip, [.tmp 2], []⟩
theorem fnsm119_ok : FnOk Tryz.prog 119 fnsm119 := ⟨_, Tryz.func119, by kernel_rfl, by kernel_rfl, by kernel_rfl, by kernel_rfl, by kernel_rfl, by kernel_rfl⟩
noncomputable def fnsm161 : FnI := ⟨16, Tryz.f161.body.getD .skip, [.tmp 2], []⟩
theorem fnsm161_ok : FnOk Tryz.prog 161 fnsm161 := ⟨_, Tryz.func161, by kernel_rfl, by kernel_rfl, by kernel_rfl, by kernel_rfl, by kernel_rfl, by kernel_rfl⟩
noncomputable def fnsm89 : FnI := ⟨9, Tryz.f89.body.getD .skip, [.tmp 2], []⟩
theorem fnsm89_ok : FnOk Tryz.prog 89 fnsm89 := ⟨_, Tryz.func89, by kernel_rfl, by kernel_rfl, by kernel_rfl, by kernel_rfl, by kernel_rfl, by kernel_rfl⟩
noncomputable def FnsMF : List (FuncId × FnI) := [(167, fnsm167),
  (120, fnsm120),
  (163, fnsm163),
  (162, fnsm162),
  (166, fnsm166),
  (165, fnsm165),
  (122, fnsm122),
  (121, fnsm121),
  (119, fnsm119),
  (161, fnsm161),
  (89, fnsm89)]
theorem wl (C : FuncId → List PV → Option SV) : FOk Tryz.prog ⟨TTab, FnsMF, C⟩ := qf fnsm167_ok <|
  qf fnsm120_ok <|
  qf fnsm163_ok <|
  qf fnsm162_ok <|
  qf fnsm166_ok <|
  qf fnsm165_ok <|
  qf fnsm122_ok <|
  qf fnsm121_ok <|
  qf fnsm119_ok <|
  qf fnsm161_ok <|
  qf fnsm89_ok <| fok_nil
end Go.Proofs.YtlmgamnpfdgdeaaGreatDoor
namespace Go.Proofs.YtlmgamnpfdgdeaaGreatDoor
set_option linter.unusedVariables false
set_option linter.unusedSimpArgs false
open Go.RowKit
set_option maxHeartbeats 4000000
def hb : Nat → Nat
  | 0 => 0
  | 1 => 4602678819172646912
  | _ => 4607182418800017408
def mkP (m : Mk) : PV := .v (.complex .f64 (hb m.1) (hb m.2))
def mkE (a b : Mk) : Bool := FloatKind.f64.format.order (hb a.1) (hb b.1) == some .eq && FloatKind.f64.format.order (hb a.2) (hb b.2) == some .eq
theorem hb_eq {a b : Nat} (ha : a ≤ 2) (hb' : b ≤ 2) : (FloatKind.f64.format.order (hb a) (hb b) == some .eq) = decide (a = b) := by
  have h1 : a = 0 ∨ a = 1 ∨ a = 2 := by omega
  have h2 : b = 0 ∨ b = 1 ∨ b = 2 := by omega
  rcases h1 with rfl | rfl | rfl <;> rcases h2 with rfl | rfl | rfl <;> decide +kernel
theorem mks_le {m : Mk} (h : m ∈ mks) : m.1 ≤ 2 ∧ m.2 ≤ 2 := by
  unfold mks at h
  simp only [List.mem_cons, List.not_mem_nil, or_false] at h
  rcases h with rfl | rfl | rfl | rfl | rfl | rfl <;> exact ⟨by decide, by decide⟩
theorem mkE_eq {a b : Mk} (ha : a ∈ mks) (hb' : b ∈ mks) : mkE a b = decide (a = b) := by
  obtain ⟨h1, h2⟩ := mks_le ha
  obtain ⟨h3, h4⟩ := mks_le hb'
  unfold mkE
  rw [hb_eq h1 h3, hb_eq h2 h4]
  obtain ⟨a1, a2⟩ := a
  obtain ⟨b1, b2⟩ := b
  rw [Bool.eq_iff_iff]
  simp
theorem mkRight_h (m : Mk) (hm : m ∈ mks) : Holds Tryz.prog 119 [mkP m] (.p (pB true)) [] := by
  unfold mks at hm; simp only [List.mem_cons, List.not_mem_nil, or_false] at hm; rcases hm with rfl | rfl | rfl | rfl | rfl | rfl <;> exact .ofW (zu (n := 500) qa (zr _) (wl ctab) (by kernel_rfl) (by kernel_rfl))
theorem mkIndet_h (m : Mk) (hm : m ∈ mks) : Holds Tryz.prog 89 [mkP m] (.p (mkP (indetM m))) [] := by
  unfold mks at hm; simp only [List.mem_cons, List.not_mem_nil, or_false] at hm; rcases hm with rfl | rfl | rfl | rfl | rfl | rfl <;> exact .ofW (zu (n := 500) qa (zr _) (wl ctab) (by kernel_rfl) (by kernel_rfl))
theorem applies_h (m : Mk) (hm : m ∈ mks) : Holds Tryz.prog 165 [mkP m] (.p (pB (decide (m ≠ (0, 0))))) [] := by
  unfold mks at hm; simp only [List.mem_cons, List.not_mem_nil, or_false] at hm; rcases hm with rfl | rfl | rfl | rfl | rfl | rfl <;> exact .ofW (zu (n := 500) qa (zr _) (wl ctab) (by kernel_rfl) (by kernel_rfl))
theorem sure_h (m : Mk) (hm : m ∈ mks) : Holds Tryz.prog 166 [mkP m] (.p (pB (sureM m))) [] := by
  unfold mks at hm; simp only [List.mem_cons, List.not_mem_nil, or_false] at hm; rcases hm with rfl | rfl | rfl | rfl | rfl | rfl <;> exact .ofW (zu (n := 500) qa (zr _) (wl ctab) (by kernel_rfl) (by kernel_rfl))
theorem step4_h (j m : Mk) (hj : j ∈ mks) (hm : m ∈ mks) : Holds Tryz.prog 167 [pI 4, mkP j, mkP m] (.p (mkP (stepJ j m))) [] := by
  unfold mks at hj
  simp only [List.mem_cons, List.not_mem_nil, or_false] at hj
  unfold mks at hm; simp only [List.mem_cons, List.not_mem_nil, or_false] at hm; rcases hm with rfl | rfl | rfl | rfl | rfl | rfl <;> rcases hj with rfl | rfl | rfl | rfl | rfl | rfl <;> exact .ofW (zu (n := 500) qa (zr _) (wl ctab) (by kernel_rfl) (by kernel_rfl))
theorem mkTurn_h (a b : Nat) (ha : a ≤ 2) (hb' : b ≤ 2) : Holds Tryz.prog 122 [mkP (a, b)] (.p (mkP (b, a))) [] := by
  have h1 : a = 0 ∨ a = 1 ∨ a = 2 := by omega
  have h2 : b = 0 ∨ b = 1 ∨ b = 2 := by omega
  rcases h1 with rfl | rfl | rfl <;> rcases h2 with rfl | rfl | rfl <;> exact .ofW (zu (n := 500) qa (zr _) (wl ctab) (by kernel_rfl) (by kernel_rfl))
theorem mkOver_h (a b : Nat) (ha : a ≤ 2) (hb' : b ≤ 2) : Holds Tryz.prog 121 [mkP (a, b)] (.p (mkP (overM (a, b)))) [] := by
  have h1 : a = 0 ∨ a = 1 ∨ a = 2 := by omega
  have h2 : b = 0 ∨ b = 1 ∨ b = 2 := by omega
  rcases h1 with rfl | rfl | rfl <;> rcases h2 with rfl | rfl | rfl <;> exact .ofW (zu (n := 500) qa (zr _) (wl ctab) (by kernel_rfl) (by kernel_rfl))
theorem mkJoin_h (j m : Mk) (hj : j.1 ≤ 2 ∧ j.2 ≤ 2) (hm : m ∈ mks) : Holds Tryz.prog 120 [mkP j, mkP m] (.p (mkP (joinM j m))) [] := by
  obtain ⟨a, b⟩ := j
  obtain ⟨h1, h2⟩ := hj
  simp only at h1 h2
  have h1 : a = 0 ∨ a = 1 ∨ a = 2 := by omega
  have h2 : b = 0 ∨ b = 1 ∨ b = 2 := by omega
  unfold mks at hm; simp only [List.mem_cons, List.not_mem_nil, or_false] at hm; rcases hm with rfl | rfl | rfl | rfl | rfl | rfl <;> rcases h1 with rfl | rfl | rfl <;> rcases h2 with rfl | rfl | rfl <;> exact .ofW (zu (n := 500) qa (zr _) (wl ctab) (by kernel_rfl) (by kernel_rfl))
theorem joinM_le {a b : Mk} (ha : a.1 ≤ 2 ∧ a.2 ≤ 2) (hb' : b.1 ≤ 2 ∧ b.2 ≤ 2) : (joinM a b).1 ≤ 2 ∧ (joinM a b).2 ≤ 2 := by
  unfold joinM
  simp only
  omega
end Go.Proofs.YtlmgamnpfdgdeaaGreatDoor
