/-
  Shades: an evaluator of closed calls: what a call comes to whose arguments are written out; every step is one of the rules of shades.
-/
import Derived.Test.YtjpcchipejmocaaPend
namespace Go.Proofs.Ytjpcchipejmocaa
set_option linter.unusedVariables false
set_option linter.unusedSimpArgs false
open Go.RowKit

/-! ### Values are worked out before they are kept -/
section
variable {α : Type}
def fNat (n : Nat) (k : Nat → α) : α := match n with
  | 0 => k 0
  | .succ m => k (.succ m)
theorem fNat_eq (n : Nat) (k : Nat → α) : fNat n k = k n := by cases n <;> rfl
def fInt (n : Int) (k : Int → α) : α := match n with
  | .ofNat a => fNat a fun a => k (.ofNat a)
  | .negSucc a => fNat a fun a => k (.negSucc a)
theorem fInt_eq (n : Int) (k : Int → α) : fInt n k = k n := by cases n <;> simp [fInt, fNat_eq]
def fBool (b : Bool) (k : Bool → α) : α := match b with
  | true => k true
  | false => k false
theorem fBool_eq (b : Bool) (k : Bool → α) : fBool b k = k b := by cases b <;> rfl
/-- the row of a list is worked out, its elements are not -/
def fList {β : Type} : List β → (List β → α) → α
  | [], k => k []
  | x :: r, k => fList r fun r => k (x :: r)
theorem fList_eq {β : Type} : ∀ (l : List β) (k : List β → α), fList l k = k l
  | [], k => rfl
  | x :: r, k => by rw [fList, fList_eq r]
def fStr (s : ByteArray) (k : ByteArray → α) : α := match s with
  | ⟨⟨l⟩⟩ => fList l fun l => k ⟨⟨l⟩⟩
theorem fStr_eq (s : ByteArray) (k : ByteArray → α) : fStr s k = k s := by
  obtain ⟨⟨l⟩⟩ := s; simp [fStr, fList_eq]
def fVal (v : Value) (k : Value → α) : α := match v with
  | .int q n => fInt n fun n => k (.int q n)
  | .bool b => fBool b fun b => k (.bool b)
  | .string s => fStr s fun s => k (.string s)
  | v => k v
theorem fVal_eq (v : Value) (k : Value → α) : fVal v k = k v := by
  cases v <;> simp [fVal, fInt_eq, fBool_eq, fStr_eq]
def fLeaf (p : PV) (k : PV → α) : α := match p with
  | .v x => fVal x fun x => k (.v x)
  | p => k p
theorem fLeaf_eq (p : PV) (k : PV → α) : fLeaf p k = k p := by cases p <;> simp [fLeaf, fVal_eq]
def fLeafs : List PV → (List PV → α) → α
  | [], k => k []
  | p :: r, k => fLeaf p fun p => fLeafs r fun r => k (p :: r)
theorem fLeafs_eq : ∀ (l : List PV) (k : List PV → α), fLeafs l k = k l
  | [], k => rfl
  | p :: r, k => by rw [fLeafs, fLeaf_eq, fLeafs_eq r]
def fPV (p : PV) (k : PV → α) : α := match p with
  | .v x => fVal x fun x => k (.v x)
  | .agg cs => fLeafs cs fun cs => k (.agg cs)
  | .rp cs => fLeafs cs fun cs => k (.rp cs)
  | .sl z l => fList l fun l => k (.sl z l)
  | p => k p
theorem fPV_eq (p : PV) (k : PV → α) : fPV p k = k p := by cases p <;> simp [fPV, fVal_eq, fLeafs_eq, fList_eq]
def fOne (s : SV) (k : SV → α) : α := match s with
  | .p x => fPV x fun x => k (.p x)
  | .ptr i o => fNat i fun i => fNat o fun o => k (.ptr i o)
  | .eptr i z x o => fNat x fun x => fNat o fun o => k (.eptr i z x o)
  | .view i z lo hi => fNat lo fun lo => fNat hi fun hi => k (.view i z lo hi)
  | s => k s
theorem fOne_eq (s : SV) (k : SV → α) : fOne s k = k s := by cases s <;> simp [fOne, fPV_eq, fNat_eq]
def fOnes : List SV → (List SV → α) → α
  | [], k => k []
  | s :: r, k => fOne s fun s => fOnes r fun r => k (s :: r)
theorem fOnes_eq : ∀ (l : List SV) (k : List SV → α), fOnes l k = k l
  | [], k => rfl
  | s :: r, k => by rw [fOnes, fOne_eq, fOnes_eq r]
def fMid (s : SV) (k : SV → α) : α := match s with
  | .agg cs => fOnes cs fun cs => k (.agg cs)
  | .fn f cs => fOnes cs fun cs => k (.fn f cs)
  | s => fOne s k
theorem fMid_eq (s : SV) (k : SV → α) : fMid s k = k s := by cases s <;> simp [fMid, fOne_eq, fOnes_eq]
def fMids : List SV → (List SV → α) → α
  | [], k => k []
  | s :: r, k => fMid s fun s => fMids r fun r => k (s :: r)
theorem fMids_eq : ∀ (l : List SV) (k : List SV → α), fMids l k = k l
  | [], k => rfl
  | s :: r, k => by rw [fMids, fMid_eq, fMids_eq r]
def fSV (s : SV) (k : SV → α) : α := match s with
  | .tup cs => fMids cs fun cs => k (.tup cs)
  | s => fMid s k
theorem fSV_eq (s : SV) (k : SV → α) : fSV s k = k s := by cases s <;> simp [fSV, fMid_eq, fMids_eq]
def fFr : List (Nat × SV) → (List (Nat × SV) → α) → α
  | [], k => k []
  | (t, s) :: r, k => fMid s fun s => fFr r fun r => k ((t, s) :: r)
theorem fFr_eq : ∀ (l : List (Nat × SV)) (k : List (Nat × SV) → α), fFr l k = k l
  | [], k => rfl
  | (t, s) :: r, k => by rw [fFr, fMid_eq, fFr_eq r]
def fEls : List (List PV) → (List (List PV) → α) → α
  | [], k => k []
  | e :: r, k => fLeafs e fun e => fEls r fun r => k (e :: r)
theorem fEls_eq : ∀ (l : List (List PV)) (k : List (List PV) → α), fEls l k = k l
  | [], k => rfl
  | e :: r, k => by rw [fEls, fLeafs_eq, fEls_eq r]
def fMap : List (Value × PV) → (List (Value × PV) → α) → α
  | [], k => k []
  | (v, p) :: r, k => fVal v fun v => fPV p fun p => fMap r fun r => k ((v, p) :: r)
theorem fMap_eq : ∀ (l : List (Value × PV)) (k : List (Value × PV) → α), fMap l k = k l
  | [], k => rfl
  | (v, p) :: r, k => by rw [fMap, fVal_eq, fPV_eq, fMap_eq r]
def fBox (b : Box) (k : Box → α) : α := match b with
  | .row e z l => fList l fun l => k (.row e z l)
  | .cells cs => fOnes cs fun cs => k (.cells cs)
  | .mp es => fList es fun es => k (.mp es)
theorem fBox_eq (b : Box) (k : Box → α) : fBox b k = k b := by cases b <;> simp [fBox, fList_eq, fOnes_eq]
def fOwn : List (Nat × Box) → (List (Nat × Box) → α) → α
  | [], k => k []
  | (i, b) :: r, k => fNat i fun i => fBox b fun b => fOwn r fun r => k ((i, b) :: r)
theorem fOwn_eq : ∀ (l : List (Nat × Box)) (k : List (Nat × Box) → α), fOwn l k = k l
  | [], k => rfl
  | (i, b) :: r, k => by rw [fOwn, fNat_eq, fBox_eq, fOwn_eq r]
end

/-! ### What a reading operation asks for -/
def ible (a b : Int) : Bool := match a, b with
  | .ofNat a, .ofNat b => Nat.ble a b
  | .negSucc _, .ofNat _ => true
  | .ofNat _, .negSucc _ => false
  | .negSucc a, .negSucc b => Nat.ble b a
theorem ible_ok {a b : Int} (h : ible a b = true) : a ≤ b := by
  cases a <;> cases b <;> simp only [ible, Nat.ble_eq] at h <;> first | (cases h; done) | (simp only [Int.ofNat_eq_natCast, Int.negSucc_eq]; omega)
def between (n : Int) (m : Nat) : Bool := match n with
  | .ofNat a => Nat.blt a m
  | .negSucc _ => false
theorem between_ok {n : Int} {m : Nat} (h : between n m = true) : 0 ≤ n ∧ n < m := by
  cases n <;> simp [between, Nat.blt] at h
  simp only [Int.ofNat_eq_natCast]; omega
def sEq : List UInt8 → List UInt8 → Bool
  | [], [] => true
  | a :: r, b :: s => bif Nat.beq a.toNat b.toNat then sEq r s else false
  | _, _ => false

/-- a look-up by the recursor alone -/
noncomputable def lkF {α : Type} (t : Nat) (l : List (Nat × α)) : Option α := @List.rec (Nat × α) (fun _ => Option α) none (fun p _ ih => @Prod.rec Nat α (fun _ => Option α) (fun u s => @Bool.rec (fun _ => Option α) ih (some s) (Nat.beq t u)) p) l
theorem lkF_eq {α : Type} (t : Nat) : ∀ l : List (Nat × α), lkF t l = lk t l
  | [] => rfl
  | (u, s) :: r => by
    have ih := lkF_eq t r
    unfold lkF at ih ⊢
    rw [lk]
    show @Bool.rec (fun _ => Option α) _ _ _ = _
    cases h : Nat.beq t u <;> simp [ih]
noncomputable def evF (st : St) (x : Operand) : Option SV := match x with
  | .tmp t => lkF t st.fr
  | x => evS st x
theorem evF_eq (st : St) (x : Operand) : evF st x = evS st x := by cases x <;> simp [evF, evS, lkF_eq]
noncomputable section
/-! what opR asks for, as a Bool -/
def binC (op : BinOp) (a b : Value) : Bool := match op with
  | .shl => (match b with | .int _ b => ible 0 b | _ => false)
  | .shr => (match b with | .int _ b => ible 0 b | _ => false)
  | .quo => (match b with | .int _ b => !(decide (b = 0)) | _ => false)
  | .rem => (match b with | .int _ b => !(decide (b = 0)) | _ => false)
  | .add => (match a, b with | .string a, .string b => Nat.ble (a.size + b.size) 9223372036854775807 | _, _ => true)
  | _ => true
def rBinC (T : TT) (op : BinOp) (t : TypeId) (a b : Option SV) : Bool := match a, b with
  | some (.p (.v a)), some (.p (.v b)) => binC op a b
  | some (.p (.agg xs)), some (.p (.agg _)) => (match lkF t T with
    | some ⟨_, _, _, z, _⟩ => typedL xs z
    | none => false)
  | _, _ => false
def rIndexAddrC (T : TT) (st : St) (t : TypeId) (a i : Option SV) : Bool := match i with
  | some (.p (.v (.int _ n))) => (match a with
    | some (.p (.sl _ l)) => between n l.length
    | some (.row j) => (match lkF j st.own with
      | some (.row _ _ l) => between n l.length
      | _ => false)
    | some (.view _ _ lo hi) => between n (hi - lo)
    | _ => (match lkF t T with
      | some ⟨_, _, .arr len _, _, _⟩ => between n len
      | _ => false))
  | _ => false
def rIndexC (T : TT) (t : TypeId) (a i : Option SV) : Bool := match i with
  | some (.p (.v (.int _ n))) => (match a with
    | some (.p (.v (.string s))) => between n s.size
    | _ => (match lkF t T with
      | some ⟨_, _, .arr len _, _, _⟩ => between n len
      | _ => false))
  | _ => false
def endsC (st : St) (n : Nat) (lo hi : Option Operand) : Bool := match ends st n lo hi with
  | some (l, h) => (ible 0 l && ible l h) && ible h (.ofNat n)
  | none => false
def rSliceC (st : St) (a : Option SV) (lo hi : Option Operand) : Bool := match a with
  | some (.p (.v (.string s))) => endsC st s.size lo hi
  | some (.p (.sl _ xs)) => endsC st xs.length lo hi
  | some (.row j) => (match lkF j st.own with
    | some (.row _ _ xs) => endsC st xs.length lo hi
    | _ => false)
  | some (.view _ _ lo0 hi0) => endsC st (hi0 - lo0) lo hi
  | _ => false
def rLoadC (st : St) (a : Option SV) : Bool := match a with
  | some (.eptr j _ k _) => (match lkF j st.own with
    | some (.row _ _ l) => Nat.blt k l.length
    | _ => false)
  | _ => true
def rLookupC (T : TT) (st : St) (t : TypeId) (m : Option SV) : Bool := match m, lkF t T with
  | some (.row j), some ⟨_, _, .mp kt _, _, _⟩ => (match lkF kt T, lkF j st.own with
    | some ki, some (.mp es) => es.all fun x => kdOk ki.d x.1
    | _, _ => false)
  | _, _ => false
section
variable {β : Type}
/-- what an operation reads goes on, worked out -/
def goF (r : Option (Prop × SV)) (c : Bool) (k : SV → Option β) : Option β := match r with
  | some (_, s) => bif c then fSV s k else none
  | none => none
/-- the same, what is read is a part of what was there -/
def goP (r : Option (Prop × SV)) (k : SV → Option β) : Option β := match r with
  | some (_, s) => k s
  | none => none
def goS (r : Option SV) (k : SV → Option β) : Option β := match r with
  | some s => k s
  | none => none
def eStr (op : BinOp) (a b : ByteArray) (k : SV → Option β) : Option β := match op with
  | .eql => fBool (sEq a.data.toList b.data.toList) fun r => k (.p (.v (.bool r)))
  | .neq => fBool (!(sEq a.data.toList b.data.toList)) fun r => k (.p (.v (.bool r)))
  | .add => bif Nat.ble (a.size + b.size) 9223372036854775807 then fList (a.data.toList ++ b.data.toList) fun l => k (.p (.v (.string ⟨⟨l⟩⟩))) else none
  | .lss => fBool (Op.bytesLess a.data.toList b.data.toList) fun r => k (.p (.v (.bool r)))
  | .geq => fBool (!(Op.bytesLess a.data.toList b.data.toList)) fun r => k (.p (.v (.bool r)))
  | .leq => fBool (Op.bytesLess a.data.toList b.data.toList || sEq a.data.toList b.data.toList) fun r => k (.p (.v (.bool r)))
  | .gtr => fBool (!(Op.bytesLess a.data.toList b.data.toList || sEq a.data.toList b.data.toList)) fun r => k (.p (.v (.bool r)))
  | _ => none
/-- is it nil, that is held against nil? -/
def isNil (T : TT) (st : St) (t : TypeId) (ptr : Bool) (a : SV) : Option Bool := match lkF t T, ptr with
  | some ⟨_, _, .sl _, _, _⟩, false => (match a with
    | .p (.v (.slice none 0 0)) => some true
    | .p (.sl _ (_ :: _)) => some false
    | .row j => (match lkF j st.own with
      | some (.row _ _ (_ :: _)) => some false
      | _ => none)
    | _ => none)
  | some ⟨_, _, .ptr, _, _⟩, true => (match a with
    | .p (.v (.pointer none)) => some true
    | .p (.rp _) => some false
    | .ptr _ _ => some false
    | .eptr _ _ _ _ => some false
    | _ => none)
  | _, _ => none
/-- an interface against nil -/
def eIfc (T : TT) (op : BinOp) (t t' : TypeId) (a : Option SV) (k : SV → Option β) : Option β := match a, lkF t T, Nat.beq t t' with
  | some (.p (.v .nilIface)), some ⟨_, _, .ifc, _, _⟩, true => (match op with
    | .eql => k (.p (.v (.bool true)))
    | .neq => k (.p (.v (.bool false)))
    | _ => none)
  | _, _, _ => none
def eNil (T : TT) (st : St) (op : BinOp) (t t' : TypeId) (ptr : Bool) (a : Option SV) (k : SV → Option β) : Option β := match a, Nat.beq t t' with
  | some a, true => (match isNil T st t ptr a, op with
    | some b, .eql => k (.p (.v (.bool b)))
    | some true, .neq => k (.p (.v (.bool false)))
    | some false, .neq => k (.p (.v (.bool true)))
    | _, _ => none)
  | _, _ => none
def isConst : Operand → Bool
  | .const _ => true
  | _ => false
def eBin (T : TT) (st : St) (op : BinOp) (t t' : TypeId) (cst : Bool) (a b : Option SV) (k : SV → Option β) : Option β := match a, b with
  | some (.p (.v (.string a))), some (.p (.v (.string b))) => eStr op a b k
  | a, some (.p (.v (.slice none 0 0))) => eNil T st op t t' false a k
  | a, some (.p (.v (.pointer none))) => eNil T st op t t' true a k
  | a, some (.p (.v .nilIface)) => bif cst then eIfc T op t t' a k else none
  | a, b => goF (rBin T op t a b) (rBinC T op t a b) k
def eIndex (T : TT) (t : TypeId) (a i : Option SV) (k : SV → Option β) : Option β := match a, i with
  | some (.p (.v (.string s))), some (.p (.v (.int _ n))) => (match lkF t T with
    | some ⟨_, _, .str, _, _⟩ => (match s.data.toList[n.toNat]? with
      | some b => bif between n s.size then fNat b.toNat fun b => k (.p (.v (.int .u8 (.ofNat b)))) else none
      | none => none)
    | _ => none)
  | a, i => goF (rIndex T t a i) (rIndexC T t a i) k
/-- reading operations that opR has not -/
def eSliceX (T : TT) (st : St) (t : TypeId) (a : Option SV) (lo hi : Option Operand) (k : SV → Option β) : Option β := match lkF t T with
  | some ⟨_, _, .sl e, _, _⟩ => (match a, ends st 0 lo hi with
    | some (.p (.v (.slice none 0 0))), some (l, h) => bif (lkF e T).isSome && (ible 0 l && ible l h && ible h 0) then k (.p (.v (.slice none 0 0))) else none
    | _, _ => none)
  | _ => none
def eSlice (T : TT) (st : St) (t : TypeId) (a : Option SV) (lo hi mx : Option Operand) (k : SV → Option β) : Option β := match a with
  | some (.p (.v (.string s))) => (match mx, lkF t T, ends st s.size lo hi with
    | none, some ⟨_, _, .str, _, _⟩, some (l, h) => bif (ible 0 l && ible l h) && ible h (.ofNat s.size) then fList ((s.data.toList.drop l.toNat).take (h.toNat - l.toNat)) fun l => k (.p (.v (.string ⟨⟨l⟩⟩))) else none
    | _, _, _ => none)
  | some (.p (.v (.slice none 0 0))) => (match mx with
    | none => eSliceX T st t a lo hi k
    | some _ => none)
  | a => goF (rSlice T st t a lo hi mx) (rSliceC st a lo hi) k
def eCall (T : TT) (st : St) (c : Call) (k : SV → Option β) : Option β := match c.callee with
  | .builtin .len => (match c.args.toList, c.argTypes.toList with
    | [x], [t] => goF (rLen T st t (evF st x)) true k
    | _, _ => none)
  | .builtin .min => (match c.args.toList with
    | [x, y] => goF (rMinMax true (evF st x) (evF st y)) true k
    | _ => none)
  | .builtin .max => (match c.args.toList with
    | [x, y] => goF (rMinMax false (evF st x) (evF st y)) true k
    | _ => none)
  | .builtin .real => (match c.args.toList with
    | [x] => goP (rReal (evF st x)) k
    | _ => none)
  | .builtin .imag => (match c.args.toList with
    | [x] => goP (rImag (evF st x)) k
    | _ => none)
  | .builtin .complex => (match c.args.toList with
    | [x, y] => goP (rCplx (evF st x) (evF st y)) k
    | _ => none)
  | _ => none
def eUn (op : UnOp) (x : Option SV) (k : SV → Option β) : Option β := match x with
  | some (.p (.v v)) => (match unS op v with
    | some v => fVal v fun v => k (.p (.v v))
    | none => none)
  | _ => none
def eFn (T : TT) (K : List Nat) (st : St) (o : Op) (k : SV → Option β) : Option β := goF (opR T K st o) true k
def eExtract (x : Option SV) (n : Nat) (k : SV → Option β) : Option β := match x with
  | some (.tup cs) => goS cs[n]? k
  | _ => none
def byteOf : List PV → Option UInt8
  | [.v (.int .u8 n)] => some (UInt8.ofNat n.toNat)
  | _ => none
def bytesOf : List (List PV) → Option (List UInt8)
  | [] => some []
  | c :: r => match byteOf c with
    | some b => match bytesOf r with
      | some l => some (b :: l)
      | none => none
    | none => none
/-- bytes as a text -/
def eText (T : TT) (s d : TypeId) (l : List (List PV)) (k : SV → Option β) : Option β := match lkF s T, lkF d T with
  | some ⟨_, _, .sl e, _, _⟩, some ⟨_, _, .str, _, _⟩ => (match lkF e T, bytesOf l with
    | some ⟨_, _, .int .u8, _, _⟩, some bs => fList bs fun bs => k (.p (.v (.string ⟨⟨bs⟩⟩)))
    | _, _ => none)
  | _, _ => none
def eConv (T : TT) (K : List Nat) (st : St) (s d : TypeId) (a : Option SV) (k : SV → Option β) : Option β := match a with
  | some (.p (.sl _ l)) => eText T s d l k
  | some (.p (.v (.slice none 0 0))) => eText T s d [] k
  | some (.row j) => bif K.contains j then none else (match lkF j st.own with
    | some (.row _ _ l) => eText T s d l k
    | _ => none)
  | a => goF (rConv T s d a) true k
/-- is it an operation that opE may know? -/
def isRd (o : Op) : Bool := match o with
  | .move _ => true | .assign _ => true | .pick _ _ _ => true | .binOp _ _ _ _ _ => true | .unOp _ _ _ => true | .convert _ _ _ => true | .field _ _ _ => true | .fieldAddr _ _ _ => true
  | .indexAddr _ _ _ => true | .index _ _ _ => true | .slice _ _ _ _ _ => true | .load _ _ => true | .extract _ _ => true | .makeFunc _ _ _ => true | .lookup _ _ _ _ => true | .build _ _ => true | .nilCheck _ => true
  | .call c => (match c.callee with | .builtin .append => false | .builtin _ => true | _ => false)
  | _ => false
/-- reading operations -/
def opE (T : TT) (K : List Nat) (st : St) (o : Op) (k : SV → Option β) : Option β := match o with
  | .move x => goS (evF st x) k
  | .assign x => goS (evF st x) k
  | .pick c a b => goP (rPick (evF st c) (evF st a) (evF st b)) k
  | .binOp op t x y t' => eBin T st op t t' (isConst y) (evF st x) (evF st y) k
  | .unOp op _ x => eUn op (evF st x) k
  | .convert s d x => eConv T K st s d (evF st x) k
  | .field t x f => goF (rField T t (evF st x) f) true k
  | .fieldAddr t x f => goF (rFieldAddr T t (evF st x) f) true k
  | .indexAddr t x i => goF (rIndexAddr T st t (evF st x) (evF st i)) (rIndexAddrC T st t (evF st x) (evF st i)) k
  | .index t x i => eIndex T t (evF st x) (evF st i) k
  | .slice t x lo hi mx => eSlice T st t (evF st x) lo hi mx k
  | .load t a => goF (rLoad T K st t (evF st a)) (rLoadC st (evF st a)) k
  | .extract x n => eExtract (evF st x) n k
  | .makeFunc f first caps => eFn T K st (.makeFunc f first caps) k
  | .call c => eCall T st c k
  | .lookup t m key true => goF (rLookup T K st t (evF st m) (evF st key)) (rLookupC T st t (evF st m)) k
  | .build t parts => eFn T K st (.build t parts) k
  | .nilCheck x => eFn T K st (.nilCheck x) k
  | _ => none
end

/-! ### What a call may reach -/
def mem (i : Nat) : List Nat → Bool
  | [] => false
  | j :: r => bif Nat.beq i j then true else mem i r
mutual
def refs : SV → List Nat
  | .p _ => []
  | .junk => []
  | .row i => [i]
  | .ptr i _ => [i]
  | .eptr i _ _ _ => [i]
  | .view i _ _ _ => [i]
  | .agg cs => refss cs
  | .tup cs => refss cs
  | .fn _ cs => refss cs
def refss : List SV → List Nat
  | [] => []
  | s :: r => refs s ++ refss r
end
def reach (own : List (Nat × Box)) : Nat → List Nat → List Nat → List Nat
  | 0, _, seen => seen
  | _ + 1, [], seen => seen
  | f + 1, i :: todo, seen => bif mem i seen then reach own f todo seen else match lkF i own with
    | some (.cells cs) => reach own f (refss cs ++ todo) (i :: seen)
    | some _ => reach own f todo (i :: seen)
    | none => reach own f todo seen
def number (big : Bool) : Nat → List Nat → List (Nat × Nat)
  | _, [] => []
  | k, i :: r => bif !big && Nat.ble 1000000 i then (i, i) :: number big k r else (i, k) :: number big (k + 1) r
def rowsIn (st : St) : List Nat → List Nat
  | [] => []
  | i :: r => match lkF i st.own with
    | some (.row _ _ _) => i :: rowsIn st r
    | _ => rowsIn st r
def keys : List (Nat × SV) → List Nat → List Nat
  | [], acc => acc
  | (t, .junk) :: r, acc => keys r acc
  | (t, _) :: r, acc => bif mem t acc then keys r acc else keys r (t :: acc)
section
variable {α : Type}
def fNats : List Nat → (List Nat → α) → α
  | [], k => k []
  | i :: r, k => fNat i fun i => fNats r fun r => k (i :: r)
theorem fNats_eq : ∀ (l : List Nat) (k : List Nat → α), fNats l k = k l
  | [], k => rfl
  | i :: r, k => by rw [fNats, fNat_eq, fNats_eq r]
def fRen : List (Nat × Nat) → (List (Nat × Nat) → α) → α
  | [], k => k []
  | (i, j) :: r, k => fNat i fun i => fNat j fun j => fRen r fun r => k ((i, j) :: r)
theorem fRen_eq : ∀ (l : List (Nat × Nat)) (k : List (Nat × Nat) → α), fRen l k = k l
  | [], k => rfl
  | (i, j) :: r, k => by rw [fRen, fNat_eq, fNat_eq, fRen_eq r]
def fSt (st : St) (k : St → α) : α := match st with
  | ⟨n, fr, own⟩ => fNat n fun n => fFr fr fun fr => fOwn own fun own => k ⟨n, fr, own⟩
theorem fSt_eq (st : St) (k : St → α) : fSt st k = k st := by cases st; simp [fSt, fNat_eq, fFr_eq, fOwn_eq]
def fN (st : St) (k : St → α) : α := match st with
  | ⟨n, fr, own⟩ => fNat n fun n => k ⟨n, fr, own⟩
theorem fN_eq (st : St) (k : St → α) : fN st k = k st := by cases st; simp [fN, fNat_eq]
def putE (st : St) (dst : Option Tmp) (s : SV) (k : St → α) : α := match dst, st with
  | some d, ⟨n, fr, own⟩ => k ⟨n, (d, s) :: fr, own⟩
  | none, st => k st
theorem putE_eq (st : St) (dst : Option Tmp) (s : SV) (k : St → α) : putE st dst s k = k (st.put dst s) := by cases dst <;> rfl
end
section
variable {β : Type}
/-- rows are frozen, one by one -/
def frzAll : List Nat → St → (St → Option β) → Option β
  | [], st, k => k st
  | i :: r, st, k => match lkF i st.own with
    | some (.row _ z l) => fSt (st.frz i z l) fun st => frzAll r st k
    | _ => frzAll r st k

structure FnI where
  n : Nat
  c : Code
  ts : List ResultVar
  ords : List (Nat × List (Nat × Bool))
structure Cx where
  T : TT
  F : List (FuncId × FnI)
  C : FuncId → List PV → Option SV
abbrev Ret := Option (SV × List (Nat × Box))
/-- a new box -/
def newBox (st : St) (d : Nat) (s : SV) (bx : Box) (k : List Nat → St → Option β) : Option β :=
  bif (lkF d st.own).isNone && Nat.blt d st.n then fBox bx fun bx => fN ⟨st.n, (d, s) :: st.fr, (d, bx) :: st.own⟩ fun st => k [] st else none
def rhoOk (ρ : List (Nat × Nat)) : Bool := (dist (ρ.map (·.1)) && dist (ρ.map (·.2))) && ρ.all (fun p => Nat.ble 1000000 p.2)
/-- a call's end, for the caller -/
def backE (st : St) (o : Oper) (ρ : List (Nat × Nat)) (rt : Ret) (k : List Nat → St → Option β) : Option β := match rt with
  | some (r, own') => bif dstOk st o.dst && backOk st ρ o.dst own' then (match st.back ρ o.dst r own' with
    | some st' => fSt st' fun st' => k (ρ.map (·.1)) st'
    | none => none) else none
  | none => none
def enterE (ev : FuncId → FnI → List SV → List (Nat × Box) → Ret) (st : St) (o : Oper) (f : FuncId) (fi : FnI) (caps : List SV) (xs : List Operand) (ρ : List (Nat × Nat)) (k : List Nat → St → Option β) : Option β := match ownR ρ st.own ρ, argWs st ρ xs, mapRs ρ caps with
  | some own, some a, some c => bif rhoOk ρ then (fOnes (a ++ c) fun args => fOwn own fun own => backE st o ρ (ev f fi args own) k) else none
  | _, _, _ => none
def callE (cx : Cx) (ev : FuncId → FnI → List SV → List (Nat × Box) → Ret) (st : St) (o : Oper) (pf : Bool) (f : FuncId) (caps : List SV) (xs : List Operand) (k : List Nat → St → Option β) : Option β :=
  match lkF f cx.F with
  | some fi => (match evs st xs with
    | some ss => fRen (number true 1000000 (reach st.own 1000 (refss ss ++ refss caps) [])) fun ρ => enterE ev st o f fi caps xs ρ k
    | none => none)
  | none => (match pf, pures caps, argPs st xs with
    | true, some cps, some (ps, _) => (match cx.C f (ps ++ cps) with
      | some r => bif flatS r && dstOk st o.dst then (putE st o.dst r fun st => k [] st) else none
      | none => none)
    | _, _, _ => none)
def isPS : SV → Bool
  | .p _ => true
  | _ => false
/-- append onto a row of the call's own -/
def appRow (st : St) (d : Nat) (e : TypeId) (ei : TyI) (j : Nat) (s2 : Option SV) (k : St → Option β) : Option β := match lkF j st.own, s2 with
  | some (.row e' z l), some s2 => (match srcL st ei.size (some j) s2 with
    | some l2 => bif Nat.beq e' e && Nat.beq z ei.size && Nat.ble (l.length + l2.length) reachBytes && Nat.ble ((l.length + l2.length) * ei.bytes) 140737488355328 && (lk d (killO j st.own)).isNone then
      (fList (l ++ l2) fun l3 => fSt ⟨st.n, (d, .row d) :: killF j st.fr, (d, .row e ei.size l3) :: killO j st.own⟩ k) else none
    | none => none)
  | _, _ => none
def shrunk (st : St) (t j z m : Nat) (e : TypeId) (l : List (List PV)) : St := ⟨st.n, (t, .row 904999) :: killF j st.fr, (904999, .row e z (l.take m)) :: killO j st.own⟩
def appView (st : St) (d : Nat) (e : TypeId) (ei : TyI) (sx xx : Operand) (j zv m : Nat) (k : St → Option β) : Option β := match sx, lkF j st.own with
  | .tmp t, some (.row e' z l0) => bif (lk 904999 st.own).isNone && Nat.beq zv z then fSt (shrunk st t j z m e' l0) fun st1 => appRow st1 d e ei 904999 (evF st1 xx) k else none
  | _, _ => none
def appNil (st : St) (d : Nat) (e : TypeId) (ei : TyI) (s2 : Option SV) (k : List Nat → St → Option β) : Option β := match s2 with
  | some s2 => (match srcL st ei.size none s2 with
    | some l2 => bif Nat.ble (l2.length * ei.bytes) 140737488355328 then newBox st d (.row d) (.row e ei.size l2) k else none
    | none => none)
  | none => none
def appE (T : TT) (st : St) (o : Oper) (sx xx : Operand) (t : TypeId) (k : List Nat → St → Option β) : Option β := match o.dst, lkF t T with
  | some d, some ⟨_, _, .sl e, _, _⟩ => (match lkF e T with
    | some ei => bif Nat.blt 0 ei.size && Nat.beq ei.zero.length ei.size && Nat.blt d st.n then (match evF st sx with
      | some (.p (.v (.slice none 0 0))) => appNil st d e ei (evF st xx) k
      | some (.row j) => appRow st d e ei j (evF st xx) fun st => k [j] st
      | some (.view j z 0 m) => appView st d e ei sx xx j z m fun st => k [j] st
      | _ => none) else none
    | none => none)
  | _, _ => none
def boxE (st : St) (dst : Option Tmp) (s : Option SV) (k : List Nat → St → Option β) : Option β := match dst, s with
  | some d, some s => (match cellsOf s with
    | some cs => bif cs.all oneS then newBox st d (.ptr d 0) (.cells cs) k else none
    | none => none)
  | _, _ => none
def allocE (T : TT) (st : St) (dst : Option Tmp) (e : TypeId) (k : List Nat → St → Option β) : Option β := match dst, lkF e T with
  | some d, some i => bif i.zero.all plain then newBox st d (.ptr d 0) (.cells (i.zero.map fun z => .p (.v z))) k else none
  | _, _ => none
def buildE (T : TT) (st : St) (dst : Option Tmp) (t : TypeId) (len : Nat) (xs : List Operand) (k : List Nat → St → Option β) : Option β := match dst, lkF t T, evs st xs with
  | some d, some ⟨_, _, .sl e, _, _⟩, some ss => (match lkF e T with
    | some ei => bif Nat.blt 0 ei.size && Nat.ble (len * ei.size) 16777216 && Nat.beq xs.length len then
        (fNats (rowsIn st (refss ss)) fun ids => frzAll ids st fun st => match bElems st ei.size xs with
          | some l => fEls l fun l => newBox st d (.row d) (.row e ei.size l) k
          | none => none)
        else none
    | none => none)
  | _, _, _ => none
def storeE (T : TT) (st : St) (t : TypeId) (ad x : Option SV) (k : List Nat → St → Option β) : Option β := match lkF t T, ad, x with
  | some ti, some (.ptr j off), some s => (match lkF j st.own, cellsOf s with
    | some (.cells cs), some xs => bif xs.all oneS && Nat.beq xs.length ti.size && Nat.ble (off + xs.length) cs.length then
        (fOnes (cs.take off ++ xs ++ cs.drop (off + xs.length)) fun cs => fOwn (setB j (.cells cs) st.own) fun own => fN ⟨st.n, st.fr, own⟩ fun st => k [j] st) else none
    | _, _ => none)
  | some ti, some (.eptr j z i off), some s => (match lkF j st.own, cellsP s with
    | some (.row e z' l), some xs => bif Nat.beq z z' && xs.all oneP && Nat.beq xs.length ti.size && Nat.ble (off + xs.length) z && Nat.blt i l.length then
        (fLeafs ((l.getD i []).take off ++ xs ++ (l.getD i []).drop (off + xs.length)) fun c => fList (l.set i c) fun l => fOwn (setB j (.row e z l) st.own) fun own => fN ⟨st.n, st.fr, own⟩ fun st => k [j] st) else none
    | _, _ => none)
  | _, _, _ => none
def mapE (T : TT) (st : St) (t : TypeId) (m key x : Option SV) (k : List Nat → St → Option β) : Option β := match lkF t T, m, key, x with
  | some ⟨_, _, .mp kt _, _, _⟩, some (.row j), some (.p (.v kv)), some (.p p) => (match lkF kt T, lkF j st.own with
    | some ki, some (.mp es) => bif kdOk ki.d kv && es.all (fun x => kdOk ki.d x.1) && (mfind kv es).isNone then
        (fMap (es ++ [(kv, p)]) fun es => fOwn (setB j (.mp es) st.own) fun own => fN ⟨st.n, st.fr, own⟩ fun st => k [j] st) else none
    | _, _ => none)
  | _, _, _, _ => none
def acallE (cx : Cx) (ev : FuncId → FnI → List SV → List (Nat × Box) → Ret) (st : St) (o : Oper) (c : Call) (k : List Nat → St → Option β) : Option β := match c.callee with
  | .builtin .append => (match c.args.toList, c.argTypes.toList with
    | [sx, xx], [t, t'] => bif Nat.beq t t' then appE cx.T st o sx xx t k else none
    | _, _ => none)
  | .value fo => (match evF st fo with
    | some s => (match fnOf s with
      | some (f, caps) => callE cx ev st o (isPS s) f caps c.args.toList k
      | none => none)
    | none => none)
  | _ => none
/-- an operation that makes or writes -/
def actE (cx : Cx) (ev : FuncId → FnI → List SV → List (Nat × Box) → Ret) (st : St) (o : Oper) (k : List Nat → St → Option β) : Option β := match o.op with
  | .alloc e => allocE cx.T st o.dst e k
  | .box _ x => boxE st o.dst (evF st x) k
  | .buildSlice t len parts => (match seqParts 0 parts.toList with
    | some xs => buildE cx.T st o.dst t len xs k
    | none => none)
  | .store t ad x => (match o.dst with
    | none => storeE cx.T st t (evF st ad) (evF st x) k
    | some _ => none)
  | .makeMap _ none => (match o.dst with
    | some d => newBox st d (.row d) (.mp []) k
    | none => none)
  | .mapUpdate t m key x => (match o.dst with
    | none => mapE cx.T st t (evF st m) (evF st key) (evF st x) k
    | some _ => none)
  | .call c => acallE cx ev st o c k
  | _ => none
def stepE (cx : Cx) (ev : FuncId → FnI → List SV → List (Nat × Box) → Ret) (K : List Nat) (st : St) (o : Oper) (k : List Nat → St → Option β) : Option β :=
  bif isRd o.op then (bif dstOk st o.dst then opE cx.T K st o.op fun s => putE st o.dst s fun st => k [] st else none) else actE cx ev st o k
end
def evT (cx : Cx) (ev : FuncId → FnI → List SV → List (Nat × Box) → Ret) (ops : List Oper) : List Oper → St → Option St
  | [], st => some st
  | o :: r, st => match wantS ops st o with
    | some true => stepE cx ev [] st o fun _ st' => evT cx ev ops r st'
    | some false => bif dstOk st o.dst then putE st o.dst (.tup []) fun st => evT cx ev ops r st else none
    | none => none
/-- what a read that is taken ahead may not lean on -/
def kapOf (K : List Nat) (st : St) (o : Op) : List Nat := match o with
  | .load _ a => (match evF st a with
    | some s => K.filter fun j => !mem j (refs s)
    | none => K)
  | .lookup _ m _ _ => (match evF st m with
    | some s => K.filter fun j => !mem j (refs s)
    | none => K)
  | .convert _ _ x => (match evF st x with
    | some (.row j) => K.filter fun i => !(Nat.beq i j)
    | _ => K)
  | _ => K
def okW (w : List Nat) (κ : Kap) : Bool := κ.all fun p => w.all fun i => mem i p.2
def evM (cx : Cx) (ev : FuncId → FnI → List SV → List (Nat × Box) → Ret) (ops : List Oper) (K : List Nat) (chk : Bool) : List (Nat × Bool) → Kap → List Nat → St → Option (List Nat × St)
  | [], _, ws, st => some (ws, st)
  | (i, b) :: r, κ, ws, st => match nthO ops i with
    | some o => match wantS ops st o with
      | some true => bif b then (bif dstOk st o.dst then fNats (kapOf K st o.op) fun Ki => opE cx.T Ki st o.op fun s => putE st o.dst s fun st => evM cx ev ops K chk r ((i, Ki) :: κ) ws st else none)
        else stepE cx ev [] st o fun w st' => bif !chk || okW w (kapB o κ) then evM cx ev ops K chk r (kapB o κ) (w ++ ws) st' else none
      | some false => bif dstOk st o.dst then putE st o.dst (.tup []) fun st => evM cx ev ops K chk r κ ws st else none
      | none => none
    | none => none
def dstsOf : List Oper → List Nat
  | [] => []
  | o :: r => match o.dst with
    | some d => d :: (1000 * (d + 1)) :: dstsOf r
    | none => dstsOf r
def idsOf : List (Nat × Box) → List Nat
  | [] => []
  | (i, _) :: r => i :: idsOf r
def evReg (cx : Cx) (ev : FuncId → FnI → List SV → List (Nat × Box) → Ret) (ords : List (Nat × List (Nat × Bool))) (id : Nat) (ops : List Oper) (st : St) : Bool → Option St
  | false => evT cx ev ops ops st
  | true => match lkF id ords with
    | some od => fNats (idsOf st.own ++ dstsOf ops) fun K0 => match evM cx ev ops K0 true od [] [] st with
      | some (_, st') => some st'
      | none => match evM cx ev ops [] false od [] [] st with
        | some ([], st') => some st'
        | some (ws, _) => fNats ws fun ws => match evM cx ev ops ws true od [] [] st with
          | some (_, st') => some st'
          | none => none
        | none => none
    | none => none
def lent : List (Nat × Box) → List Nat
  | [] => []
  | (i, _) :: r => bif Nat.ble 1000000 i then i :: lent r else lent r
/-- between two rounds of a loop: slots that were not there ahead of it are forgotten, what is not reached any more too; new numbers -/
def turnE {β : Type} (ts : List Nat) (st : St) (k : St → Option β) : Option β :=
  fRen (number false 905000 (reach st.own 1000 (match frR (st.own.map fun p => (p.1, p.1)) st.fr ts with | some fr => refss (fr.map (·.2)) ++ lent st.own | none => lent st.own) [])) fun ρ => bif renOk ρ then (match st.only ts ρ with
    | some st' => fSt st' k
    | none => none) else none
def evC (cx : Cx) (ev : FuncId → FnI → List SV → List (Nat × Box) → Ret) (ords : List (Nat × List (Nat × Bool))) (again : Code → St → Option (SEx × St)) (jump : Code → Nat → St → Option (SEx × St)) : Code → St → Option (SEx × St)
  | .skip, st => some (.normal, st)
  | .region id ops d, st => match evReg cx ev ords id ops.toList st d with
    | some st' => some (.normal, st')
    | none => none
  | .seq a b, st => match evC cx ev ords again jump a st with
    | some (.normal, st') => evC cx ev ords again jump b st'
    | r => r
  | .cond c a b, st => match evF st c with
    | some (.p (.v (.bool true))) => evC cx ev ords again jump a st
    | some (.p (.v (.bool false))) => evC cx ev ords again jump b st
    | _ => none
  | .block id b, st => match evC cx ev ords again jump b st with
    | some (.exit i, st') => bif Nat.beq i id then some (.normal, st') else some (.exit i, st')
    | r => r
  | .loop b, st => fNats (keys st.fr []) fun ts => match evC cx ev ords again jump b st with
    | some (.normal, st') => turnE ts st' fun st'' => again (.loop b) st''
    | r => r
  | .exit id, st => some (.exit id, st)
  | .ret, st => some (.ret, st)
  | .label _, st => some (.normal, st)
  | .goto l, st => some (.goto l, st)
  | .scope b, st => match evC cx ev ords again jump b st with
    | some (.goto l, st') => turnE (keys st'.fr []) st' fun st'' => jump b l st''
    | r => r
  | _, _ => none
/-- what a result variable holds -/
def resO (T : TT) (st : St) : ResultVar → Option SV
  | .tmp t => lk t st.fr
  | .cell a t => match rLoad T [] st t (lk a st.fr), lk a st.fr with
    | some (_, s), some (.ptr _ _) => some s
    | _, _ => none
def resOs (T : TT) (st : St) : List ResultVar → Option (List SV)
  | [] => some []
  | t :: r => match resO T st t with
    | some s => match resOs T st r with
      | some l => some (s :: l)
      | none => none
    | none => none
def resC (T : TT) (st : St) : List ResultVar → Option SV
  | [t] => resO T st t
  | ts => match resOs T st ts with
    | some l => some (.tup l)
    | none => none
/-- a call's end: what it gives, under small numbers -/
def finE (T : TT) (ts : List ResultVar) (st : St) : Ret := match resC T st ts with
  | some s => fRen (number false 0 (reach st.own 1000 (refs s ++ lent st.own) [])) fun ρ => match s.mapR ρ, ownR ρ st.own ρ with
    | some r, some own => bif renOk ρ then fSV r fun r => fOwn own fun own => some (r, own) else none
    | _, _ => none
  | none => none
def finR (T : TT) (ts : List ResultVar) (r : Option (SEx × St)) : Ret := match r with
  | some (.normal, st') => finE T ts st'
  | some (.ret, st') => finE T ts st'
  | _ => none
/-- in a scope, from a label on -/
def jumpE (run : Code → St → Option (SEx × St)) (go : St → Option (SEx × St)) (b : Code) (l : Nat) (st : St) : Option (SEx × St) := match findLabel b l with
  | some rest => (match run rest st with
    | some (.goto l', st') => bif Nat.beq l' l then turnE (keys st'.fr []) st' go else none
    | r => r)
  | none => none
abbrev Ords := List (Nat × List (Nat × Bool))
/-- codes; scopes from a label on -/
def evNJ (cx : Cx) : Nat → (Ords → Code → St → Option (SEx × St)) × (Ords → Code → Nat → St → Option (SEx × St))
  | 0 => (fun _ _ _ => none, fun _ _ _ _ => none)
  | n + 1 =>
    (fun ords c st => evC cx (fun _ fi args own => bif Nat.ble args.length fi.n then finR cx.T fi.ts ((evNJ cx n).1 fi.ords fi.c ⟨fi.n, argFrS 0 args, own⟩) else none) ords ((evNJ cx n).1 ords) ((evNJ cx n).2 ords) c st,
     fun ords b l st => jumpE (evC cx (fun _ fi args own => bif Nat.ble args.length fi.n then finR cx.T fi.ts ((evNJ cx n).1 fi.ords fi.c ⟨fi.n, argFrS 0 args, own⟩) else none) ords ((evNJ cx n).1 ords) ((evNJ cx n).2 ords)) ((evNJ cx n).2 ords b l) b l st)
def evN (cx : Cx) (n : Nat) (ords : Ords) (c : Code) (st : St) : Option (SEx × St) := (evNJ cx n).1 ords c st
def evJ (cx : Cx) (n : Nat) (ords : Ords) (b : Code) (l : Nat) (st : St) : Option (SEx × St) := (evNJ cx n).2 ords b l st
/-- are the orders of a code's drawn regions orders? -/
def chkR (ords : List (Nat × List (Nat × Bool))) (id : Nat) (ops : Array Oper) : Bool := match lk id ords with
  | some od => Region.noSelect ops && (orderB .any ops od (Array.replicate ops.size false) && od.length == ops.size)
  | none => true
def chkC (ords : List (Nat × List (Nat × Bool))) : Code → Bool
  | .region id ops true => chkR ords id ops
  | .seq a b => chkC ords a && chkC ords b
  | .cond _ a b => chkC ords a && chkC ords b
  | .block _ b => chkC ords b
  | .loop b => chkC ords b
  | .scope b => chkC ords b
  | _ => true
end
end Go.Proofs.Ytjpcchipejmocaa
