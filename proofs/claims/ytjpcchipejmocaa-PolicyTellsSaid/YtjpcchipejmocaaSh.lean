/-
  Short forms of the rules for regions: what follows by computation is filled in.
-/
import Derived.Test.YtjpcchipejmocaaTypes
namespace Go.Proofs.Ytjpcchipejmocaa
set_option linter.unusedVariables false
set_option linter.unusedSimpArgs false
open Go.RowKit
section
variable {ops : List Oper} {o : Oper} {rest : List Oper} {st : St} {Q : St → Prop}
theorem sR {c : Prop} {s : SV} (hw : wantS ops st o = some true := by rfl) (hr : opR TTab [] st o.op = some (c, s) := by rfl) (hc : c := by exact True.intro) (hd : dstOk st o.dst = true := by rfl) (h : SWT Try.prog ops rest Q (st.put o.dst s)) : SWT Try.prog ops (o :: rest) Q st := swt_read ttab_ok hw hr hc hd h
theorem sK (hw : wantS ops st o = some false := by rfl) (hd : dstOk st o.dst = true := by rfl) (h : SWT Try.prog ops rest Q (st.put o.dst (.tup []))) : SWT Try.prog ops (o :: rest) Q st := swt_skip hw hd h
theorem aM {t : TypeId} (ho : o.op = .makeMap t none := by rfl) {d : Nat} (hdst : o.dst = some d := by rfl) (hd : lk d st.own = none := by rfl) (hn : Nat.blt d st.n = true := by rfl) (h : Q ⟨st.n, (d, .row d) :: st.fr, (d, .mp []) :: st.own⟩) : ActOk Try.prog [] o st Q := act_makeMap ho hdst hd hn h
theorem aB {e : TypeId} {x : Operand} (ho : o.op = .box e x := by rfl) {d : Nat} (hdst : o.dst = some d := by rfl) {s : SV} (hx : evS st x = some s := by rfl) {cs : List SV} (hc : cellsOf s = some cs := by rfl) (h1 : cs.all oneS = true := by rfl) (hd : lk d st.own = none := by rfl) (hn : Nat.blt d st.n = true := by rfl)
    (h : Q ⟨st.n, (d, .ptr d 0) :: st.fr, (d, .cells cs) :: st.own⟩) : ActOk Try.prog [] o st Q := act_box ho hdst hx hc h1 hd hn h
theorem aA {e : TypeId} (ho : o.op = .alloc e := by rfl) {d : Nat} (hdst : o.dst = some d := by rfl) {i : TyI} (hi : lk e TTab = some i := by rfl) (hz : i.zero.all plain = true := by rfl) (hd : lk d st.own = none := by rfl) (hn : Nat.blt d st.n = true := by rfl)
    (h : Q ⟨st.n, (d, .ptr d 0) :: st.fr, (d, .cells (i.zero.map fun z => .p (.v z))) :: st.own⟩) : ActOk Try.prog [] o st Q := act_alloc ttab_ok ho hdst hi hz hd hn h
theorem aS {t : TypeId} {ad x : Operand} (ho : o.op = .store t ad x := by rfl) (hdst : o.dst = none := by rfl) {ti : TyI} (ht : lk t TTab = some ti := by rfl) {j off : Nat} (had : evS st ad = some (.ptr j off) := by rfl) {cs : List SV} (hj : lk j st.own = some (.cells cs) := by rfl)
    {s : SV} (hx : evS st x = some s := by rfl) {xs : List SV} (hxs : cellsOf s = some xs := by rfl) (h1 : xs.all oneS = true := by rfl) (hlen : Nat.beq xs.length ti.size = true := by rfl) (hfit : Nat.ble (off + xs.length) cs.length = true := by rfl)
    (h : Q ⟨st.n, st.fr, setB j (.cells (cs.take off ++ xs ++ cs.drop (off + xs.length))) st.own⟩) : ActOk Try.prog [j] o st Q := act_store ttab_ok ho hdst ht had hj hx hxs h1 hlen hfit h
theorem aL {t e : TypeId} {len : Nat} {parts : Array (Nat × Operand)} (ho : o.op = .buildSlice t len parts := by rfl) {d : Nat} (hdst : o.dst = some d := by rfl) {ti ei : TyI} (ht : lk t TTab = some ti := by rfl) (hte : ti.d = .sl e := by rfl) (he : lk e TTab = some ei := by rfl)
    (hsz : Nat.blt 0 ei.size = true := by rfl) (hsmall : Nat.ble (len * ei.size) 16777216 = true := by rfl) {xs : List Operand} (hxs : seqParts 0 parts.toList = some xs := by rfl) (hlen : Nat.beq xs.length len = true := by rfl) {l : List (List PV)} (hl : bElems st ei.size xs = some l := by rfl)
    (hd : lk d st.own = none := by rfl) (hn : Nat.blt d st.n = true := by rfl) (h : Q ⟨st.n, (d, .row d) :: st.fr, (d, .row e ei.size l) :: st.own⟩) : ActOk Try.prog [] o st Q := act_buildSlice ttab_ok ho hdst ht hte he hsz hsmall hxs hlen hl hd hn h
theorem sT {Ws : List Nat} (hw : wantS ops st o = some true := by rfl) (h : ActOk Try.prog Ws o st (SWT Try.prog ops rest Q)) : SWT Try.prog ops (o :: rest) Q st := swt_act hw h
end
section
variable {ops : List Oper} {K : List Nat} {o : Oper} {r : List (Nat × Bool)} {st : St} {Q : St → Prop} {i : Nat}
theorem mR {b : Bool} {c : Prop} {s : SV} (hi : nthO ops i = some o := by rfl) (hw : wantS ops st o = some true := by rfl) (hr : opR TTab (bif b then K else []) st o.op = some (c, s) := by rfl) (hc : c := by exact True.intro) (hd : dstOk st o.dst = true := by rfl) (h : SWM Try.prog ops K r Q (st.put o.dst s)) : SWM Try.prog ops K ((i, b) :: r) Q st := swm_read ttab_ok hi hw hr hc hd h
theorem mK {b : Bool} (hi : nthO ops i = some o := by rfl) (hw : wantS ops st o = some false := by rfl) (hd : dstOk st o.dst = true := by rfl) (h : SWM Try.prog ops K r Q (st.put o.dst (.tup []))) : SWM Try.prog ops K ((i, b) :: r) Q st := swm_skip hi hw hd h
theorem mT {Ws : List Nat} (hi : nthO ops i = some o := by rfl) (hw : wantS ops st o = some true := by rfl) (h : ActOk Try.prog Ws o st (SWM Try.prog ops K r Q)) (hK : Ws.all (fun j => K.contains j) = true := by rfl) : SWM Try.prog ops K ((i, false) :: r) Q st := swm_act hi hw hK h
end
end Go.Proofs.Ytjpcchipejmocaa
