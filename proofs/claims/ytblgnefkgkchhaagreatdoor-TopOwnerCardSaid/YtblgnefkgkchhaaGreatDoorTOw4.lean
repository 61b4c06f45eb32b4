/- Part 4. -/
import Derived.Scope
import Derived.Laws.BytesString
import Derived.Test.YtblgnefkgkchhaaGreatDoorRows
import Derived.Laws.MakeOwn
import Derived.Laws.CopyRow
import Derived.Lib.Overlaps
import Derived.Lib.AppendZerosOnto
import Derived.Laws.NewBlocks
import Derived.Laws.IdiomCopy
import Derived.Lib.AppendZeros
import Derived.Test.YtblgnefkgkchhaaGreatDoorTOw3
set_option maxHeartbeats 4000000
set_option maxRecDepth 100000
set_option linter.unusedSimpArgs false
set_option linter.unusedVariables false
namespace Go.Proofs.YtblgnefkgkchhaaGreatDoor
open _root_.Go.Proofs.Tryz
section
open Go.RowKit
def RdO (P:Program) (K:List Nat) (st:St) (o:Oper) (s:SV):Prop:=∀(w0:Base) (Sx:Nat->Prop) (γ:Nat->Value) (a:Act) (w:World),Sim w0 Sx γ st a w->
 ∃v,RelS (okO Sx γ st.own) (hp γ st.own) w s v/\∀x,SameOn (vis K γ st.own) w x->(execOp a.eval o).run P x=.ok (.value v) x
section
variable {P:Program} {T:TT} (hT:zi P T) {K:List Nat} {st:St} {o:Oper} {β:Type} {k:SV->Option β} {b:β}
theorem RdO.of_sem {s:SV} {sem:Act->Sem Value} (he:∀a:Act,execOp a.eval o=(do pure (.value (<-sem a)):Sem Next)) (h:∀(w0:Base) (Sx:Nat->Prop) (γ:Nat->Value) (a:Act) (w:World),Sim w0 Sx γ st a w->Rd P K Sx γ st w (sem a) s):RdO P K st o s:=fun w0 Sx γ a w hI=>by
 obtain⟨v,h1,h2⟩:=h w0 Sx γ a w hI;exact⟨v,h1,fun x hx=>by rw[he];exact run_v (h2 x hx)⟩
theorem ql {s:SV} {Q:St->Prop} (h:RdO P K st o s) (hd:wa st o.dst=true) (hQ:Q (st.put o.dst s)):ActOk P [] o st Q:=by
 intro w0 Sx γ a w QQ hI;obtain⟨v,h1,h2⟩:=h w0 Sx γ a w hI;unfold Oper.wp;rw[h2 w (SameOn.refl _ _)];refine⟨γ,_,hQ,hI.put hd h1,SameOn.refl _ _,fun K _ b _ hv=>?_⟩;rw[qaW];exact hv
include hT in
theorem qf {s:SV} {c:Prop} (h:opR T K st o.op=some (c,s)) (hc:c):RdO P K st o s:=fun _ _ _ _ _ hI=>opR_ok hT hI h hc
theorem goF_ok {r:Option (Prop×SV)} {c:Bool} (h:goF r c k=some b):∃p s,r=some (p,s)/\c=true/\k s=some b:=by
 unfold goF at h;split at h
 · rename_i p s;cases c with
   |false=>cases h
   |true=>rw[cond_true,fSV_eq]at h;exact⟨p,s,rfl,rfl,h⟩
 · cases h
theorem rLoadC_ok {t:TypeId} {x:Option SV} {s:SV} {c:Prop} (h:rLoad T K st t x=some (c,s)) (hc:rLoadC st x=true):c:=by
 unfold rLoad at h;split at h
 · split at h
   · split at h
     · cases h;exact trivial
     · cases h
   · split at h
     · cases h
     · split at h
       · split at h
         · split at h
           · cases h;exact trivial
           · cases h
         · cases h
       · cases h
   · split at h
     · cases h
     · simp only[rLoadC,lkF_eq]at hc;split at h
       · rename_i z' l hj;rw[hj]at hc;rename_i z kk _ _ _;generalize hb:Nat.beq _ _=q at h;cases q with
         |false=>cases h
         |true=>
          simp only[cond_true]at h;split at h
          · cases h;simpa [Nat.blt,YJ]using hc
          · cases h
       · cases h
   · cases h
 · cases h
theorem bytesOf_get:∀{l:List (List PV)} {bs:List UInt8},bytesOf l=some bs->bs.length=l.length/\∀i:Nat,i<l.length->∃n:Int,l[i]?=some [.v (.int .u8 n)]/\bs[i]?=some (UInt8.ofNat n.toNat)
 |[],bs,h=>by simp only[bytesOf,Ye]at h;subst h;exact⟨rfl,fun i hi=>by simp at hi⟩
 |c::r,bs,h=>by
  unfold bytesOf at h;split at h
  · rename_i b hb;split at h
    · rename_i l hl;simp only[Ye]at h;subst h;obtain⟨h1,h2⟩:=bytesOf_get hl;refine⟨by simp[h1],fun i hi=>?_⟩;cases i with
      |zero=>
       unfold byteOf at hb;split at hb
       · rename_i n;cases hb;exact⟨n,rfl,rfl⟩
       · cases hb
      |succ i=>
       obtain⟨n,g1,g2⟩:=h2 i Ei;exact⟨n,by simpa using g1,by simpa using g2⟩
    · cases h
  · cases h
theorem push_fold:∀(ns:List Int) (s:EQ),ns.foldl (fun r n=>r.push (UInt8.ofNat n.toNat)) s=⟨⟨s.data.toList++ns.map fun n=>UInt8.ofNat n.toNat⟩⟩
 |[],s=>by
  apply ByteArray.ext;apply Xw.1;simp
 |n::ns,s=>by
  rw[Xx,push_fold ns];apply ByteArray.ext;apply Xw.1;simp[ByteArray.push]
theorem run_text {sT dT e:TypeId} {A:Option Addr} {c:Nat} {l:List (List PV)} {bs:List UInt8} {x:World} (hs:P.underlying sT=some (.slice e)) (he:P.underlying e=some (.int .u8)) (hd:P.underlying dT=some .string) (hl:bytesOf l=some bs)
 (h:0<l.length->∃b o,A=some ⟨b,o,none⟩/\∀i n,l[i]?=some [.v (.int .u8 n)]->x.cell? ⟨b,o+i,none⟩=some (.int .u8 n)):
 (convert sT dT (.slice A l.length c)).run P x=.ok (.string ⟨⟨bs⟩⟩) x:=by
 rw[run_convert_bytes_string x sT dT e A l.length c hs he hd];obtain⟨g1,g2⟩:=bytesOf_get hl;cases A with
 |none=>
  have:l=[]:=by
   rcases Nat.eq_zero_or_pos l.length with h0|h0
   · exact Xk h0
   · obtain⟨b,o,hA,_⟩:=h h0;cases hA
  subst this;have:bs=[]:=Xk g1
  subst this;simp[Conv.bytesToString];rfl
 |some ad=>
  have hex:∀i:Nat,∃n:Int,i<l.length->l[i]?=some [.v (.int .u8 n)]/\bs[i]?=some (UInt8.ofNat n.toNat):=fun i=>by
   by_cases hi:i<l.length
   · obtain⟨n,h1⟩:=g2 i hi;exact⟨n,fun _=>h1⟩
   · exact⟨0,fun h=>absurd h hi⟩
  obtain⟨f,hf⟩:=Classical.axiomOfChoice hex;have hbs:bs=((List.range l.length).map f).map fun n=>UInt8.ofNat n.toNat:=by
   refine List.ext_getElem? fun i=>?_
   by_cases hi:i<l.length
   · rw[(hf i hi).2];simp[hi]
   · rw[YR EM,YR ED]
  have hcells:∀j v,(((List.range l.length).map f).map (Value.int .u8))[j]?=some v->x.cell? (ad.add j)=some v:=fun j v hv=>by
   have hj:j<l.length:=by have:=(Yr.1 hv).1;simpa using this
   obtain⟨b,o,hA,hx⟩:=h EM;cases hA;rw[wb];simp[hj]at hv;rw[<-hv];exact hx j _ (hf j hj).1
  have h1:=run_loadCells_list (P:=P) x ad _ hcells;rw[Yb,Yb,List.length_range]at h1;rw[run_bytesToString x ad l.length c _ h1,push_fold,hbs];rfl
include hT in
theorem eConv_ok {sT dT:TypeId} {x:Operand} (ho:o.op=.convert sT dT x) (h:eConv T K st sT dT (evS st x) k=some b):∃s,RdO P K st o s/\k s=some b:=by
 have put:∀{l:List (List PV)},eText T sT dT l k=some b->(∀(w0:Base) (Sx:Nat->Prop) (γ:Nat->Value) (a:Act) (w:World),Sim w0 Sx γ st a w->∃A c,a.eval x=.slice A l.length c/\∀z,SameOn (vis K γ st.own) w z->0<l.length->∃b o,A=some ⟨b,o,none⟩/\∀i n,l[i]?=some [.v (.int .u8 n)]->z.cell? ⟨b,o+i,none⟩=some (.int .u8 n))->
  ∃s,RdO P K st o s/\k s=some b:=fun{l} h hx=>by
  unfold eText at h;rw[lkF_eq,lkF_eq]at h;split at h
  · rename_i e _ _ _ _ _ _ hs hd;rw[lkF_eq]at h;split at h
    · rename_i bs he hbs;rw[fList_eq]at h;have us:=(hT sT _ hs).und;have ud:=(hT dT _ hd).und;have ue:=(hT e _ he).und;simp only[wf]at us ud ue;refine⟨_,RdO.of_sem (sem:=fun a=>convert sT dT (a.eval x)) (fun a=>by simp only[execOp,ho]) fun w0 Sx γ a w hI=>?_,h⟩;obtain⟨A,c,ha,hc⟩:=hx w0 Sx γ a w hI;exact⟨_,.p (.v rfl),fun z hz=>by rw[ha];exact run_text us ue ud hbs (hc z hz)⟩
    · cases h
  · cases h
 unfold eConv at h;split at h
 · rename_i zz l hx;refine put h fun w0 Sx γ a w hI=>?_
   have hr:=(qJ hI hx).p_inv;obtain⟨A,c,hv,_⟩:=hr.slat;refine⟨A,c,hv,fun z hz hl=>?_⟩;have hrz:RelP (okO Sx γ st.own) z (.sl zz l) (a.eval x):=hr.keep (hz.weak fun b _ hok=>okO_vis hok);obtain⟨A2,c2,hv2,_,_,he,hsl⟩:=hrz.slat;rw[hv]at hv2;cases hv2;obtain⟨b,o,hA,_,_,hc⟩:=hsl hl;refine⟨b,o,hA,fun i n hi=>?_⟩;have hil:i<l.length:=(Yr.1 hi).1;have hz1:zz=1:=by have:=(he _ (YI hi)).1;simpa using this.symm
   obtain⟨cs,q1,q2,q3⟩:=hc i hil;have hli:l[i]=[.v (.int .u8 n)]:=by rw[Yi hil]at hi;exact Y6 hi
   rw[hli]at q3;have hcl:cs.length=1:=q3.1;have hcs:∃u,cs=[u]:=by
    match cs,hcl with
    |[u],_=>exact⟨u,rfl⟩
   obtain⟨u,rfl⟩:=hcs;have hu:=jn (q3.2 0 _ u rfl rfl) rfl;subst hu;have:=q2 0 _ rfl;rw[hz1,Nat.mul_one,Nat.add_zero]at this;exact this
 · rename_i hx;refine put h fun w0 Sx γ a w hI=>⟨none,0,(qJ hI hx).v_inv,fun z _ hl=>by simp at hl⟩
 · rename_i j hx;cases hK:K.contains j with
   |true=>rw[hK]at h;cases h
   |false=>
    rw[hK,cond_false,lkF_eq]at h;split at h
    · rename_i e zz l hj;refine put h fun w0 Sx γ a w hI=>?_
      have hr:=qJ hI hx;obtain⟨A,c,g1,g2,g3,g4,g5⟩:=row_slat hI.heap hj;have ha:a.eval x=γ j:=by
       generalize a.eval x=u at hr;cases hr with
       |row hg=>rw[qY hj]at hg;cases hg;rfl
      refine⟨A,c,by rw[ha,g1],fun z hz hl=>?_⟩;obtain⟨b,o,hA,hlt,hc⟩:=g5 hl;refine⟨b,o,hA,fun i n hi=>?_⟩;have hil:i<l.length:=(Yr.1 hi).1;have hz1:zz=1:=by have:=(g4 _ (YI hi)).1;simpa using this.symm
      obtain⟨cs,q1,q2,q3,q4⟩:=hc i hil;have hli:l[i]=[.v (.int .u8 n)]:=by rw[Yi hil]at hi;exact Y6 hi
      rw[hli]at q4;have hcs:∃u,cs=[u]:=by
       match cs,(q4.1:cs.length=1)with
       |[u],_=>exact⟨u,rfl⟩
      obtain⟨u,rfl⟩:=hcs;have hu:=jn (q4.2 0 _ u rfl rfl) rfl;subst hu;have:=q2 0 _ rfl;rw[hz1,Nat.mul_one,Nat.add_zero]at this;have hbj:zb (γ j)=some b:=by rw[g1,hA];rfl
      rw[World.cell?_of_block (w:=w) (a:=⟨b,o+i,none⟩) (hz.block b hlt fun i2 bx h1 h2 h3=>?_)]
      · exact this
      · have:=hI.heap.inj i2 j _ _ b h1 hj h3 hbj;subst this;rw[hK]at h2;cases h2
    · cases h
 · obtain⟨p,s,h1,_,h3⟩:=goF_ok h;refine⟨s,qf hT (by rw[ho];exact h1) ?_,h3⟩;unfold rConv at h1
   repeat' split at h1
   all_goals first|(cases h1;done)|(cases h1;exact trivial)
end
section
variable {P:Program} {T:TT} (hT:zi P T) {st:St} {o:Oper} {β:Type} {k:List Nat->St->Option β} {b:β}
theorem ActOk.frz {Ws:List Nat} {Q:St->Prop} {i:Nat} {e:TypeId} {z:Nat} {l:List (List PV)} (hk:lk i st.own=some (.row e z l)) (h:ActOk P Ws o (st.frz i z l) Q):ActOk P Ws o st Q:=by
 intro w0 Sx γ a w QQ hI;have old:∀{j bx},lk j (st.frz i z l).own=some bx->∃b0,lk j st.own=some b0:=fun{j bx} hj=>by
  have hj:lk j ((del i st.own).map fun p=>(p.1,p.2.frz i z l))=some bx:=hj;rw[lk_map,lk_del]at hj;split at hj
  · cases hj
  · obtain⟨b0,h1,_⟩:=YO.1 hj;exact⟨b0,h1⟩
 have hv:∀K b,vis K γ st.own b->vis K γ (st.frz i z l).own b:=fun K b hv j bx hj hK hb=>by
  obtain⟨b0,h1⟩:=old hj;exact hv j b0 h1 hK hb
 refine Oper.wp_mono (fun a' w' hq=>?_) (h w0 Sx γ a w QQ (sim_frz hk hI));obtain⟨γ',st',h1,h2,h3,h4⟩:=hq;exact⟨γ',st',h1,h2,⟨h3.size,fun b hb hv'=>h3.block b hb (hv _ b hv')⟩,fun K hK b hb hv'=>h4 K hK b hb (hv K b hv')⟩
section
variable {sx xx:Operand} {t e:TypeId} {cl:Call} (ho:o.op=.call cl) (hcl:cl.callee=.builtin .append) (hargs:cl.args.toList=[sx,xx]) (hts:cl.argTypes.toList=[t,t]) {d:Nat} (hdst:o.dst=some d)
 {ti ei:TyI} (ht:lk t T=some ti) (hte:ti.d=.sl e) (he:lk e T=some ei) (hsz:Nat.blt 0 ei.size=true) (hz:Nat.beq ei.zero.length ei.size=true)
include hT ho hcl hargs hts hdst ht hte he hsz hz
end
def EvOk (P:Program) (cx:Cx) (ev:FuncId->FnI->List SV->List (Nat×Box)->Ret):Prop:=∀f fi args own r own',lk f cx.F=some fi->ev f fi args own=some (r,own')->HoldsW P f args own r own'
def TabOk (P:Program) (cx:Cx):Prop:=∀f ps r,cx.C f ps=some r->Holds P f ps r []
end
theorem ActOk.mono {P:Program} {Ws:List Nat} {o:Oper} {st:St} {Q Q':St->Prop} (h:ActOk P Ws o st Q) (hq:∀s,Q s->Q' s):ActOk P Ws o st Q':=fun w0 Sx γ a w QQ hI=>by
 refine Oper.wp_mono (fun a' w' h'=>?_) (h w0 Sx γ a w QQ hI);obtain⟨γ',st',h1,h2⟩:=h';exact⟨γ',st',hq _ h1,h2⟩
section
variable {P:Program} {cx:Cx} (hT:zi P cx.T) (hC:TabOk P cx) {ev:FuncId->FnI->List SV->List (Nat×Box)->Ret} (hev:EvOk P cx ev)
section
variable {st:St} {o:Oper} {β:Type} {k:List Nat->St->Option β} {b:β}
end
end
section
variable {P:Program} {T:TT} (hT:zi P T)
include hT in
theorem resO_ok {st:St} {w0:Base} {Sx:Nat->Prop} {γ:Nat->Value} {a:Act} {w:World} (hI:Sim w0 Sx γ st a w) {f:ResultVar->Sem Value} (hf1:∀t,f (.tmp t)=pure (a.tmps.getD t undef)) (hf2:∀c t,f (.cell c t)=(do loadVar t (<-asAddr (a.tmps.getD c undef)))) {rv:ResultVar} {s:SV} (h:resO T st rv=some s):
 ∃v,(f rv).run P w=.ok v w/\RelS (okO Sx γ st.own) (hp γ st.own) w s v:=by
 cases rv with
 |tmp t=>exact⟨_,by rw[hf1];rfl,hI.fr t s h⟩
 |cell c t=>
  simp only[resO]at h;split at h
  · rename_i hl hc;cases h;obtain⟨v,h1,h2⟩:=rLoad_ok hT hI (x:=.tmp c) (K:=[]) hl (rLoadC_ok hl (by rw[hc];rfl));have h3:=h2 w (SameOn.refl _ _);have hv:=hI.fr c _ hc;obtain⟨b,g,hb,_⟩:=hv.ptr_form;refine⟨v,?_,h1⟩;rw[show a.eval (.tmp c)=a.tmps.getD c undef from rfl,hb]at h3;rw[hf2,hb];exact h3
  · cases h
include hT in
theorem resOs_ok {st:St} {w0:Base} {Sx:Nat->Prop} {γ:Nat->Value} {a:Act} {w:World} (hI:Sim w0 Sx γ st a w) {f:ResultVar->Sem Value} (hf1:∀t,f (.tmp t)=pure (a.tmps.getD t undef)) (hf2:∀c t,f (.cell c t)=(do loadVar t (<-asAddr (a.tmps.getD c undef)))):∀{rs:List ResultVar} {l:List SV},resOs T st rs=some l->
 ∃vs:List Value,(rs.mapM f).run P w=.ok vs w/\vs.length=l.length/\l.length=rs.length/\∀(i:Nat) (s:SV) (u:Value),l[i]?=some s->vs[i]?=some u->RelS (okO Sx γ st.own) (hp γ st.own) w s u
 |[],l,h=>by
  simp only[resOs,Ye]at h;subst h;exact⟨[],by simp,rfl,rfl,fun i s u hs=>by simp at hs⟩
 |r::rs,l,h=>by
  unfold resOs at h;split at h
  · rename_i s hs;split at h
    · rename_i l' hl;simp only[Ye]at h;subst h;obtain⟨v,h1,h2⟩:=resO_ok hT hI hf1 hf2 hs;obtain⟨vs,h3,h4,h5,h6⟩:=resOs_ok hI hf1 hf2 hl;refine⟨v::vs,?_,by simp[h4],by simp[h5],fun i s' u hs' hu=>?_⟩
      · rw[List.mapM_cons,YG,h1];simp only[Yt,YG,h3,YQ]
      · cases i with
        |zero=>simp at hs' hu;subst hs' hu;exact h2
        |succ i=>exact h6 i s' u (by simpa using hs') Ej
    · cases h
  · cases h
include hT in
theorem resC_ok {fn:Func} {st:St} {w0:Base} {Sx:Nat->Prop} {γ:Nat->Value} {a:Act} {w:World} (hI:Sim w0 Sx γ st a w) {rs:List ResultVar} {s:SV} (h:resC T st rs=some s) (hres:fn.results=rs.toArray):
 ∃v,(results fn a.tmps).run P w=.ok v w/\RelS (okO Sx γ st.own) (hp γ st.own) w s v:=by
 have key:∀{l:List SV},resOs T st rs=some l->∃vs:List Value,(results fn a.tmps).run P w=.ok (if h:vs.toArray.size=1 then vs.toArray[0]else .tuple vs.toArray) w/\vs.length=l.length/\l.length=rs.length/\∀(i:Nat) (s:SV) (u:Value),l[i]?=some s->vs[i]?=some u->RelS (okO Sx γ st.own) (hp γ st.own) w s u:=fun{l} hl=>by
  have gen:∀f:ResultVar->Sem Value,(∀t,f (.tmp t)=pure (a.tmps.getD t undef))->(∀c t,f (.cell c t)=(do loadVar t (<-asAddr (a.tmps.getD c undef))))->
   ∃vs:List Value,((do let vs<-rs.toArray.mapM f;pure (if h:vs.size=1 then vs[0]else .tuple vs)):Sem Value).run P w=.ok (if h:vs.toArray.size=1 then vs.toArray[0]else .tuple vs.toArray) w/\vs.length=l.length/\l.length=rs.length/\∀(i:Nat) (s:SV) (u:Value),l[i]?=some s->vs[i]?=some u->RelS (okO Sx γ st.own) (hp γ st.own) w s u:=fun f hf1 hf2=>by
   obtain⟨vs,h3,h4,h5,h6⟩:=resOs_ok hT hI hf1 hf2 hl;refine⟨vs,?_,h4,h5,h6⟩;rw[YG,List.mapM_toArray,Sem.run_map,h3];simp only[Yt,YQ]
  unfold results;rw[hres];exact gen _ (fun _=>rfl) (fun _ _=>rfl)
 unfold resC at h;split at h
 · rename_i r;obtain⟨vs,h1,h2,h3,h4⟩:=key (l:=[s]) (by simp only[resOs,h]);have hv:∃v,vs=[v]:=by
    match vs,h2 with
    |[v],_=>exact⟨v,rfl⟩
   obtain⟨v,rfl⟩:=hv;exact⟨v,by rw[h1];rfl,h4 0 s v rfl rfl⟩
 · rename_i hne;split at h
   · rename_i l hl;simp only[Ye]at h;subst h;obtain⟨vs,h1,h2,h3,h4⟩:=key hl;have hn:¬vs.toArray.size=1:=fun e=>by
      rw[Xs,h2,h3]at e
      match rs,hne,e with
      |[r],hne,_=>exact hne r rfl
     rw[dif_neg hn]at h1;exact⟨_,h1,.tup h2 h4⟩
   · cases h
end
def jmpW (l:Nat) (J:Act->World->Prop) (Q:Exit->Act->World->Prop):Exit->Act->World->Prop
 | .goto l',a,w=>l'=l/\J a w
 |e,a,w=>Q e a w
theorem wp_scope_ghost {P:Program} {a:Act} {w:World} {Q:Exit->Act->World->Prop} {c rest:Code} (l:Nat) (J:Nat->Act->World->Prop) (hf:findLabel c l=some rest)
 (first:c.wp P (jmpW l (fun a w=>∃n,J n a w) Q) a w)
 (pass:∀n a w,J n a w->rest.wp P (jmpW l (fun a' w'=>∃m,m<n/\J m a' w') Q) a w):(Code.scope c).wp P Q a w:=by
 intro b k cs;have hg:gotoIn l (.inScope c::k)=some (.code rest::.inScope c::k):=by simp[gotoIn,hf]
 have key:∀n a w,J n a w->∃e a' w',Q e a' w'/\Arrives P (lone (b.at a (.code rest::.inScope c::k)) cs w) b k cs e a' w':=by
  intro n
  induction n using Nat.strongRecOn with
  |_ n ih=>
   intro a w hJ;obtain⟨e,a₁,w₁,hq,harr⟩:=pass n a w hJ b (.inScope c::k) cs;cases e with
   |normal=>exact⟨.normal,a₁,w₁,hq,Steps.trans harr (.one step_inScope)⟩
   |exit id=>exact⟨.exit id,a₁,w₁,hq,fun k' hk=>harr k' (by simp[exitTo,hk])⟩
   |goto l'=>
    obtain⟨rfl,m,hlt,hJ'⟩:=hq;obtain⟨e₂,a₂,w₂,hq₂,harr₂⟩:=ih m hlt a₁ w₁ hJ';exact⟨e₂,a₂,w₂,hq₂,.of_steps (harr _ hg) harr₂⟩
   |ret=>exact⟨_,a₁,w₁,hq,harr⟩
   |panic ch=>exact⟨_,a₁,w₁,hq,harr⟩
   |outgrown=>exact⟨_,a₁,w₁,hq,harr⟩
 obtain⟨e,a₁,w₁,hq,harr⟩:=first b (.inScope c::k) cs;cases e with
 |normal=>exact⟨.normal,a₁,w₁,hq,.head step_scope (Steps.trans harr (.one step_inScope))⟩
 |exit id=>exact⟨.exit id,a₁,w₁,hq,fun k' hk=>.head step_scope (harr k' (by simp[exitTo,hk]))⟩
 |goto l'=>
  obtain⟨rfl,m,hJ'⟩:=hq;obtain⟨e₂,a₂,w₂,hq₂,harr₂⟩:=key m a₁ w₁ hJ';exact⟨e₂,a₂,w₂,hq₂,.of_steps (.head step_scope (harr _ hg)) harr₂⟩
 |ret=>exact⟨_,a₁,w₁,hq,.of_steps (.one step_scope) harr⟩
 |panic ch=>exact⟨_,a₁,w₁,hq,.of_steps (.one step_scope) harr⟩
 |outgrown=>exact⟨_,a₁,w₁,hq,.of_steps (.one step_scope) harr⟩
def jmpS (l:Nat) (J:St->Prop) (Q:SEx->St->Prop):SEx->St->Prop
 | .goto l',s=>l'=l/\J s
 |e,s=>Q e s
theorem wR {P:Program} {Q:SEx->St->Prop} {st:St} {l:Nat} (h:Q (.goto l) st):SW P (.goto l) Q st:=fun _ _ γ a w _ hI hQ=>wp_goto (hQ (.goto l) st γ a w hI h)
theorem sw_scope {P:Program} {Q:SEx->St->Prop} {st:St} {c rest:Code} (l:Nat) (I:Nat->St->Prop) (hf:findLabel c l=some rest) (first:SW P c (jmpS l (fun s'=>∃n s'',Wk s' s''/\I n s'') Q) st)
 (round:∀n s,I n s->SW P rest (jmpS l (fun s'=>∃m s'',m<n/\Wk s' s''/\I m s'') Q) s):SW P (.scope c) Q st:=fun w0 Sx γ a w QQ hI hQ=>by
 refine wp_scope_ghost l (fun n a w=>∃s γ,I n s/\Sim w0 Sx γ s a w) hf (first w0 Sx γ a w _ hI fun e s' γ' a' w' hI' hq=>?_) fun n a w ⟨s,γ,hn,hI⟩=>round n s hn w0 Sx γ a w _ hI fun e s' γ' a' w' hI' hq=>?_
 · cases e with
   |goto l'=>
    obtain⟨rfl,n,s'',hwk,hn⟩:=hq;obtain⟨γ'',hI''⟩:=hwk w0 Sx γ' a' w' hI';exact⟨rfl,n,s'',γ'',hn,hI''⟩
   |normal=>exact hQ .normal s' γ' a' w' hI' hq
   |exit id=>exact hQ (.exit id) s' γ' a' w' hI' hq
   |ret=>exact hQ .ret s' γ' a' w' hI' hq
 · cases e with
   |goto l'=>
    obtain⟨rfl,m,s'',hlt,hwk,hm⟩:=hq;obtain⟨γ'',hI''⟩:=hwk w0 Sx γ' a' w' hI';exact⟨rfl,m,hlt,s'',γ'',hm,hI''⟩
   |normal=>exact hQ .normal s' γ' a' w' hI' hq
   |exit id=>exact hQ (.exit id) s' γ' a' w' hI' hq
   |ret=>exact hQ .ret s' γ' a' w' hI' hq
def FOk (P:Program) (cx:Cx):Prop:=∀f fi,lk f cx.F=some fi→∃fn,P.funcs[f]?=some fn∧(fn.name== "runtime.NumGoroutine")=false∧fn.body=some fi.c∧fn.results=fi.ts.toArray∧fn.ntmps=fi.n∧Nat.ble fi.n 900=true∧chkC fi.ords fi.c=true
section
variable {P:Program} {cx:Cx} (hT:zi P cx.T) (hC:TabOk P cx) (hF:FOk P cx) (hm:P.follows .mixedOrders=true)
end
theorem baseOf_nil (w:World) (γ:Nat->Value):wU w γ []=entry w:=by
 unfold wU entry;congr 1
 · funext b;exact propext ⟨fun h=>h.1,fun h=>⟨h,fun i bx hi=>by cases hi⟩⟩
 · funext i;split<;>rfl
theorem Holds.ofW {P:Program} {f:FuncId} {args:List PV} {r:SV} {own':List (Nat×Box)} (h:HoldsW P f (args.map .p) [] r own'):Holds P f args r own':=by
 refine⟨h.1,fun w Sx vs hSx hl hr=>(h.2 w Sx (fun _=>.nilIface) vs (by rw[baseOf_nil];exact heap_nil hSx _) Ek fun i s u hs hu=>?_).mono fun e w' he=>?_⟩
 · rw[YL]at hs;obtain⟨x,hx,rfl⟩:=YO.1 hs;exact .p ((hr i x u hx hu).weak fun b _ hok=>⟨hok,fun i bx hi=>by cases hi⟩)
 · obtain⟨v,γ',r',o',⟨rfl,rfl⟩,h1,h2,h3,h4⟩:=he;rw[baseOf_nil]at h2 h3;exact⟨v,γ',h1,belowB_entry.1 h2,h3,h4⟩
abbrev nilV:PV:=.v (.slice none 0 0)
inductive Cv:PV->PV->Prop
 |refl (p:PV):Cv p p
 |nil (z:Nat):Cv (.v (.slice none 0 0)) (.sl z [])
 |agg {cs ds:List PV} (hl:cs.length=ds.length) (h:∀(i:Nat) (c d:PV),cs[i]?=some c->ds[i]?=some d->Cv c d):Cv (.agg cs) (.agg ds)
 |sl {z:Nat} {l m:List (List PV)} (hl:l.length=m.length) (he:∀(i:Nat) (e f:List PV),l[i]?=some e->m[i]?=some f->e.length=f.length) (h:∀(i j:Nat) (e f:List PV) (c d:PV),l[i]?=some e->m[i]?=some f->e[j]?=some c->f[j]?=some d->Cv c d):Cv (.sl z l) (.sl z m)
def CvL (cs ds:List PV):Prop:=cs.length=ds.length/\∀(i:Nat) (c d:PV),cs[i]?=some c->ds[i]?=some d->Cv c d
theorem CvL.nil:CvL [] []:=⟨rfl,fun i c d h=>by simp at h⟩
theorem CvL.cons {c d:PV} {cs ds:List PV} (h:Cv c d) (t:CvL cs ds):CvL (c::cs) (d::ds):=⟨by simp[t.1],fun i x y hx hy=>by
 cases i with
 |zero=>simp at hx hy;subst hx;subst hy;exact h
 |succ i=>exact t.2 i x y Em (by simpa using hy)⟩
theorem CvL.refl (l:List PV):CvL l l:=⟨rfl,fun i c d h1 h2=>by rw[h1]at h2;cases h2;exact .refl _⟩
theorem CvL.agg {cs ds:List PV} (h:CvL cs ds):Cv (.agg cs) (.agg ds):=.agg h.1 h.2
def CvM (l m:List (List PV)):Prop:=l.length=m.length/\∀(i:Nat) (e f:List PV),l[i]?=some e->m[i]?=some f->CvL e f
theorem CvM.nil:CvM [] []:=⟨rfl,fun i c d h=>by simp at h⟩
theorem CvM.cons {c d:List PV} {cs ds:List (List PV)} (h:CvL c d) (t:CvM cs ds):CvM (c::cs) (d::ds):=⟨by simp[t.1],fun i x y hx hy=>by
 cases i with
 |zero=>simp at hx hy;subst hx;subst hy;exact h
 |succ i=>exact t.2 i x y Em (by simpa using hy)⟩
theorem CvM.sl {z:Nat} {l m:List (List PV)} (h:CvM l m):Cv (.sl z l) (.sl z m):=.sl h.1 (fun i e f h1 h2=>(h.2 i e f h1 h2).1) fun i j e f c d h1 h2 h3 h4=>(h.2 i e f h1 h2).2 j c d h3 h4
theorem Cv.one {p q:PV} (h:Cv p q):oneP q=oneP p:=by
 cases h<;>rfl
theorem RelP.cv {ok:Nat->Prop} {w:World} {p q:PV} (hc:Cv p q):∀{u:Value},RelP ok w p u->RelP ok w q u:=by
 induction hc with
 |refl=>exact fun h=>h
 |nil z=>
  intro u h;cases h;exact .sl (l:=[]) (Yl _) ⟨Yl _,Yl _⟩ EN (fun h=>absurd h EN) (fun b o i j h=>by cases h) (fun b o i j e s u h=>by cases h)
 |agg hl h ih=>
  intro u hr;cases hr with
  |@agg _ us hl2 hr=>
   refine .agg EM fun i s u hs hu=>?_
   have hi:i<us.length:=(Yr.1 hu).1;exact ih i _ s (Yi EM) hs (hr i _ u (Yi EM) hu)
 |@sl z l m hl he h ih=>
  intro u hr;cases hr with
  |@sl _ _ A c hc hm hle hA hx hr=>
   rw[hl]at hc hm⊢;refine .sl hc hm (fun e hem=>?_) (fun h=>hA EM) (fun b o i j hAb hi hj=>hx b o i j hAb EM hj) (fun b o i j e s u hAb hi hj hu=>?_)
   · obtain⟨i,hi,rfl⟩:=List.mem_iff_getElem.1 hem;have hl0:l[i]?=some (l[i]'EM):=Yi EM
     have hm0:m[i]?=some m[i]:=Yi hi
     obtain⟨q1,q2⟩:=hle _ (Yp (show i<l.length by omega));have q3:=he i _ _ hl0 hm0;refine⟨by omega,fun s hs=>?_⟩;obtain⟨j,hj,rfl⟩:=List.mem_iff_getElem.1 hs;have:=(h i j _ _ _ _ hl0 hm0 (Yi EM) (Yi hj)).one;rw[this];exact q2 _ (Yp _)
   · have hi':i<m.length:=(Yr.1 hi).1;have hl0:l[i]?=some (l[i]'EM):=Yi EM
     have q3:=he i _ _ hl0 hi;have hj':j<e.length:=(Yr.1 hj).1;exact ih i j _ _ _ _ hl0 hi (Yi EM) hj (hr b o i j _ _ u hAb hl0 (Yi EM) hu)
theorem Holds.cv {P:Program} {f:FuncId} {args args':List PV} {r:SV} {own:List (Nat×Box)} (h:Holds P f args r own) (hc:CvL args' args):Holds P f args' r own:=
 ⟨h.1,fun w Sx vs hSx hl hr=>h.2 w Sx vs hSx (by rw[hl,hc.1]) fun i s u hs hu=>by
  have hi:i<args.length:=(Yr.1 hs).1;have h0:args'[i]?=some (args'[i]'(by rw[hc.1];exact hi)):=Yi _
  exact(hr i _ u h0 hu).cv (hc.2 i _ s h0 hs)⟩
theorem Holds.res {P:Program} {f:FuncId} {args:List PV} {r r':SV} {own:List (Nat×Box)} (h:Holds P f args r own) (e:r=r'):Holds P f args r' own:=e▸h
inductive CvS:SV->SV->Prop
 |refl (s:SV):CvS s s
 |p {a b:PV} (h:Cv a b):CvS (.p a) (.p b)
 |two {a b c d:PV} (h:Cv a b) (h2:Cv c d):CvS (.tup [.p a,.p c]) (.tup [.p b,.p d])
 |three {a b c d e f:PV} (h1:Cv a b) (h2:Cv c d) (h3:Cv e f):CvS (.tup [.p a,.p c,.p e]) (.tup [.p b,.p d,.p f])
 |four {a b c d e f g h:PV} (h1:Cv a b) (h2:Cv c d) (h3:Cv e f) (h4:Cv g h):CvS (.tup [.p a,.p c,.p e,.p g]) (.tup [.p b,.p d,.p f,.p h])
theorem RelS.cvs {ok:Nat->Prop} {H:Nat->Option Value} {w:World} {s s':SV} {u:Value} (hc:CvS s s') (h:RelS ok H w s u):RelS ok H w s' u:=by
 cases hc with
 |refl=>exact h
 |p hc=>exact .p (h.p_inv.cv hc)
 |two h1 h2=>
  cases h with
  |@tup _ us hl hr=>
   refine .tup hl fun i s u hs hu=>?_
   match i,hs with
   |0,hs=>cases hs;exact .p ((hr 0 _ u rfl hu).p_inv.cv h1)
   |1,hs=>cases hs;exact .p ((hr 1 _ u rfl hu).p_inv.cv h2)
 |three h1 h2 h3=>
  cases h with
  |@tup _ us hl hr=>
   refine .tup hl fun i s u hs hu=>?_
   match i,hs with
   |0,hs=>cases hs;exact .p ((hr 0 _ u rfl hu).p_inv.cv h1)
   |1,hs=>cases hs;exact .p ((hr 1 _ u rfl hu).p_inv.cv h2)
   |2,hs=>cases hs;exact .p ((hr 2 _ u rfl hu).p_inv.cv h3)
 |four h1 h2 h3 h4=>
  cases h with
  |@tup _ us hl hr=>
   refine .tup hl fun i s u hs hu=>?_
   match i,hs with
   |0,hs=>cases hs;exact .p ((hr 0 _ u rfl hu).p_inv.cv h1)
   |1,hs=>cases hs;exact .p ((hr 1 _ u rfl hu).p_inv.cv h2)
   |2,hs=>cases hs;exact .p ((hr 2 _ u rfl hu).p_inv.cv h3)
   |3,hs=>cases hs;exact .p ((hr 3 _ u rfl hu).p_inv.cv h4)
def FinC (T:TT) (rs:List ResultVar) (r:SV) (own':List (Nat×Box)) (e:SEx) (st:St):Prop:=(e=.normal\/e=.ret)/\∃st' s ρ r0,Wk st st'/\resC T st' rs=some s/\s.mapR ρ=some r0/\CvS r0 r/\ownR ρ st'.own ρ=some own'/\renOk ρ=true
theorem qx {P:Program} {T:TT} (hT:zi P T) {f:FuncId} {fn:Func} {c:Code} {args:List SV} {own:List (Nat×Box)} {r:SV} {own':List (Nat×Box)} {rs:List ResultVar} (hf:P.funcs[f]?=some fn) (hname:(fn.name== "runtime.NumGoroutine")=false) (hb:fn.body=some c)
 (hres:fn.results=rs.toArray) (hn0:(Nat.ble args.length fn.ntmps&&Nat.ble fn.ntmps 900)=true) (h:SW P c (FinC T rs r own') ⟨fn.ntmps,argFrS 0 args,own⟩):HoldsW P f args own r own':=by
 have hn:args.length<=fn.ntmps/\fn.ntmps<=900:=by
  rw[Yo]at hn0;exact⟨Y9 hn0.1,Y9 hn0.2⟩
 refine⟨⟨fn,hf,hname,by rw[hb];rfl⟩,fun w Sx γ vs hh hl hr=>?_⟩;refine calls_of_wp hf hb ?_;have hget:∀t,t<args.length->(vs.toArray++Array.replicate (fn.ntmps-vs.toArray.size) undef).getD t undef=vs[t]?.getD undef:=fun t ht=>by
  have:t<vs.length:=by omega
  have h2:(vs.toArray++Array.replicate (fn.ntmps-vs.toArray.size) undef)[t]?=vs[t]?:=by
   rw[Array.getElem?_append_left (by simpa using this)];simp
  rw[Array.getD_eq_getD_getElem?,h2]
 have hI:Sim (wU w γ own) Sx γ ⟨fn.ntmps,argFrS 0 args,own⟩ ⟨vs.toArray++Array.replicate (fn.ntmps-vs.toArray.size) undef,[]⟩ w:=by
  refine⟨⟨Below.refl _ w,fun _ _=>rfl⟩,⟨by simp;omega,hn.2⟩,rfl,fun t s ht=>?_,hh⟩;obtain⟨_,hx⟩:=argFrS_get ht;simp only[Nat.sub_zero]at hx;have hlt:t<args.length:=(Yr.1 hx).1;have hv:vs[t]?=some (vs[t]'EM):=Yi EM
  show RelS _ _ _ _ ((vs.toArray++Array.replicate (fn.ntmps-vs.toArray.size) undef).getD t undef);rw[hget t hlt,hv];exact hr t s _ hx hv
 refine h _ Sx _ _ w _ hI fun e st2 γ' a' w' hI' hq=>?_
 obtain⟨he,st',s,ρ,r0,hwk,hs,hm,hcv,ho,hρ⟩:=hq;obtain⟨γ'',hI''⟩:=hwk _ Sx γ' a' w' hI';obtain⟨γ3,k1,k2⟩:=heap_mapR hI''.heap ho hρ;obtain⟨v,k3,k4⟩:=resC_ok hT hI'' hs hres;have fin:a'.defers=[]/\∃v,(results fn a'.tmps).run P w'=.ok v w'/\∃v' γ2 r1 own1,(r1=r/\own1=own')/\Ending.returned v=.returned v'/\BelowB (wU w γ own) w'/\HeapOk (wU w γ own) Sx γ2 own1 w'/\RelS (okO Sx γ2 own1) (hp γ2 own1) w' r1 v':=
  ⟨hI''.defers,v,k3,v,γ3,r,own',⟨rfl,rfl⟩,rfl,hI''.below,k1,(k2 s v r0 k4 hm).cvs hcv⟩
 rcases he with rfl|rfl
 · exact fin
 · exact fin
theorem idxV_h (l:List Val) (v:Val) (hn:l.length<=1000000):Holds prog 321 [valsP l,.agg v.pv] (.p (pI (if l.findIdx (jX v)<l.length then(l.findIdx (jX v):Int)else-1))) []:=by
 refine qo (ts:=[4]) func321 EF rfl rfl rfl ?_;refine MY ?_;refine uZ [0,3,7,8] [(3,3)] ?_;refine qI (fun n s=>∃(k:Nat) (kk:Int),k<=l.length/\n=l.length-k/\kk=k/\(∀x∈l.take k,jX v x=false)/\s=⟨19,[(0,.p (valsP l)),(3,.ptr 3 0),(7,.p (pI (l.map Val.pv).length)),(8,.p (pI kk))],[(3,.cells (v.pv.map .p))]⟩) l.length ⟨0,0,Yl _,rfl,rfl,by simp,rfl⟩ ?_;rintro n s ⟨k,_,hk,rfl,rfl,ha,rfl⟩;refine uA ?_;refine uC (fun hlt=>?_) (fun hlt=>?_)
 · refine qh ?_;simp only[Yb,Yh]at hlt;have hlt':k<l.length:=by omega
   refine MQ ?_;refine uD [] [1,3,5,7,9,11] ?_;refine U0 ?_;rw[qH hlt'];refine uT ?_;refine qU qc rfl rfl rfl (rfl) rfl ?_;refine Kd ?_;refine uC (fun hp=>?_) (fun hp=>?_)
   · have hp':jX v l[k]=true:=by simpa [jX,jU,and_assoc]using hp
     refine MU ?_;have e:l.findIdx (jX v)=k:=(Xy hlt').2 ⟨hp',fun j hj=>ha _ (List.mem_take_iff_getElem.2 ⟨j,by omega,rfl⟩)⟩;rw[e,Yg hlt']
   · have hp':jX v l[k]=false:=by simpa [jX,jU,and_assoc]using hp
     refine MR ?_;refine⟨_,_,?_,qk [0,3,7,8] [(3,3)] rfl rfl,k+1,_,hlt',rfl,qu hlt' EM,?_,rfl⟩
     · omega
     · intro g hg;rw[Ym hlt',YH,Yz]at hg;rcases hg with hg|rfl
       · exact ha g hg
       · exact hp'
 · refine qF ?_;simp only[Yb,Yk]at hlt;have hkk:k=l.length:=by omega
   subst hkk;refine MU ?_;rw[Yu]at ha;rw[Yc];have:=Xh ha;omega
theorem contains_h (l:List Val) (v:Val) (hn:l.length<=1000000):Holds prog 312 [valsP l,.agg v.pv] (.p (pB (hasV l v))) []:=by
 refine qo (ts:=[4]) func312 EF rfl rfl rfl ?_;refine MI ?_;refine uK (idxV_h l v hn) ?_;refine MV ?_;refine VE ?_;unfold hasV;by_cases h:l.findIdx (jX v)<l.length
 · rw[Yg h];have:l.any (jX v)=true:=List.any_eq_true.2 ⟨_,Yp h,List.findIdx_getElem (w:=h)⟩
   rw[show(l.any fun x=>jX v x)=true from this];simp
 · rw[Yc h];have h2:∀x∈l,jX v x=false:=List.findIdx_eq_length.1 (Nat.le_antisymm List.findIdx_le_length EM);rw[show(l.any fun x=>jX v x)=false from List.any_eq_false.2 fun x hx=>by simp[h2 x hx]];rfl
theorem has_h (l:List Val) (v:Val) (hn:l.length<=1000000):Holds prog 299 [valsP l,.agg v.pv] (.p (pB (hasV l v))) []:=by
 refine qo (ts:=[4]) func299 EF rfl rfl rfl ?_;refine MI ?_;refine uK (contains_h l v hn) ?_;refine MV ?_;exact Gg
theorem is_h (x:Itm) (n:Int):Holds prog 219 [.agg x.pv,pI n] (.p (pB (x.is n))) []:=by
 refine qo (ts:=[4]) func219 EF rfl rfl rfl ?_;refine uA ?_;refine MP ?_;refine K1 ?_;refine Ku ?_;unfold Itm.is isT;rw[YN];simp only[jX,jU,Xp,Yo,beq_iff_eq,Yh,and_assoc,and_true]
theorem operands_h (op:Int):Holds prog 265 [pI op] (.p (pI (jc op))) []:=by
 unfold jc;refine qo (ts:=[2]) func265 EF rfl rfl rfl ?_;refine Kj ?_;refine uC (fun h1=>?_) (fun h1=>?_)
 · have e1:op=1:=by simpa using h1
   subst e1;refine qh ?_;refine uC (fun h2=>?_) (fun h2=>?_)
   · exact M1
   · cases h2
 · have n1:¬op=1:=by simpa using h1
   refine uA ?_;refine uC (fun h2=>?_) (fun h2=>?_)
   · have e1:op=2:=by simpa using h2
     subst e1;exact M1
   · have n2:¬op=2:=by simpa using h2
     refine uA ?_;refine uC (fun h3=>?_) (fun h3=>?_)
     · have e1:op=3:=by simpa using h3
       subst e1;refine qh ?_;refine uC (fun h4=>?_) (fun h4=>?_)
       · exact M1
       · cases h4
     · have n3:¬op=3:=by simpa using h3
       refine uA ?_;refine uC (fun h4=>?_) (fun h4=>?_)
       · have e1:op=4:=by simpa using h4
         subst e1;refine qh ?_;refine uC (fun h5=>?_) (fun h5=>?_)
         · exact M1
         · cases h5
       · have n4:¬op=4:=by simpa using h4
         refine uA ?_;refine uC (fun h5=>?_) (fun h5=>?_)
         · have e1:op=11:=by simpa using h5
           subst e1;exact M1
         · have n5:¬op=11:=by simpa using h5
           refine MS ?_;exact qW rfl (by rw[Yc EM,Yc EM];rfl)
theorem truth_h (b:Bool):Holds prog 298 [pB b] (.p (.agg (itmT b).pv)) []:=by
 refine .ofW ?_;refine qx (T:=TTab) qc func298 EF rfl rfl rfl ?_;refine KT ?_;cases b with
 |true=>
  refine uC (fun h=>?_) (fun h=>?_)
  · refine Kg ?_;exact R7
  · cases h
 |false=>
  refine uC (fun h=>?_) (fun h=>?_)
  · cases h
  · refine MS ?_;exact R7
def wn (S:List Itm):List (Nat×Box):=[(1000000,.row 310 5 (S.map Itm.pv))]
theorem zH {S:List Itm} {lo i:Nat} {x:Itm} (h:(S.drop lo)[i]?=some x):(S.map Itm.pv).getD (lo+i) []=x.pv:=by
 rw[YS]at h;rw[List.getD_eq_getElem?_getD,YL,h];rfl
theorem errS_at:∀{l:List Itm} {k:Nat} (hk:k<l.length),errS (l.take k)=0->l[k].e≠0->errS l=l[k].e
 |x::r,0,_,_,h=>by simp only[Xt]at h⊢;rw[errS,Yc h]
 |x::r,k+1,hk,h0,h=>by
  rw[Y2,errS]at h0;by_cases hx:x.e=0
  · rw[Yg hx]at h0;rw[errS,Yg hx];exact errS_at En h0 Ez
  · rw[Yc hx]at h0;exact absurd h0 hx
theorem qag:∀{l:List Itm} {k:Nat} (hk:k<l.length),errS (l.take k)=0->l[k].e=0->errS (l.take (k+1))=0
 |x::r,0,_,_,h=>by simp only[Xt]at h;rw[Xj,Y2,List.take_zero,errS,Yg h];rfl
 |x::r,k+1,hk,h0,h=>by
  rw[Y2,errS]at h0;by_cases hx:x.e=0
  · rw[Yg hx]at h0;rw[Y2,errS,Yg hx];exact qag En h0 Ez
  · rw[Yc hx]at h0;exact absurd h0 hx
theorem node_lit (val:Val) (attr:Atr) (S:List Itm) (lo:Nat) (g:List Giv):HoldsW prog 266 [.p (.agg (Nod.mk 1 val attr).pv),.view 1000000 5 lo S.length,.p (jv g)] (wn S) (.p (.agg (jH (Nod.mk 1 val attr) (S.drop lo) g).pv)) (wn S):=by
 have e:jH (Nod.mk 1 val attr) (S.drop lo) g=⟨[],val,0⟩:=rfl;rw[e];refine K2 ?_;refine uC (fun h1=>?_) (fun h1=>?_)
 · exact KP
 · cases h1
theorem node_attr (val:Val) (attr:Atr) (S:List Itm) (lo:Nat) (g:List Giv) (hn:g.length<=1000000) (hb:∀x∈g,x.bag.length<=1000000):HoldsW prog 266 [.p (.agg (Nod.mk 2 val attr).pv),.view 1000000 5 lo S.length,.p (jv g)] (wn S) (.p (.agg (jH (Nod.mk 2 val attr) (S.drop lo) g).pv)) (wn S):=by
 have e:jH (Nod.mk 2 val attr) (S.drop lo) g=⟨(getS attr g).1,noVal,(getS attr g).2⟩:=rfl;rw[e];refine K2 ?_;refine uC (fun h1=>?_) (fun h1=>?_)
 · cases h1
 · refine uA ?_;refine uC (fun h2=>?_) (fun h2=>?_)
   · refine uR ?_;refine uO (get_h attr g hn hb) ?_;refine qe ?_;exact Lh
   · cases h2
theorem drop_one {S:List Itm} {lo:Nat} (h:lo+1=S.length):∃x,S.drop lo=[x]:=List.length_eq_one_iff.1 (by rw[List.length_drop];omega)
theorem drop_two {S:List Itm} {lo:Nat} (h:lo+2=S.length):∃x y,S.drop lo=[x,y]:=by
 have:(S.drop lo).length=2:=by rw[Yn];omega
 match hd:S.drop lo,this with
 |[x,y],_=>exact⟨x,y,rfl⟩
theorem qad {op:Int} {val:Val} {attr:Atr} {l:List Itm} {g:List Giv} (h1:¬op=1) (h2:¬op=2) (hd:decS op l=false):jH (Nod.mk op val attr) l g=if errS l≠0 then⟨[],noVal,errS l⟩else lastS op l:=by
 unfold jH;simp only;rw[Yc h1,Yc h2,hd,Yc EN]
theorem node_one_h (val:Val) (attr:Atr) (S:List Itm) (lo:Nat) (g:List Giv) (hlo:lo+1=S.length) (hl:S.length<=1000000):HoldsW prog 266 [.p (.agg (Nod.mk 3 val attr).pv),.view 1000000 5 lo S.length,.p (jv g)] (wn S) (.p (.agg (jH (Nod.mk 3 val attr) (S.drop lo) g).pv)) (wn S):=by
 have hN:=qad (val:=val) (attr:=attr) (g:=g) (op:=3) (l:=S.drop lo) EM EM rfl;refine K2 ?_;refine uC (fun h1=>?_) (fun h1=>?_)
 · cases h1
 · refine uA ?_;refine uC (fun h2=>?_) (fun h2=>?_)
   · cases h2
   · refine uA ?_;refine uC (fun h3=>?_) (fun h3=>?_)
     · cases h3
     · refine uA ?_;refine uC (fun h4=>?_) (fun h4=>?_)
       · cases h4
       · refine qh ?_;refine Um ?_;refine MY ?_;refine Gu ?_;refine VR ?_;refine qI (fun m s=>∃(k:Nat) (kk:Int),k<=(S.drop lo).length/\m=(S.drop lo).length-k/\kk=k/\errS ((S.drop lo).take k)=0/\s=⟨122,[(1,.view 1000000 5 lo S.length),(3,.ptr 3 0),(6,.ptr 6 0),(10,.row 0),(55,.view 1000000 5 lo S.length),(56,.p (pI ((S.length-lo:Nat):Int))),(57,.p (pI kk))],[(1000000,.row 310 5 (S.map Itm.pv)),(3,.cells ((Nod.mk 3 val attr).pv.map .p)),(6,.cells (([.v (.slice none 0 0),pI 0,pI 0,pS ⟨#[]⟩,pI 0]:List PV).map .p)),(0,.row 44 3 ((((S.drop lo).take k).map Itm.v).map Val.pv))]⟩) (S.drop lo).length ⟨0,0,Yl _,rfl,rfl,rfl,rfl⟩ ?_;rintro m s ⟨k,_,hk,rfl,rfl,he0,rfl⟩;refine uA ?_;refine uC (fun hlt=>?_) (fun hlt=>?_)
         · refine qh ?_;have hlt':k<(S.drop lo).length:=by rw[Yn];simpa using hlt
           have hk2:k<S.length-lo:=by rwa [Yn]at hlt'
           have hget:(S.drop lo)[k]?=some (S.drop lo)[k]:=Yi hlt'
           refine MO ?_;refine Vr ?_;refine uS ?_;refine X5 ?_;refine MM ?_;refine uC (fun hne=>?_) (fun hne=>?_)
           · have hne':(S.drop lo)[k].e≠0:=by simpa using hne
             have e1:=errS_at hlt' he0 hne';exact Lg
           · have hne':(S.drop lo)[k].e=0:=by simpa using hne
             refine MN ?_;refine XZ ?_;refine MM ?_;refine⟨_,_,?_,qk [1,3,6,10,55,56,57] [(1000000,1000000),(3,3),(6,6),(71,0)] rfl rfl,k+1,_,hlt',rfl,qu hlt' Er,qag hlt' he0 hne',?_⟩
             · omega
             · rw[Ym hlt',Yq,Yq];rfl
         · refine qF ?_;have hkk:k=(S.drop lo).length:=by
            have:¬(k:Int)<((S.length-lo:Nat):Int):=by simpa using hlt
            rw[Yn]at hk⊢;omega
           subst hkk;rw[Yu]at he0⊢;rw[hN,Yc EI];clear hN
           refine uA ?_;obtain⟨x,hx⟩:=drop_one hlo;have h0:(S.drop lo)[0]?=some x:=by rw[hx];rfl
           rw[hx];refine MQ ?_;refine uC (fun h5=>?_) (fun h5=>?_)
           · refine uR ?_;refine Vr ?_;refine uS ?_;refine V8 ?_;refine MG ?_;refine uC (fun h6=>?_) (fun h6=>?_)
             · have h7:¬x.bag.length=1:=by
                intro h7;simp at h6;omega
               have e2:lastS 3 [x]=⟨[],noVal,4⟩:=by unfold lastS;rw[Yg rfl];exact Yc h7
               rw[e2];exact KP
             · have h7:x.bag.length=1:=by
                have:((x.bag.map Val.pv).length:Int)=1:=by simpa using h6
                rw[Yb]at this;omega
               obtain⟨v,hv⟩:=List.length_eq_one_iff.1 h7;have e2:lastS 3 [x]=⟨[],v,0⟩:=by
                unfold lastS;rw[Yg rfl];show(if x.bag.length=1 then _ else _)=_;rw[Yg h7];show Itm.mk [] (x.bag.getD 0 noVal) 0=_;rw[hv];rfl
               rw[e2];refine MN ?_;refine Vr ?_;refine uS ?_;refine V8 ?_;refine uS ?_;refine qm qc rfl rfl (by rw[Yb,h7];omega) rfl ?_;rw[show(x.bag.map Val.pv).getD (Int.toNat 0) []=v.pv by rw[hv];rfl];refine MK ?_;exact XP
           · cases h5
theorem node_size_h (val:Val) (attr:Atr) (S:List Itm) (lo:Nat) (g:List Giv) (hlo:lo+1=S.length) (hl:S.length<=1000000):HoldsW prog 266 [.p (.agg (Nod.mk 4 val attr).pv),.view 1000000 5 lo S.length,.p (jv g)] (wn S) (.p (.agg (jH (Nod.mk 4 val attr) (S.drop lo) g).pv)) (wn S):=by
 have hN:=qad (val:=val) (attr:=attr) (g:=g) (op:=4) (l:=S.drop lo) EM EM rfl;refine K2 ?_;refine uC (fun h1=>?_) (fun h1=>?_)
 · cases h1
 · refine uA ?_;refine uC (fun h2=>?_) (fun h2=>?_)
   · cases h2
   · refine uA ?_;refine uC (fun h3=>?_) (fun h3=>?_)
     · cases h3
     · refine uA ?_;refine uC (fun h4=>?_) (fun h4=>?_)
       · cases h4
       · refine qh ?_;refine Um ?_;refine MY ?_;refine Gu ?_;refine VR ?_;refine qI (fun m s=>∃(k:Nat) (kk:Int),k<=(S.drop lo).length/\m=(S.drop lo).length-k/\kk=k/\errS ((S.drop lo).take k)=0/\s=⟨122,[(1,.view 1000000 5 lo S.length),(3,.ptr 3 0),(6,.ptr 6 0),(10,.row 0),(55,.view 1000000 5 lo S.length),(56,.p (pI ((S.length-lo:Nat):Int))),(57,.p (pI kk))],[(1000000,.row 310 5 (S.map Itm.pv)),(3,.cells ((Nod.mk 4 val attr).pv.map .p)),(6,.cells (([.v (.slice none 0 0),pI 0,pI 0,pS ⟨#[]⟩,pI 0]:List PV).map .p)),(0,.row 44 3 ((((S.drop lo).take k).map Itm.v).map Val.pv))]⟩) (S.drop lo).length ⟨0,0,Yl _,rfl,rfl,rfl,rfl⟩ ?_;rintro m s ⟨k,_,hk,rfl,rfl,he0,rfl⟩;refine uA ?_;refine uC (fun hlt=>?_) (fun hlt=>?_)
         · refine qh ?_;have hlt':k<(S.drop lo).length:=by rw[Yn];simpa using hlt
           have hk2:k<S.length-lo:=by rwa [Yn]at hlt'
           have hget:(S.drop lo)[k]?=some (S.drop lo)[k]:=Yi hlt'
           refine MO ?_;refine Vr ?_;refine uS ?_;refine X5 ?_;refine MM ?_;refine uC (fun hne=>?_) (fun hne=>?_)
           · have hne':(S.drop lo)[k].e≠0:=by simpa using hne
             have e1:=errS_at hlt' he0 hne';exact Lg
           · have hne':(S.drop lo)[k].e=0:=by simpa using hne
             refine MN ?_;refine XZ ?_;refine MM ?_;refine⟨_,_,?_,qk [1,3,6,10,55,56,57] [(1000000,1000000),(3,3),(6,6),(71,0)] rfl rfl,k+1,_,hlt',rfl,qu hlt' Er,qag hlt' he0 hne',?_⟩
             · omega
             · rw[Ym hlt',Yq,Yq];rfl
         · refine qF ?_;have hkk:k=(S.drop lo).length:=by
            have:¬(k:Int)<((S.length-lo:Nat):Int):=by simpa using hlt
            rw[Yn]at hk⊢;omega
           subst hkk;rw[Yu]at he0⊢;rw[hN,Yc EI];clear hN
           refine uA ?_;obtain⟨x,hx⟩:=drop_one hlo;have h0:(S.drop lo)[0]?=some x:=by rw[hx];rfl
           rw[hx];refine MQ ?_;refine uC (fun h5=>?_) (fun h5=>?_)
           · cases h5
           · refine uA ?_;refine uC (fun h6=>?_) (fun h6=>?_)
             · have e2:lastS 4 [x]=⟨[],⟨2,x.bag.length,⟨#[]⟩⟩,0⟩:=rfl;rw[e2];refine uR ?_;refine Vr ?_;refine uS ?_;refine V8 ?_;refine uS ?_;rw[Yb];refine MV ?_;exact XP
             · cases h6
theorem node_has_h (val:Val) (attr:Atr) (S:List Itm) (lo:Nat) (g:List Giv) (hlo:lo+2=S.length) (hl:S.length<=1000000) (hS:∀x∈S,x.Fit):HoldsW prog 266 [.p (.agg (Nod.mk 5 val attr).pv),.view 1000000 5 lo S.length,.p (jv g)] (wn S) (.p (.agg (jH (Nod.mk 5 val attr) (S.drop lo) g).pv)) (wn S):=by
 have hN:=qad (val:=val) (attr:=attr) (g:=g) (op:=5) (l:=S.drop lo) EM EM rfl;refine K2 ?_;refine uC (fun h1=>?_) (fun h1=>?_)
 · cases h1
 · refine uA ?_;refine uC (fun h2=>?_) (fun h2=>?_)
   · cases h2
   · refine uA ?_;refine uC (fun h3=>?_) (fun h3=>?_)
     · cases h3
     · refine uA ?_;refine uC (fun h4=>?_) (fun h4=>?_)
       · cases h4
       · refine qh ?_;refine Um ?_;refine MY ?_;refine Gu ?_;refine VR ?_;refine qI (fun m s=>∃(k:Nat) (kk:Int),k<=(S.drop lo).length/\m=(S.drop lo).length-k/\kk=k/\errS ((S.drop lo).take k)=0/\s=⟨122,[(1,.view 1000000 5 lo S.length),(3,.ptr 3 0),(6,.ptr 6 0),(10,.row 0),(55,.view 1000000 5 lo S.length),(56,.p (pI ((S.length-lo:Nat):Int))),(57,.p (pI kk))],[(1000000,.row 310 5 (S.map Itm.pv)),(3,.cells ((Nod.mk 5 val attr).pv.map .p)),(6,.cells (([.v (.slice none 0 0),pI 0,pI 0,pS ⟨#[]⟩,pI 0]:List PV).map .p)),(0,.row 44 3 ((((S.drop lo).take k).map Itm.v).map Val.pv))]⟩) (S.drop lo).length ⟨0,0,Yl _,rfl,rfl,rfl,rfl⟩ ?_;rintro m s ⟨k,_,hk,rfl,rfl,he0,rfl⟩;refine uA ?_;refine uC (fun hlt=>?_) (fun hlt=>?_)
         · refine qh ?_;have hlt':k<(S.drop lo).length:=by rw[Yn];simpa using hlt
           have hk2:k<S.length-lo:=by rwa [Yn]at hlt'
           have hget:(S.drop lo)[k]?=some (S.drop lo)[k]:=Yi hlt'
           refine MO ?_;refine Vr ?_;refine uS ?_;refine X5 ?_;refine MM ?_;refine uC (fun hne=>?_) (fun hne=>?_)
           · have hne':(S.drop lo)[k].e≠0:=by simpa using hne
             have e1:=errS_at hlt' he0 hne';exact Lg
           · have hne':(S.drop lo)[k].e=0:=by simpa using hne
             refine MN ?_;refine XZ ?_;refine MM ?_;refine⟨_,_,?_,qk [1,3,6,10,55,56,57] [(1000000,1000000),(3,3),(6,6),(71,0)] rfl rfl,k+1,_,hlt',rfl,qu hlt' Er,qag hlt' he0 hne',?_⟩
             · omega
             · rw[Ym hlt',Yq,Yq];rfl
         · refine qF ?_;have hkk:k=(S.drop lo).length:=by
            have:¬(k:Int)<((S.length-lo:Nat):Int):=by simpa using hlt
            rw[Yn]at hk⊢;omega
           subst hkk;rw[Yu]at he0⊢;rw[hN,Yc EI];clear hN
           refine uA ?_;obtain⟨x,y,hx⟩:=drop_two hlo;have h0:(S.drop lo)[0]?=some x:=by rw[hx];rfl
           have h1':(S.drop lo)[1]?=some y:=by rw[hx];rfl
           have hxl:x.bag.length<=1000000:=(hS x (YV (i:=lo) (by rw[hx];simp))).len;rw[hx];refine MQ ?_;refine uC (fun h5=>?_) (fun h5=>?_)
           · cases h5
           · refine uA ?_;refine uC (fun h6=>?_) (fun h6=>?_)
             · cases h6
             · refine uA ?_;refine uC (fun h7=>?_) (fun h7=>?_)
               · have e2:lastS 5 [x,y]=itmT (hasV x.bag y.v):=rfl;rw[e2];refine uD [6] [1,3,5,7,9,11,13,15,16,18,20] ?_;refine qU qc rfl rfl rfl EM rfl ?_;refine uT ?_;refine qU qc rfl rfl (zr rfl rfl rfl rfl rfl (show(S.map Itm.pv).getD (lo+Int.toNat 0) []=x.pv from zH h0) rfl) Es rfl ?_;refine uT ?_;refine qU qc rfl rfl rfl EM rfl ?_;refine uT ?_;refine qU qc rfl rfl (zr rfl rfl rfl rfl rfl (show(S.map Itm.pv).getD (lo+Int.toNat 1) []=y.pv from zH h1') rfl) (by rw[Yb];show lo+1<_;omega) rfl ?_;refine uT ?_;refine uk (has_h x.bag y.v hxl) ?_;refine uo (truth_h (hasV x.bag y.v)) ?_;refine zg ?_;refine uQ ?_;exact XH
               · cases h7
theorem wv (op:Int) (hop:6<=op/\op<=11) (val:Val) (attr:Atr) (S:List Itm) (lo:Nat) (g:List Giv) (hl:S.length<=1000000) (hlo:lo<=S.length) (hS:∀x∈S,x.Fit):HoldsW prog 266 [.p (.agg (Nod.mk op val attr).pv),.view 1000000 5 lo S.length,.p (jv g)] (wn S) (.p (.agg (jH (Nod.mk op val attr) (S.drop lo) g).pv)) (wn S):=by
 have no:∀{k:Int},(op==k)=true->k<6\/11<k->False:=fun{k} h h2=>by
  have e:op=k:=by simpa using h
  omega
 have hN:=qad (val:=val) (attr:=attr) (g:=g) (op:=op) (l:=S.drop lo) EM EM (by
  unfold decS;rw[show decide (op=12)=false from YE EM,show decide (op=13)=false from YE EM];rfl)
 refine K2 ?_;refine uC (fun h1=>?_) (fun h1=>?_)
 · exact(no h1 EM).elim
 · refine uA ?_;refine uC (fun h2=>?_) (fun h2=>?_)
   · exact(no h2 EM).elim
   · refine uA ?_;refine uC (fun h3=>?_) (fun h3=>?_)
     · exact(no h3 EM).elim
     · refine uA ?_;refine uC (fun h4=>?_) (fun h4=>?_)
       · exact(no h4 EM).elim
       · refine qh ?_;refine Um ?_;refine MY ?_;refine Gu ?_;refine VR ?_;refine qI (fun m s=>∃(k:Nat) (kk:Int),k<=(S.drop lo).length/\m=(S.drop lo).length-k/\kk=k/\errS ((S.drop lo).take k)=0/\s=⟨122,[(1,.view 1000000 5 lo S.length),(3,.ptr 3 0),(6,.ptr 6 0),(10,.row 0),(55,.view 1000000 5 lo S.length),(56,.p (pI ((S.length-lo:Nat):Int))),(57,.p (pI kk))],[(1000000,.row 310 5 (S.map Itm.pv)),(3,.cells ((Nod.mk op val attr).pv.map .p)),(6,.cells (([.v (.slice none 0 0),pI 0,pI 0,pS ⟨#[]⟩,pI 0]:List PV).map .p)),(0,.row 44 3 ((((S.drop lo).take k).map Itm.v).map Val.pv))]⟩) (S.drop lo).length ⟨0,0,Yl _,rfl,rfl,rfl,rfl⟩ ?_;rintro m s ⟨k,_,hk,rfl,rfl,he0,rfl⟩;refine uA ?_;refine uC (fun hlt=>?_) (fun hlt=>?_)
         · refine qh ?_;have hlt':k<(S.drop lo).length:=by rw[Yn];simpa using hlt
           have hk2:k<S.length-lo:=by rwa [Yn]at hlt'
           have hget:(S.drop lo)[k]?=some (S.drop lo)[k]:=Yi hlt'
           refine MO ?_;refine Vr ?_;refine uS ?_;refine X5 ?_;refine MM ?_;refine uC (fun hne=>?_) (fun hne=>?_)
           · have hne':(S.drop lo)[k].e≠0:=by simpa using hne
             have e1:=errS_at hlt' he0 hne';exact Lg
           · have hne':(S.drop lo)[k].e=0:=by simpa using hne
             refine MN ?_;refine XZ ?_;refine MM ?_;refine⟨_,_,?_,qk [1,3,6,10,55,56,57] [(1000000,1000000),(3,3),(6,6),(71,0)] rfl rfl,k+1,_,hlt',rfl,qu hlt' Er,qag hlt' he0 hne',?_⟩
             · omega
             · rw[Ym hlt',Yq,Yq];rfl
         · refine qF ?_;have hkk:k=(S.drop lo).length:=by
            have:¬(k:Int)<((S.length-lo:Nat):Int):=by simpa using hlt
            rw[Yn]at hk⊢;omega
           subst hkk;rw[Yu]at he0⊢;rw[hN,Yc EI];clear hN
           refine uA ?_;refine MQ ?_;refine uC (fun h5=>?_) (fun h5=>?_)
           · exact(no h5 EM).elim
           · refine uA ?_;refine uC (fun h6=>?_) (fun h6=>?_)
             · exact(no h6 EM).elim
             · refine uA ?_;refine uC (fun h7=>?_) (fun h7=>?_)
               · exact(no h7 EM).elim
               · refine qh ?_;have e2:lastS op (S.drop lo)=⟨[],(ja op ((S.drop lo).map Itm.v)).1,(ja op ((S.drop lo).map Itm.v)).2⟩:=by
                  unfold lastS;rw[Yc EM,Yc EM,Yc EM]
                 rw[e2];refine uR ?_;refine uK (call_h op ((S.drop lo).map Itm.v) (fun v hv=>by obtain⟨x,hx,rfl⟩:=YY.1 hv;exact(hS x (YV hx)).v)) ?_;refine qe ?_;generalize ja op ((S.drop lo).map Itm.v)=r;exact KP
theorem node_12_h (val:Val) (attr:Atr) (S:List Itm) (lo:Nat) (g:List Giv) (hl:S.length<=1000000) (hlo:lo+2=S.length) (hS:∀x∈S,x.Fit):HoldsW prog 266 [.p (.agg (Nod.mk 12 val attr).pv),.view 1000000 5 lo S.length,.p (jv g)] (wn S) (.p (.agg (jH (Nod.mk 12 val attr) (S.drop lo) g).pv)) (wn S):=by
 obtain⟨x,y,hx⟩:=drop_two hlo;have h0:(S.drop lo)[0]?=some x:=by rw[hx];rfl
 have h1':(S.drop lo)[1]?=some y:=by rw[hx];rfl
 have hd0:decS 12 (S.drop lo)=(x.is 0||y.is 0):=by rw[hx];rfl
 cases hdec:(x.is 0||y.is 0)with
 |true=>
  have e:jH (Nod.mk 12 val attr) (S.drop lo) g=itmT false:=by
   unfold jH;simp only;rw[Yc EM,Yc EM,hd0,hdec,Yg rfl];rfl
  rw[e];refine K2 ?_;refine uC (fun h1=>?_) (fun h1=>?_)
  · cases h1
  · refine uA ?_;refine uC (fun h2=>?_) (fun h2=>?_)
    · cases h2
    · refine uA ?_;refine uC (fun h3=>?_) (fun h3=>?_);rotate_left
      · cases h3
      refine qh ?_;refine uC (fun h4=>?_) (fun h4=>?_);rotate_left
      · cases h4
      refine uA ?_;refine MP ?_;refine U8 ?_;refine VO ?_;refine XB ?_;refine Mq ?_;refine XB ?_;refine U8 ?_;refine Vy ?_;refine XB ?_;refine Mr ?_;refine Ka ?_;refine uC (fun h9=>?_) (fun h9=>?_)
      · refine uR ?_;refine uO (truth_h false) ?_;refine MV ?_;exact XH
      · have h9':(x.is 0||y.is 0)=false:=by
         rw[<-h9];show _=(bif x.is 0 then true else y.is 0);cases x.is 0<;>rfl
        rw[hdec]at h9';cases h9'
 |false=>
  have hN:=qad (val:=val) (attr:=attr) (g:=g) (op:=12) (l:=S.drop lo) EM EM (hd0.trans hdec);refine K2 ?_;refine uC (fun h1=>?_) (fun h1=>?_)
  · cases h1
  · refine uA ?_;refine uC (fun h2=>?_) (fun h2=>?_)
    · cases h2
    · refine uA ?_;refine uC (fun h3=>?_) (fun h3=>?_);rotate_left
      · cases h3
      refine qh ?_;refine uC (fun h4=>?_) (fun h4=>?_);rotate_left
      · cases h4
      refine uA ?_;refine MP ?_;refine U8 ?_;refine VO ?_;refine XB ?_;refine Mq ?_;refine XB ?_;refine U8 ?_;refine Vy ?_;refine XB ?_;refine Mr ?_;refine Ka ?_;refine uC (fun h9=>?_) (fun h9=>?_)
      · have h9':(x.is 0||y.is 0)=true:=by
         rw[<-h9];show _=(bif x.is 0 then true else y.is 0);cases x.is 0<;>rfl
        rw[hdec]at h9';cases h9'
      · refine qh ?_;clear h0 h1' hx
        refine Um ?_;refine MY ?_;refine Gu ?_;refine VR ?_;refine qI (fun m s=>∃(k:Nat) (kk:Int),k<=(S.drop lo).length/\m=(S.drop lo).length-k/\kk=k/\errS ((S.drop lo).take k)=0/\s=⟨122,[(1,.view 1000000 5 lo S.length),(3,.ptr 3 0),(6,.ptr 6 0),(10,.row 0),(55,.view 1000000 5 lo S.length),(56,.p (pI ((S.length-lo:Nat):Int))),(57,.p (pI kk))],[(1000000,.row 310 5 (S.map Itm.pv)),(3,.cells ((Nod.mk 12 val attr).pv.map .p)),(6,.cells (([.v (.slice none 0 0),pI 0,pI 0,pS ⟨#[]⟩,pI 0]:List PV).map .p)),(0,.row 44 3 ((((S.drop lo).take k).map Itm.v).map Val.pv))]⟩) (S.drop lo).length ⟨0,0,Yl _,rfl,rfl,rfl,rfl⟩ ?_;rintro m s ⟨k,_,hk,rfl,rfl,he0,rfl⟩;refine uA ?_;refine uC (fun hlt=>?_) (fun hlt=>?_)
        · refine qh ?_;have hlt':k<(S.drop lo).length:=by rw[Yn];simpa using hlt
          have hk2:k<S.length-lo:=by rwa [Yn]at hlt'
          have hget:(S.drop lo)[k]?=some (S.drop lo)[k]:=Yi hlt'
          refine MO ?_;refine Vr ?_;refine uS ?_;refine X5 ?_;refine MM ?_;refine uC (fun hne=>?_) (fun hne=>?_)
          · have hne':(S.drop lo)[k].e≠0:=by simpa using hne
            have e1:=errS_at hlt' he0 hne';exact Lg
          · have hne':(S.drop lo)[k].e=0:=by simpa using hne
            refine MN ?_;refine XZ ?_;refine MM ?_;refine⟨_,_,?_,qk [1,3,6,10,55,56,57] [(1000000,1000000),(3,3),(6,6),(71,0)] rfl rfl,k+1,_,hlt',rfl,qu hlt' Er,qag hlt' he0 hne',?_⟩
            · omega
            · rw[Ym hlt',Yq,Yq];rfl
        · refine qF ?_;have hkk:k=(S.drop lo).length:=by
           have:¬(k:Int)<((S.length-lo:Nat):Int):=by simpa using hlt
           rw[Yn]at hk⊢;omega
          subst hkk;rw[Yu]at he0⊢;rw[hN,Yc EI];clear hN
          refine uA ?_;refine MQ ?_;refine uC (fun h5=>?_) (fun h5=>?_)
          · cases h5
          · refine uA ?_;refine uC (fun h6=>?_) (fun h6=>?_)
            · cases h6
            · refine uA ?_;refine uC (fun h7=>?_) (fun h7=>?_)
              · cases h7
              · refine qh ?_;have e2:lastS 12 (S.drop lo)=⟨[],(ja 12 ((S.drop lo).map Itm.v)).1,(ja 12 ((S.drop lo).map Itm.v)).2⟩:=rfl;rw[e2];refine uR ?_;refine uK (call_h 12 ((S.drop lo).map Itm.v) (fun v hv=>by obtain⟨x,hx,rfl⟩:=YY.1 hv;exact(hS x (YV hx)).v)) ?_;refine qe ?_;generalize ja 12 ((S.drop lo).map Itm.v)=r;exact KP
theorem node_13_h (val:Val) (attr:Atr) (S:List Itm) (lo:Nat) (g:List Giv) (hl:S.length<=1000000) (hlo:lo+2=S.length) (hS:∀x∈S,x.Fit):HoldsW prog 266 [.p (.agg (Nod.mk 13 val attr).pv),.view 1000000 5 lo S.length,.p (jv g)] (wn S) (.p (.agg (jH (Nod.mk 13 val attr) (S.drop lo) g).pv)) (wn S):=by
 obtain⟨x,y,hx⟩:=drop_two hlo;have h0:(S.drop lo)[0]?=some x:=by rw[hx];rfl
 have h1':(S.drop lo)[1]?=some y:=by rw[hx];rfl
 have hd0:decS 13 (S.drop lo)=(x.is 1||y.is 1):=by rw[hx];rfl
 cases hdec:(x.is 1||y.is 1)with
 |true=>
  have e:jH (Nod.mk 13 val attr) (S.drop lo) g=itmT true:=by
   unfold jH;simp only;rw[Yc EM,Yc EM,hd0,hdec,Yg rfl];rfl
  rw[e];refine K2 ?_;refine uC (fun h1=>?_) (fun h1=>?_)
  · cases h1
  · refine uA ?_;refine uC (fun h2=>?_) (fun h2=>?_)
    · cases h2
    · refine uA ?_;refine uC (fun h3=>?_) (fun h3=>?_)
      · cases h3
      refine uA ?_;refine uC (fun h4=>?_) (fun h4=>?_);rotate_left
      · cases h4
      refine uA ?_;refine MP ?_;refine U8 ?_;refine VO ?_;refine XB ?_;refine Mq ?_;refine XB ?_;refine U8 ?_;refine Vy ?_;refine XB ?_;refine Mr ?_;refine Ka ?_;refine uC (fun h9=>?_) (fun h9=>?_)
      · refine uR ?_;refine uO (truth_h true) ?_;refine MV ?_;exact XH
      · have h9':(x.is 1||y.is 1)=false:=by
         rw[<-h9];show _=(bif x.is 1 then true else y.is 1);cases x.is 1<;>rfl
        rw[hdec]at h9';cases h9'
 |false=>
  have hN:=qad (val:=val) (attr:=attr) (g:=g) (op:=13) (l:=S.drop lo) EM EM (hd0.trans hdec);refine K2 ?_;refine uC (fun h1=>?_) (fun h1=>?_)
  · cases h1
  · refine uA ?_;refine uC (fun h2=>?_) (fun h2=>?_)
    · cases h2
    · refine uA ?_;refine uC (fun h3=>?_) (fun h3=>?_)
      · cases h3
      refine uA ?_;refine uC (fun h4=>?_) (fun h4=>?_);rotate_left
      · cases h4
      refine uA ?_;refine MP ?_;refine U8 ?_;refine VO ?_;refine XB ?_;refine Mq ?_;refine XB ?_;refine U8 ?_;refine Vy ?_;refine XB ?_;refine Mr ?_;refine Ka ?_;refine uC (fun h9=>?_) (fun h9=>?_)
      · have h9':(x.is 1||y.is 1)=true:=by
         rw[<-h9];show _=(bif x.is 1 then true else y.is 1);cases x.is 1<;>rfl
        rw[hdec]at h9';cases h9'
      · refine qh ?_;clear h0 h1' hx
        refine Um ?_;refine MY ?_;refine Gu ?_;refine VR ?_;refine qI (fun m s=>∃(k:Nat) (kk:Int),k<=(S.drop lo).length/\m=(S.drop lo).length-k/\kk=k/\errS ((S.drop lo).take k)=0/\s=⟨122,[(1,.view 1000000 5 lo S.length),(3,.ptr 3 0),(6,.ptr 6 0),(10,.row 0),(55,.view 1000000 5 lo S.length),(56,.p (pI ((S.length-lo:Nat):Int))),(57,.p (pI kk))],[(1000000,.row 310 5 (S.map Itm.pv)),(3,.cells ((Nod.mk 13 val attr).pv.map .p)),(6,.cells (([.v (.slice none 0 0),pI 0,pI 0,pS ⟨#[]⟩,pI 0]:List PV).map .p)),(0,.row 44 3 ((((S.drop lo).take k).map Itm.v).map Val.pv))]⟩) (S.drop lo).length ⟨0,0,Yl _,rfl,rfl,rfl,rfl⟩ ?_;rintro m s ⟨k,_,hk,rfl,rfl,he0,rfl⟩;refine uA ?_;refine uC (fun hlt=>?_) (fun hlt=>?_)
        · refine qh ?_;have hlt':k<(S.drop lo).length:=by rw[Yn];simpa using hlt
          have hk2:k<S.length-lo:=by rwa [Yn]at hlt'
          have hget:(S.drop lo)[k]?=some (S.drop lo)[k]:=Yi hlt'
          refine MO ?_;refine Vr ?_;refine uS ?_;refine X5 ?_;refine MM ?_;refine uC (fun hne=>?_) (fun hne=>?_)
          · have hne':(S.drop lo)[k].e≠0:=by simpa using hne
            have e1:=errS_at hlt' he0 hne';exact Lg
          · have hne':(S.drop lo)[k].e=0:=by simpa using hne
            refine MN ?_;refine XZ ?_;refine MM ?_;refine⟨_,_,?_,qk [1,3,6,10,55,56,57] [(1000000,1000000),(3,3),(6,6),(71,0)] rfl rfl,k+1,_,hlt',rfl,qu hlt' Er,qag hlt' he0 hne',?_⟩
            · omega
            · rw[Ym hlt',Yq,Yq];rfl
        · refine qF ?_;have hkk:k=(S.drop lo).length:=by
           have:¬(k:Int)<((S.length-lo:Nat):Int):=by simpa using hlt
           rw[Yn]at hk⊢;omega
          subst hkk;rw[Yu]at he0⊢;rw[hN,Yc EI];clear hN
          refine uA ?_;refine MQ ?_;refine uC (fun h5=>?_) (fun h5=>?_)
          · cases h5
          · refine uA ?_;refine uC (fun h6=>?_) (fun h6=>?_)
            · cases h6
            · refine uA ?_;refine uC (fun h7=>?_) (fun h7=>?_)
              · cases h7
              · refine qh ?_;have e2:lastS 13 (S.drop lo)=⟨[],(ja 13 ((S.drop lo).map Itm.v)).1,(ja 13 ((S.drop lo).map Itm.v)).2⟩:=rfl;rw[e2];refine uR ?_;refine uK (call_h 13 ((S.drop lo).map Itm.v) (fun v hv=>by obtain⟨x,hx,rfl⟩:=YY.1 hv;exact(hS x (YV hx)).v)) ?_;refine qe ?_;generalize ja 13 ((S.drop lo).map Itm.v)=r;exact KP
def stepR:Option (List Bool)->SV
 |some _=>.tup [.row 0,.p (pB true)]
 |none=>.tup [.p (.v (.slice none 0 0)),.p (pB false)]
def stepO:Option (List Bool)->List (Nat×Box)
 |some l=>[(0,.row 4 1 (wq l))]
 |none=>[]
theorem step_h (l:List Bool) (hl:l.length<=1000000) (n:Nod) (hn:n.Fit):HoldsW prog 262 [.row 1000000,.p (.agg n.pv)] [(1000000,.row 4 1 (wq l))] (stepR (qaa l n)) (stepO (qaa l n)):=by
 have H1:=wants_h n.op;cases hw:jO n.op with
 |none=>
  rw[hw]at H1;simp only[Option.getD_none,Option.isSome_none]at H1;have e:qaa l n=none:=by simp[qaa,hw]
  rw[e];refine qC (ts:=[4,5]) func262 EF rfl rfl rfl ?_;refine MI ?_;refine uO H1 ?_;refine qe ?_;refine MP ?_;refine zl rfl rfl rfl rfl (fields_h n hn) rfl rfl ?_;refine Ka ?_;refine uC (fun h=>?_) (fun h=>?_)
  · exact MZ
  · simp at h
 |some w=>
  rw[hw]at H1;simp only[Option.getD_some,Option.isSome_some]at H1;have hwl:w.length<=2:=by
   unfold jO at hw
   repeat' split at hw
   all_goals(cases hw;try simp)
  refine qC (ts:=[4,5]) func262 EF rfl rfl rfl ?_;refine MI ?_;refine uO H1 ?_;refine qe ?_;refine MP ?_;refine zl rfl rfl rfl rfl (fields_h n hn) rfl rfl ?_;refine Ka ?_;have ll:(wq l).length=l.length:=by simp[wq]
  have lw:(wq w).length=w.length:=by simp[wq]
  refine uC (fun h=>?_) (fun h=>?_)
  · have e:qaa l n=none:=by
     simp only[qaa,hw];rw[Yc];intro⟨h1,h2,_⟩;simp[h1,ll,lw]at h;omega
    rw[e];exact MZ
  · have hf:fieldsS n=true:=by
     cases hq:fieldsS n with
     |true=>rfl
     |false=>simp[hq]at h
    have hle:w.length<=l.length:=by
     simp[hf,ll,lw]at h;omega
    obtain⟨left,hleft⟩:∃left:Nat,left=l.length-w.length:=⟨_,rfl⟩;refine qh ?_;refine MY ?_;refine uZ [0,3,8,36,37,38] [(1000000,1000000),(3,3)] ?_;refine qI (fun m s=>∃(k:Nat) (kk L:Int),k<=w.length/\m=w.length-k/\kk=k/\L=left/\(l.drop left).take k=w.take k/\s=⟨60,[(0,.row 1000000),(3,.ptr 3 0),(8,.p (pI L)),(36,.p (.sl 1 (wq w))),(37,.p (pI (wq w).length)),(38,.p (pI kk))],[(1000000,.row 4 1 (wq l)),(3,.cells (n.pv.map .p))]⟩) w.length ⟨0,0,_,Yl _,rfl,rfl,?_,by simp,rfl⟩ ?_
    · show IntKind.i64.wrap (((wq l).length:Int)-(wq w).length)=_;rw[ll,lw,YB _ EM];omega
    rintro m s ⟨k,_,_,hk,rfl,rfl,rfl,ha,rfl⟩;refine uA ?_;refine uC (fun hlt=>?_) (fun hlt=>?_)
    · refine qh ?_;rw[lw]at hlt;simp only[Yh]at hlt;have hlt':k<w.length:=by omega
      have hk2:left+k<l.length:=by omega
      refine MO ?_;refine qm qc rfl rfl (by rw[lw];omega) rfl ?_;rw[show(wq w).getD (Int.toNat (k:Int)) []=[pB w[k]]from qH hlt'];refine ML ?_;have ew:IntKind.i64.wrap ((left:Int)+k)=((left+k:Nat):Int):=by rw[YB _ EM];omega
      rw[ew];refine U6 ?_;refine uS ?_;refine qm qc rfl (zr rfl rfl rfl rfl rfl (show(wq l).getD (Int.toNat ((left+k:Nat):Int)) []=[pB l[left+k]]from qH hk2) rfl) (by rw[ll];simp;omega) rfl ?_;refine MG ?_;refine uC (fun hp=>?_) (fun hp=>?_)
      · have e:qaa l n=none:=by
         simp only[qaa,hw];rw[Yc];intro⟨_,_,h3⟩;rw[<-hleft]at h3;have h4:w[k]=l[left+k]:=by
          have:=congrArg (fun x=>x[k]?) h3
          simp only[YS]at this;rw[Yi hk2,Yi hlt']at this;exact(Y6 this).symm
         rw[h4]at hp;simp at hp
        rw[e];exact MZ
      · refine MR ?_;refine⟨_,_,?_,qk [0,3,8,36,37,38] [(1000000,1000000),(3,3)] rfl rfl,k+1,_,_,hlt',rfl,qu hlt' EM,rfl,?_,rfl⟩
        · omega
        · have h4:l[left+k]=w[k]:=by simpa using hp
          rw[Ym hlt',Ym ED,ha,List.getElem_drop,h4]
    · refine qF ?_;rw[lw]at hlt;simp only[Yk]at hlt;have hkk:k=w.length:=by omega
      subst hkk;have hd:l.drop left=w:=by
       rw[Yu]at ha;rw[<-ha,YM ED]
      have e:qaa l n=some (l.take left++[decide (n.op=2)]):=by
       simp only[qaa,hw];rw[Yg ⟨hf,hle,by rw[<-hleft];exact hd⟩,hleft]
      rw[e];refine uD [1000000] [1,3,5,7,9,11,12,14,17,19] ?_;refine qU qc rfl rfl rfl Et rfl ?_;refine uT ?_;refine swm_act rfl rfl rfl (ActOk.shrink 54 999 rfl rfl rfl rfl (qn qc rfl rfl rfl rfl rfl rfl rfl rfl rfl rfl rfl rfl rfl rfl rfl rfl (by simp[reachBytes,wq];omega) (by simp[wq];omega) ?_));refine Kd ?_;refine uQ ?_;have e2:List.take (Int.toNat (left:Int)) (wq l)++[[pB (n.op==2)]]=wq (l.take left++[decide (n.op=2)]):=by
       have:(n.op==2)=decide (n.op=2):=by rw[YN];simp
       rw[this];simp[wq,List.map_take]
      refine⟨Or.inr rfl,_,_,[(59,0)],Wk.refl _,rfl,rfl,?_,rfl⟩;show some [(0,Box.row 4 1 (List.take (Int.toNat (left:Int)) (wq l)++[[pB (n.op==2)]]))]=_;rw[e2];rfl
theorem stepsS_some:∀{l:List Nod} {a m:List Bool} {k:Nat} (hk:k<l.length),jG a (l.take k)=some m->jG a (l.take (k+1))=qaa m l[k]
 |n::r,a,m,0,_,h=>by
  simp[jG]at h;subst h;simp only[Xj,Y2,List.take_zero,jG,Xt];cases qaa a n<;>rfl
 |n::r,a,m,k+1,hk,h=>by
  rw[Y2,jG]at h⊢;cases hs:qaa a n with
  |none=>rw[hs]at h;cases h
  |some b=>
   rw[hs]at h;simp only at h⊢;rw[stepsS_some En h];rfl
theorem stepsS_none:∀{l:List Nod} {a:List Bool} (k:Nat),jG a (l.take k)=none->jG a l=none
 |[],a,k,h=>by simp[jG]at h
 |n::r,a,0,h=>by simp[jG]at h
 |n::r,a,k+1,h=>by
  rw[Y2,jG]at h;rw[jG];cases hs:qaa a n with
  |none=>rfl
  |some b=>rw[hs]at h;simp only at h⊢;exact stepsS_none k h
theorem stepS_len {l l':List Bool} {n:Nod} (h:qaa l n=some l'):l'.length<=l.length+1:=by
 unfold qaa at h;split at h
 · cases h
 · split at h
   · cases h;simp
   · cases h
theorem expr_h (l:List Nod) (hf:∀x∈l,x.Fit):Holds prog 216 [nodsP l] (.p (pI (exprS l))) []:=by
 refine qo (ts:=[2]) func216 EF rfl rfl rfl ?_;refine sw_len (t:=0) (z:=7) (l:=l.map Nod.pv) rfl fun hlen=>?_
 rw[Yb]at hlen;unfold reachBytes at hlen;have lm:(l.map Nod.pv).length=l.length:=by simp
 refine MJ ?_;rw[lm];refine uC (fun h=>?_) (fun h=>?_)
 · refine MU ?_;have h0:32<l.length:=by simp at h;omega
   simp[exprS,h0]
 · have h0:¬32<l.length:=by simp at h;omega
   refine qh ?_;refine KB ?_;refine SW.wk (zt 3 900 4 1 rfl rfl) ?_;refine uZ [0,3,10,11,12] [(900,0)] ?_;refine qI (fun m s=>∃(k:Nat) (kk:Int) (made:List Bool),k<=l.length/\m=l.length-k/\kk=k/\jG [] (l.take k)=some made/\made.length<=k/\s=⟨38,[(0,.p (nodsP l)),(3,.row 0),(10,.p (nodsP l)),(11,.p (pI l.length)),(12,.p (pI kk))],[(0,.row 4 1 (wq made))]⟩) l.length ⟨0,0,[],Yl _,rfl,rfl,by simp[jG],Yj _,by rw[<-lm];rfl⟩ ?_;rintro m s ⟨k,_,made,hk,rfl,rfl,ha,hml,rfl⟩;refine uA ?_;refine uC (fun hlt=>?_) (fun hlt=>?_)
   · refine qh ?_;simp only[Yh]at hlt;have hlt':k<l.length:=by omega
     have hst:=stepsS_some hlt' ha;refine MO ?_;refine U5 ?_;rw[qH hlt'];refine MG ?_;have H:=step_h made EM l[k] (hf _ (Yp hlt'));cases hs:qaa made l[k]with
     |none=>
      rw[hs]at H;refine uR ?_;refine uW [(0,1000000)] H ?_;refine MX ?_;refine uC (fun h=>?_) (fun h=>?_)
      · refine MU ?_;rw[exprS,Yc h0,stepsS_none (k+1) (by rw[hst,hs])]
      · cases h
     |some l'=>
      rw[hs]at H;refine uR ?_;refine uW [(0,1000000)] H ?_;refine MX ?_;refine uC (fun h=>?_) (fun h=>?_)
      · cases h
      · refine MR ?_;refine⟨_,_,?_,qk [0,3,10,11,12] [(20000,0)] rfl rfl,k+1,_,l',hlt',rfl,qu hlt' EM,by rw[hst,hs],?_,rfl⟩
        · omega
        · have:=stepS_len hs;omega
   · refine qF ?_;simp only[Yk]at hlt;have hkk:k=l.length:=by omega
     subst hkk;rw[Yu]at ha;have ex:exprS l=if l=[]\/made=[false]then 0 else 1:=by rw[exprS,Yc h0,ha]
     cases l with
     |nil=>
      refine uA ?_;refine uC (fun h=>?_) (fun h=>?_)
      · cases h
      · refine MS ?_;exact qW rfl (by rw[ex];rfl)
     |cons n r=>
      refine uR ?_;rw[show decide ((((n::r).map Nod.pv).length:Int)>0)=true by simp];refine uS ?_;by_cases h1:made.length=1
      · obtain⟨b,rfl⟩:∃b,made=[b]:=List.length_eq_one_iff.1 h1;refine uS ?_;refine qm qc rfl rfl (by simp[wq]) rfl ?_;refine uS ?_;refine qm qc rfl rfl (by simp[wq]) rfl ?_;refine MG ?_;refine uC (fun h=>?_) (fun h=>?_)
        · have hb:b=true:=by simpa [wq]using h
          refine MH ?_;exact qW rfl (by rw[ex,hb];rfl)
        · have hb:b=false:=by simpa [wq]using h
          refine MS ?_;exact qW rfl (by rw[ex,hb];rfl)
      · rw[show(((wq made).length:Int)!=1)=true by simp[wq];omega];refine MG ?_;refine uC (fun h=>?_) (fun h=>?_)
        · refine MH ?_;exact qW rfl (by rw[ex,Yc (by rintro(h|rfl);cases h;exact h1 rfl)])
        · cases h
theorem node_h (n:Nod) (S:List Itm) (lo:Nat) (g:List Giv) (hlo:lo+jc n.op=S.length) (hl:S.length<=1000000) (hS:∀x∈S,x.Fit) (hgn:g.length<=1000000) (hb:∀x∈g,x.bag.length<=1000000) (hop:1<=n.op/\n.op<=13):
 HoldsW prog 266 [.p (.agg n.pv),.view 1000000 5 lo S.length,.p (jv g)] (wn S) (.p (.agg (jH n (S.drop lo) g).pv)) (wn S):=by
 obtain⟨op,val,attr⟩:=n;simp only at hop hlo;rcases(show op=1\/op=2\/op=3\/op=4\/op=5\/op=6\/op=7\/op=8\/op=9\/op=10\/op=11\/op=12\/op=13 by omega)with rfl|rfl|rfl|rfl|rfl|rfl|rfl|rfl|rfl|rfl|rfl|rfl|rfl
 · exact node_lit val attr S lo g
 · exact node_attr val attr S lo g hgn hb
 · exact node_one_h val attr S lo g hlo hl
 · exact node_size_h val attr S lo g hlo hl
 · exact node_has_h val attr S lo g hlo hl hS
 · exact wv 6 EM val attr S lo g hl EM hS
 · exact wv 7 EM val attr S lo g hl EM hS
 · exact wv 8 EM val attr S lo g hl EM hS
 · exact wv 9 EM val attr S lo g hl EM hS
 · exact wv 10 EM val attr S lo g hl EM hS
 · exact wv 11 EM val attr S lo g hl EM hS
 · exact node_12_h val attr S lo g hl hlo hS
 · exact node_13_h val attr S lo g hl hlo hS
theorem stepS_op {l l':List Bool} {n:Nod} (h:qaa l n=some l'):(1<=n.op/\n.op<=13)/\jc n.op<=l.length:=by
 unfold qaa at h;split at h
 · cases h
 · rename_i w hw;split at h
   · rename_i hc;have:=operandsS_wants hw;refine⟨?_,by omega⟩;unfold jO at hw
     repeat' split at hw
     all_goals first|omega|cases hw
   · cases h
theorem value_h (l:List Nod) (g:List Giv) (hf:∀x∈l,x.Fit) (hgf:∀x∈g,x.Fit) (hgn:g.length<=1000000) (hb:∀x∈g,x.bag.length<=1000000):Holds prog 218 [nodsP l,jv g] (.tup [.p (.agg (valueS l g).1.pv),.p (pI (valueS l g).2)]) []:=by
 refine .ofW ?_;by_cases hl0:l=[]
 · subst hl0;have e:valueS [] g=(noVal,1):=rfl;rw[e];refine qx (T:=TTab) qc func218 EF rfl rfl rfl ?_;refine MJ ?_;refine uC (fun h=>?_) (fun h=>?_)
   · refine MH ?_;exact XD
   · cases h
 · have lm:(l.map Nod.pv).length=l.length:=by simp
   have hpos:0<l.length:=List.length_pos_iff.2 hl0;refine qx (T:=TTab) qc func218 EF rfl rfl rfl ?_;refine MI ?_;rw[show(((l.map Nod.pv).length:Int)==0)=false by rw[lm];simp;exact hl0];refine uS ?_;refine uK (expr_h l hf) ?_;refine qe ?_;refine uC (fun h=>?_) (fun h=>?_)
   · have h0:exprS l≠0:=by simpa using h
     have e:valueS l g=(noVal,1):=by unfold valueS;rw[Yg (.inr h0)]
     rw[e];refine MH ?_;exact XD
   · have h0:exprS l=0:=by simpa using h
     obtain⟨hst,hl32⟩:=eExpr_made h0 hl0;refine qh ?_;refine MY ?_;refine SW.wk (zt 6 900 310 5 rfl rfl) ?_;refine uZ [1,4,5,6,19,20,21] [(4,4),(900,0)] ?_;refine qI (fun m s=>∃(k:Nat) (kk:Int) (S:List Itm) (made:List Bool),k<=l.length/\m=l.length-k/\kk=k/\S=evalI g (l.take k)/\jG [] (l.take k)=some made/\S.length=made.length/\made.length<=k/\(∀x∈S,x.Fit)/\s=⟨51,[(1,.p (jv g)),(4,.ptr 4 0),(5,.p (pI 0)),(6,.row 0),(19,.p (nodsP l)),(20,.p (pI (l.map Nod.pv).length)),(21,.p (pI kk))],[(4,.cells (noVal.pv.map .p)),(0,.row 310 5 (S.map Itm.pv))]⟩) l.length ⟨0,0,[],[],Yl _,rfl,rfl,rfl,by simp[jG],rfl,Yj _,by simp,rfl⟩ ?_;rintro m s ⟨k,_,S,made,hk,rfl,rfl,hSe,ha,hSl,hml,hS,rfl⟩;refine uA ?_;refine uC (fun hlt=>?_) (fun hlt=>?_)
     · refine qh ?_;rw[lm]at hlt;simp only[Yh]at hlt;have hlt':k<l.length:=by omega
       have hst2:=stepsS_some hlt' ha;cases hs:qaa made l[k]with
       |none=>
        rw[hs]at hst2;rw[stepsS_none (k+1) hst2]at hst;cases hst
       |some made'=>
        rw[hs]at hst2;obtain⟨hop,hopl⟩:=stepS_op hs;obtain⟨hSl',_⟩:=stepI_len (g:=g) hSl hs;have lmS:(S.map Itm.pv).length=S.length:=by simp
        obtain⟨left,hleft⟩:∃left:Nat,left+jc l[k].op=S.length:=⟨S.length-jc l[k].op,by omega⟩;have hml':=stepS_len hs;refine MO ?_;refine U5 ?_;rw[qH hlt'];refine ML ?_;refine uK (operands_h l[k].op) ?_;rw[show IntKind.i64.wrap (((S.map Itm.pv).length:Int)-(jc l[k].op:Int))=(left:Int)by rw[lmS,YB _ EM];omega];refine qe ?_;refine uD [0] [1,3,5,7,9,11,13,15,16,18,20,23] ?_;refine qU qc rfl rfl rfl (by rw[lmS];omega) rfl ?_;refine uT ?_;refine qU qc rfl rfl rfl (by rw[lmS];omega) rfl ?_;rw[lmS];refine uT ?_;refine uw [(0,1000000)] (node_h l[k] S left g hleft EM hS hgn hb hop) ?_;refine swm_act rfl rfl rfl (ActOk.shrink 33 999 rfl rfl rfl rfl (qn qc rfl rfl rfl rfl rfl rfl rfl rfl rfl rfl rfl rfl rfl rfl rfl rfl (by simp only[Ya,Yd,Yb];unfold reachBytes;simp;omega) (by simp only[Ya,Yd,Yb];simp;omega) ?_));refine Kd ?_;refine uA ?_;have hdrop:S.length-jc l[k].op=left:=by omega
        refine⟨_,_,?_,qk [1,4,5,6,19,20,21] [(4,4),(41,0)] rfl rfl,k+1,_,stepI g S l[k],made',hlt',rfl,qu hlt' EM,?_,hst2,hSl',by omega,?_,?_⟩
        · omega
        · rw[hSe];exact(foldl_take_succ (stepI g) [] l k hlt').symm
        · intro x hx;unfold stepI at hx;rcases YH.1 hx with hx|hx
          · exact hS x (Xe hx)
          · rw[Yz]at hx;subst hx;exact nodeS_fit (hf _ (Yp hlt')) (fun x hx=>hS x (YV hx)) hgf hb
        · have e3:(stepI g S l[k]).map Itm.pv=(S.map Itm.pv).take left++[(jH l[k] (S.drop left) g).pv]:=by
           unfold stepI;rw[hdrop,Yq,List.map_take];rfl
          rw[e3];rfl
     · refine qF ?_;rw[lm]at hlt;simp only[Yk]at hlt;have hkk:k=l.length:=by omega
       subst hkk;rw[Yu]at hSe;obtain⟨x,hx⟩:=evalI_one (g:=g) h0 hl0;rw[hx]at hSe;subst hSe;rw[valueS_one h0 hl0 hx];refine uD [4] [1,3,5,7,9,11,13,15,16,19] ?_;refine qU qc rfl rfl rfl EN rfl ?_;refine uT ?_;refine Gh ?_;refine uT ?_;refine qU qc rfl rfl rfl EN rfl ?_;refine uT ?_;refine Gh ?_;refine Kd ?_;refine uQ ?_;exact XD
theorem cond_h (l:List Nod) (g:List Giv) (hf:∀x∈l,x.Fit) (hgf:∀x∈g,x.Fit) (hgn:g.length<=1000000) (hb:∀x∈g,x.bag.length<=1000000):Holds prog 160 [nodsP l,jv g] (.p (pI (condS l g))) []:=by
 by_cases hl0:l=[]
 · subst hl0;refine qo (ts:=[4]) func160 EF rfl rfl rfl ?_;refine MJ ?_;refine uC (fun h=>?_) (fun h=>?_)
   · exact M1
   · cases h
 · have lm:(l.map Nod.pv).length=l.length:=by simp
   have e:condS l g=condV (valueS l g):=by unfold condS;rw[Yc hl0]
   have H:=value_h l g hf hgf hgn hb;rw[e];generalize valueS l g=r at*;refine qo (ts:=[4]) func160 EF rfl rfl rfl ?_;refine MI ?_;rw[show(((l.map Nod.pv).length:Int)==0)=false by rw[lm];simp;exact hl0];refine MG ?_;refine uC (fun h=>?_) (fun h=>?_)
   · cases h
   · refine MN ?_;refine uK H ?_;refine MX ?_;refine MO ?_;refine uK ((is_h ⟨[],r.1,r.2⟩ 1).cv (.cons (CvL.agg (.cons (.nil 3) (.refl _))) (.refl _))) ?_;refine qe ?_;refine uC (fun h1=>?_) (fun h1=>?_)
     · refine MH ?_;exact qW rfl (by unfold condV;rw[h1];rfl)
     · refine uR ?_;refine uK ((is_h ⟨[],r.1,r.2⟩ 0).cv (.cons (CvL.agg (.cons (.nil 3) (.refl _))) (.refl _))) ?_;refine qe ?_;refine uC (fun h2=>?_) (fun h2=>?_)
       · refine MH ?_;exact qW rfl (by unfold condV;rw[h1,h2];rfl)
       · refine MS ?_;exact qW rfl (by unfold condV;rw[h1,h2];rfl)
end
section
def Wlk.le (w v:Wlk):Prop:=(∀s,hasS w.met s=true->hasS v.met s=true)/\w.rules<=v.rules
theorem Wlk.le_refl (w:Wlk):w.le w:=⟨fun _ h=>h,Int.le_refl _⟩
theorem hasS_snoc (m:List EQ) (s t:EQ):hasS (m++[s]) t=(hasS m t||decide (t=s)):=by simp[hasS]
theorem Wlk.le_snoc {w v:Wlk} (h:w.le v) (s:EQ) {a b:Int} (hab:a<=b):Wlk.le ⟨w.met++[s],a⟩ ⟨v.met++[s],b⟩:=by
 refine⟨fun t ht=>?_,hab⟩;simp only[hasS_snoc,Xn]at ht⊢;exact ht.imp (h.1 t) id
theorem nameOk_le {w v:Wlk} (h:w.le v) {s:EQ} (hs:wK v.met s=true):wK w.met s=true:=by
 unfold wK at hs⊢;simp only[Yo,Xo]at hs⊢;refine⟨?_,hs.2⟩;cases hw:hasS w.met s with
 |false=>rfl
 |true=>rw[h.1 s hw]at hs;cases hs.1
theorem ruleS_le {w v:Wlk} (h:w.le v) {r:Rul} (h0:(ju v r).1=0):(ju w r).1=0/\(ju w r).2.le (ju v r).2:=by
 unfold ju at h0⊢;by_cases hv:wK v.met r.id=true
 · have hw:=nameOk_le h hv;rw[Yg hv]at h0⊢;rw[Yg hw];have h2:=h.2;simp only at h0⊢;by_cases h64:64<v.rules+1
   · rw[Yg h64]at h0;cases h0
   · rw[Yc h64]at h0;rw[Yc EM];exact⟨h0,Wlk.le_snoc h r.id EM⟩
 · rw[Yc hv]at h0;cases h0
theorem headS_le {w v:Wlk} (h:w.le v) {p:Pol} (h0:(jW v p).1=0):(jW w p).1=0/\(jW w p).2.le (jW v p).2:=by
 unfold jW at h0⊢;by_cases hv:wK v.met p.id=true
 · have hw:=nameOk_le h hv;simp only[hv,hw,Bool.true_and,nameM,if_true]at h0⊢;exact⟨h0,Wlk.le_snoc h p.id h.2⟩
 · simp[hv]at h0
theorem seqS_le {α:Type} {f f':Wlk->α->Int×Wlk} (hf:∀w v x,w.le v->(f v x).1=0->(f' w x).1=0/\(f' w x).2.le (f v x).2):∀{l:List α} {w v:Wlk},w.le v->(seqS f v l).1=0->(seqS f' w l).1=0/\(seqS f' w l).2.le (seqS f v l).2
 |[],w,v,h,_=>⟨rfl,h⟩
 |x::r,w,v,h,h0=>by
  rw[seqS]at h0⊢;rw[seqS];by_cases hx:(f v x).1=0
  · rw[Yg hx]at h0⊢;obtain⟨h1,h2⟩:=hf w v x h hx;rw[Yg h1];exact seqS_le hf h2 h0
  · rw[Yc hx]at h0;exact absurd h0 hx
theorem seqS_each {α:Type} {f:Wlk->α->Int×Wlk} {Q:α->Prop} (hf:∀w x,(f w x).1=0->Q x):∀{l:List α} {w:Wlk},(seqS f w l).1=0->∀x∈l,Q x
 |[],w,_,x,hx=>by simp at hx
 |y::r,w,h0,x,hx=>by
  rw[seqS]at h0;by_cases hy:(f w y).1=0
  · rw[Yg hy]at h0;rcases Y4.1 hx with rfl|hx
    · exact hf w _ hy
    · exact seqS_each hf h0 x hx
  · rw[Yc hy]at h0;exact absurd h0 hy
theorem ruleS_lim {w:Wlk} {r:Rul} (hw:0<=w.rules/\w.rules<=64) (h:(ju w r).1=0):0<=(ju w r).2.rules/\(ju w r).2.rules<=64:=by
 unfold ju at h⊢;split at h
 · rename_i hn;rw[Yg hn];simp only at h⊢;split at h
   · cases h
   · omega
 · cases h
theorem qbj {α:Type} {f:Wlk->α->Int×Wlk} {P:Wlk->Prop} (hf:∀w x,P w->(f w x).1=0->P (f w x).2):∀{l:List α} {w:Wlk},P w->(seqS f w l).1=0->P (seqS f w l).2
 |[],w,hw,_=>hw
 |x::r,w,hw,h=>by
  rw[seqS]at h⊢;by_cases h0:(f w x).1=0
  · rw[Yg h0]at h⊢;exact qbj hf (hf w x hw h0) h
  · rw[Yc h0]at h;exact absurd h h0
abbrev lim (w:Wlk):Prop:=0<=w.rules/\w.rules<=64
theorem polS_lim:∀(n:Nat) (w:Wlk) (p:Pol),lim w->(polS n w p).1=0->lim (polS n w p).2
 |0,w,p,_,h=>by cases h
 |n+1,w,p,hw,h=>by
  have h1:lim (jW w p).2:=hw;rw[polS]at h⊢;split at h
  · rename_i h2;rw[Yg h2];split at h
    · rename_i h3;rw[Yg h3];exact qbj (P:=lim) (fun w x hw h=>polS_lim n w x hw h) (qbj (P:=lim) (fun w x hw h=>ruleS_lim hw h) h1 h3) h
    · rename_i h3;exact absurd h h3
  · rename_i h2;exact absurd h h2
end
section
open Go.RowKit
mutual
def Pol.nr:Pol->Nat
 | .mk _ _ _ _ rs ks _=>rs.length+Pol.nrs ks
def Pol.nrs:List Pol->Nat
 |[]=>0
 |k::ks=>k.nr+Pol.nrs ks
end
theorem Pol.nrs_eq:∀l:List Pol,Pol.nrs l=qP Pol.nr l
 |[]=>rfl
 |k::ks=>by simp[Pol.nrs,qP,Pol.nrs_eq ks]
theorem Pol.nr_eq (p:Pol):p.nr=p.rules.length+qP Pol.nr p.kids:=by
 cases p;rw[<-Pol.nrs_eq];rfl
theorem seqS_count {α:Type} {f:Wlk->α->Int×Wlk} {c:α->Nat} (hf:∀w x,(f w x).1=0->(f w x).2.rules=w.rules+c x):∀{l:List α} {w:Wlk},(seqS f w l).1=0->(seqS f w l).2.rules=w.rules+qP c l
 |[],w,_=>by simp[seqS,qP]
 |x::r,w,h=>by
  rw[seqS]at h⊢;by_cases h0:(f w x).1=0
  · rw[Yg h0]at h⊢;rw[seqS_count hf h,hf w x h0];simp[qP];omega
  · rw[Yc h0]at h;exact absurd h h0
theorem ruleS_count (w:Wlk) (r:Rul) (h:(ju w r).1=0):(ju w r).2.rules=w.rules+(1:Nat):=by
 unfold ju at h⊢;split at h
 · rename_i hn;rw[Yg hn];rfl
 · cases h
theorem sumBy_one {α:Type}:∀l:List α,qP (fun _=>1) l=l.length
 |[]=>rfl
 |x::r=>by have:=sumBy_one r;unfold qP at this⊢;simp;omega
theorem sumBy_take {α:Type} (f:α->Nat) (l:List α) (k:Nat):qP f (l.take k)<=qP f l:=by
 have h:qP f (l.take k++l.drop k)=qP f (l.take k)+qP f (l.drop k):=by simp only[qP,Yq,List.sum_append]
 rw[Xl]at h;omega
theorem polS_count:∀(n:Nat) (w:Wlk) (p:Pol),(polS n w p).1=0->(polS n w p).2.rules=w.rules+p.nr
 |0,w,p,h=>by cases h
 |n+1,w,p,h=>by
  have h1:(jW w p).2.rules=w.rules:=rfl;rw[polS]at h⊢;rw[Pol.nr_eq];split at h
  · rename_i h2;rw[Yg h2];split at h
    · rename_i h3;rw[Yg h3,seqS_count (c:=Pol.nr) (fun w x h=>polS_count n w x h) h,seqS_count (c:=fun _=>1) ruleS_count h3,h1,sumBy_one];omega
    · rename_i h3;exact absurd h h3
  · rename_i h2;exact absurd h h2
def Dp:Nat->Pol->Prop
 |0,_=>False
 |n+1,p=>∀k∈p.kids,Dp n k
theorem polS_kids {n:Nat} {w:Wlk} {p:Pol} (h:(polS (n+1) w p).1=0):(jW w p).1=0/\(seqS ju (jW w p).2 p.rules).1=0/\(seqS (polS n) (seqS ju (jW w p).2 p.rules).2 p.kids).1=0:=by
 rw[polS]at h;split at h
 · rename_i h2;split at h
   · rename_i h3;exact⟨h2,h3,h⟩
   · rename_i h3;exact absurd h h3
 · rename_i h2;exact absurd h h2
theorem polS_dp:∀(n:Nat) {w:Wlk} {p:Pol},(polS n w p).1=0->Dp n p
 |0,w,p,h=>by cases h
 |n+1,w,p,h=>seqS_each (fun w x h=>polS_dp n h) (polS_kids h).2.2
theorem hasS_ruleS {s:EQ} {w:Wlk} {r:Rul} (h:hasS w.met s=true):hasS (ju w r).2.met s=true:=by
 unfold ju;split
 · show hasS (w.met++[r.id]) s=true;rw[hasS_snoc,h];rfl
 · exact h
theorem hasS_headS {s:EQ} {w:Wlk} {p:Pol} (h:hasS w.met s=true):hasS (jW w p).2.met s=true:=by
 unfold jW nameM;simp only;split
 · rw[hasS_snoc,h];rfl
 · exact h
theorem hasS_polS {s:EQ}:∀(n:Nat) {w:Wlk} {p:Pol},hasS w.met s=true->(polS n w p).1=0->hasS (polS n w p).2.met s=true
 |0,w,p,_,h=>by cases h
 |n+1,w,p,hw,h=>by
  obtain⟨h1,h2,h3⟩:=polS_kids h;rw[polS,Yg h1,Yg h2];exact qbj (P:=fun w=>hasS w.met s=true) (fun w x hw h=>hasS_polS n hw h) (qbj (P:=fun w=>hasS w.met s=true) (fun w x hw _=>hasS_ruleS hw) (hasS_headS hw) h2) h3
def Pol.putKids (p:Pol) (l:List Pol):Pol:=.mk p.id p.set p.alg p.target p.rules l p.obls
theorem decideS_dp (g:List Giv):∀{n:Nat} {p:Pol},Dp n p->∀{m:Nat},n<=m->qR g m p=qR g n p
 |n+1,p,h,m+1,hm=>by
  have e:p.kids.map (qR g m)=p.kids.map (qR g n):=List.map_congr_left fun k hk=>decideS_dp g (h k hk) EM
  rw[qR,qR,e]
theorem right_dp {p:Pol} (h:zO p=0):Dp 4 p:=polS_dp 4 h
def ents (m:List EQ):List (Value×PV):=m.map fun s=>(.string s,.agg [])
def wlkO (w:Wlk):List (Nat×Box):=[(1000000,.cells [.row 1000001,.p (pI w.rules)]),(1000001,.mp (ents w.met))]
abbrev wlkR:List (Nat×Nat):=[(1000000,1000000),(1000001,1000001)]
theorem ents_ok:∀m:List EQ,(ents m).all (fun x=>kdOk .str x.1)=true
 |[]=>rfl
 |s::m=>by
  have:=ents_ok m;simp only[ents,Y1,List.all_cons,Yo]at this⊢;exact⟨rfl,this⟩
theorem mfind_ents (s:EQ):∀m:List EQ,mfind (.string s) (ents m)=if hasS m s then some (.agg [])else none
 |[]=>rfl
 |t::m=>by
  have ih:=mfind_ents s m;show(bif keyEq (.string s) (.string t)then some (PV.agg [])else mfind (.string s) (ents m))=_;rw[ih];by_cases e:s=t
  · subst e;simp[keyEq,hasS]
  · have e':∀i:Decidable (s=t),@decide (s=t) i=false:=fun i=>by
     cases i with
     |isTrue h=>exact absurd h e
     |isFalse h=>rfl
    rw[show keyEq (.string s) (.string t)=false from e' _];unfold hasS;rw[List.any_cons,e',cond_false,Bool.false_or]
theorem ents_snoc (m:List EQ) (s:EQ):ents m++[(.string s,.agg [])]=ents (m++[s]):=by simp[ents]
theorem wname_h (m:List EQ) (n:Int) (s:EQ) (hs:s.size<=reachBytes):HoldsW prog 213 [.ptr 1000000 0,.p (pS s)] (wlkO ⟨m,n⟩) (.p (pB (wK m s))) (wlkO ⟨nameM m s,n⟩):=by
 by_cases hm:hasS m s=true
 · have e1:wK m s=false:=by simp[wK,hm]
   have e2:nameM m s=m:=by simp[nameM,e1]
   rw[e1,e2];refine qC (ts:=[4]) func213 EF rfl rfl rfl ?_;refine MI ?_;refine qm qc rfl rfl (ents_ok m) rfl ?_;rw[mfind_ents,Yg hm];refine MG ?_;refine MP ?_;refine zl rfl rfl rfl rfl (name_h s hs) rfl rfl ?_;refine Ka ?_;refine uC (fun h=>?_) (fun h=>?_)
   · exact Kf
   · cases h
 · refine qC (ts:=[4]) func213 EF rfl rfl rfl ?_;refine MI ?_;refine qm qc rfl rfl (ents_ok m) rfl ?_;rw[mfind_ents,Yc hm];refine MG ?_;refine MP ?_;refine zl rfl rfl rfl rfl (name_h s hs) rfl rfl ?_;refine Ka ?_;refine uC (fun h=>?_) (fun h=>?_)
   · have e0:wX s=false:=by simpa using h
     have e1:wK m s=false:=by simp[wK,e0]
     have e2:nameM m s=m:=by simp[nameM,e1]
     rw[e1,e2];exact Kf
   · have e0:wX s=true:=by simpa using h
     have e1:wK m s=true:=by simp[wK,e0,hm]
     have e2:nameM m s=m++[s]:=by simp[nameM,e1]
     rw[e1,e2];refine MN ?_;refine qy rfl (act_mapUpdate qc rfl rfl rfl rfl rfl rfl rfl rfl rfl (ents_ok m) (by rw[mfind_ents,Yc hm]) rfl ?_);rw[ents_snoc];refine Kb ?_;exact XV
def TarFit (t:Tar):Prop:=∀x∈t,∀y∈x,∀m∈y,m.Fit
structure RulFit (r:Rul):Prop where
 id:r.id.size<=reachBytes
 tgt:TarFit r.target
 cond:∀n∈r.cond,n.Fit
 obls:∀o∈r.obls,o.Fit
theorem wrule_h (w:Wlk) (hw:0<=w.rules/\w.rules<=64) (r:Rul) (hr:RulFit r):HoldsW prog 157 [.ptr 1000000 0,.p (.agg (zD r))] (wlkO w) (.p (pI (ju w r).1)) (wlkO (ju w r).2):=by
 have H:=wname_h w.met w.rules r.id hr.id;cases hn:wK w.met r.id with
 |false=>
  have e:ju w r=(1,w):=by simp[ju,hn]
  have e2:nameM w.met r.id=w.met:=by simp[nameM,hn]
  rw[hn,e2]at H;rw[e];refine qC (ts:=[4]) func157 EF rfl rfl rfl ?_;refine MI ?_;refine uW wlkR H ?_;refine qe ?_;refine uC (fun h=>?_) (fun h=>?_)
  · exact Kf
  · cases h
 |true=>
  have e2:nameM w.met r.id=w.met++[r.id]:=by simp[nameM,hn]
  rw[hn,e2]at H;have e:ju w r=(if 64<w.rules+1 then 6 else ruleE r,⟨w.met++[r.id],w.rules+1⟩):=by simp[ju,hn]
  rw[e];refine qC (ts:=[4]) func157 EF rfl rfl rfl ?_;refine MI ?_;refine uW wlkR H ?_;refine qe ?_;refine uC (fun h=>?_) (fun h=>?_)
  · cases h
  · refine MR ?_;rw[show IntKind.i64.wrap (w.rules+1)=w.rules+1 from YB _ EM];refine uA ?_;refine uC (fun h=>?_) (fun h=>?_)
    · have h1:64<w.rules+1:=by simp at h;omega
      rw[Yg h1];exact Kf
    · have h1:¬64<w.rules+1:=by simp at h;omega
      rw[Yc h1];unfold ruleE;refine MN ?_;refine uK (target_h r.target hr.tgt) ?_;refine MX ?_;refine uC (fun h=>?_) (fun h=>?_)
      · have h2:¬wP r.target=0:=by simpa using h
        rw[Yc h2];exact Kf
      · have h2:wP r.target=0:=by simpa using h
        rw[Yg h2];refine MN ?_;refine uK (expr_h r.cond hr.cond) ?_;refine MX ?_;refine uC (fun h=>?_) (fun h=>?_)
        · have h3:¬exprS r.cond=0:=by simpa using h
          rw[Yc h3];exact Kf
        · have h3:exprS r.cond=0:=by simpa using h
          rw[Yg h3];refine MN ?_;refine uK (obls_h r.obls hr.obls) ?_;refine MV ?_;exact XV
mutual
def polP:Pol->List PV
 | .mk id set alg target rules kids obls=>[pS id,pB set,pI alg,tgtP target,.sl 5 (rules.map zD),.sl 7 (polPs kids),zw obls]
def polPs:List Pol->List (List PV)
 |[]=>[]
 |k::r=>polP k::polPs r
end
theorem polPs_eq:∀l:List Pol,polPs l=l.map polP
 |[]=>rfl
 |k::r=>by rw[polPs,polPs_eq r];rfl
theorem zd (p:Pol):polP p=[pS p.id,pB p.set,pI p.alg,tgtP p.target,.sl 5 (p.rules.map zD),.sl 7 (p.kids.map polP),zw p.obls]:=by
 cases p;rw[polP,polPs_eq];rfl
structure HeadFit (p:Pol):Prop where
 id:p.id.size<=reachBytes
 tgt:TarFit p.target
 rules:∀r∈p.rules,RulFit r
 obls:∀o∈p.obls,o.Fit
 nr:p.rules.length<=reachBytes
 nk:p.kids.length<=reachBytes
theorem whead_h (w:Wlk) (p:Pol) (hp:HeadFit p):HoldsW prog 156 [.ptr 1000000 0,.p (.agg (polP p))] (wlkO w) (.p (pI (jW w p).1)) (wlkO (jW w p).2):=by
 have H:=wname_h w.met w.rules p.id hp.id;have l1:((p.rules.map zD).length)=p.rules.length:=by simp
 have l2:((p.kids.map polP).length)=p.kids.length:=by simp
 rw[zd];unfold jW;cases hn:wK w.met p.id with
 |false=>
  rw[hn]at H;simp only[Bool.false_and,YA,if_false];refine qC (ts:=[4]) func156 EF rfl rfl rfl ?_;refine MI ?_;refine uW wlkR H ?_;refine qe ?_;refine uC (fun h=>?_) (fun h=>?_)
  · exact Kf
  · cases h
 |true=>
  rw[hn]at H;refine qC (ts:=[4]) func156 EF rfl rfl rfl ?_;refine MI ?_;refine uW wlkR H ?_;by_cases h1:p.alg<1
  · rw[show decide (p.alg<1)=true from YC h1];refine MG ?_;refine uC (fun h=>?_) (fun h=>?_)
    · rw[Yc ED];exact Kf
    · cases h
  · rw[show decide (p.alg<1)=false from YE h1];refine MG ?_;refine uC (fun h=>?_) (fun h=>?_)
    · have h2:6<p.alg:=by simpa using h
      rw[Yc ED];exact Kf
    · have h2:¬6<p.alg:=by simpa using h
      rw[Yg ED];unfold headE;refine qh ?_;refine MT ?_;rw[l1,l2];refine uC (fun h=>?_) (fun h=>?_)
      · rw[Yg (by revert h;cases p.set<;>simp)];exact Kf
      · rw[Yc (by revert h;cases p.set<;>simp)];refine MN ?_;refine uK (target_h p.target hp.tgt) ?_;refine MX ?_;refine uC (fun h=>?_) (fun h=>?_)
        · have h3:¬wP p.target=0:=by simpa using h
          rw[Yc h3];exact Kf
        · have h3:wP p.target=0:=by simpa using h
          rw[Yg h3];refine MN ?_;refine uK (obls_h p.obls hp.obls) ?_;refine MX ?_;refine uC (fun h=>?_) (fun h=>?_)
          · have h4:¬oblsS p.obls=0:=by simpa using h
            rw[Yc h4];exact Kf
          · have h4:oblsS p.obls=0:=by simpa using h
            rw[Yg h4];refine qh ?_;refine MT ?_;rw[l1,l2];refine uC (fun h=>?_) (fun h=>?_)
            · rw[Yg Ed];exact Kf
            · rw[Yc Ed];refine MS ?_;exact XV
def PolFit:Nat->Pol->Prop
 |0,_=>True
 |n+1,p=>HeadFit p/\∀k∈p.kids,PolFit n k
theorem wpol_h:∀(n:Nat) (hn:n<=4) (w:Wlk) (p:Pol),lim w->PolFit n p->HoldsW prog 99 [.ptr 1000000 0,.p (.agg (polP p)),.p (pI (5-n))] (wlkO w) (.p (pI (polS n w p).1)) (wlkO (polS n w p).2)
 |0,_,w,p,_,_=>by
  rw[zd];refine qC (ts:=[6]) func99 EF rfl rfl rfl ?_;refine MJ ?_;refine uC (fun h=>?_) (fun h=>?_)
  · exact Kf
  · cases h
 |n+1,hn,w,p,hw,hf=>by
  have H:=whead_h w p hf.1;have IH:=fun w k hw hk=>wpol_h n EM w k hw hk
  have l1:((p.rules.map zD).length)=p.rules.length:=by simp
  have l2:((p.kids.map polP).length)=p.kids.length:=by simp
  rw[zd]at H⊢;rw[polS];have hlen:=hf.1.nr;have hlen2:=hf.1.nk;unfold reachBytes at hlen hlen2;refine qC (ts:=[6]) func99 EF rfl rfl rfl ?_;refine MJ ?_;refine uC (fun h=>?_) (fun h=>?_)
  · exfalso;simp at h;omega
  · refine MN ?_;refine uW wlkR H ?_;refine MX ?_;refine uC (fun h=>?_) (fun h=>?_)
    · have h1:¬(jW w p).1=0:=by simpa using h
      rw[Yc h1];exact Kf
    · have h1:(jW w p).1=0:=by simpa using h
      rw[Yg h1];have hw1:lim (jW w p).2:=hw;generalize (jW w p).2=w1 at*;refine MR ?_;refine uB ?_;refine uZ [0,2,4,23,24,25] [(1000000,1000000),(1000001,1000001),(4,4)] ?_
      refine qI (fun m s=>∃(k:Nat) (kk:Int) (wk:Wlk),k<=p.rules.length/\m=p.rules.length-k/\kk=k/\(seqS ju w1 (p.rules.take k)).1=0/\wk=(seqS ju w1 (p.rules.take k)).2/\
       s=⟨52,[(0,.ptr 1000000 0),(2,.p (pI (5-(n+1:Nat)))),(4,.ptr 4 0),(23,.p (.sl 5 (p.rules.map zD))),(24,.p (pI p.rules.length)),(25,.p (pI kk))],wlkO wk++[(4,.cells ([pS p.id,pB p.set,pI p.alg,tgtP p.target,.sl 5 (p.rules.map zD),.sl 7 (p.kids.map polP),zw p.obls].map .p))]⟩) p.rules.length ⟨0,0,w1,Yl _,rfl,rfl,rfl,rfl,by rw[<-l1];rfl⟩ ?_
      rintro m s ⟨k,_,wk,hk,rfl,rfl,ha,hwk,rfl⟩;have hlk:lim wk:=by rw[hwk];exact qbj (P:=lim) (fun w x hw h=>ruleS_lim hw h) hw1 ha
      refine uA ?_;refine uC (fun hlt=>?_) (fun hlt=>?_)
      · refine qh ?_;simp only[Yh]at hlt;have hlt':k<p.rules.length:=by omega
        have hst:=seqS_some hlt' ha;rw[<-hwk]at hst;refine MO ?_;refine qm qc rfl rfl (by rw[l1];omega) rfl ?_;rw[qH hlt'];refine MG ?_;have H2:=wrule_h wk hlk p.rules[k] (hf.1.rules _ (Yp hlt'));refine uR ?_;refine uW wlkR H2 ?_;refine MX ?_;refine uC (fun h=>?_) (fun h=>?_)
        · have h2:¬(ju wk p.rules[k]).1=0:=by simpa using h
          have e:seqS ju w1 p.rules=ju wk p.rules[k]:=by rw[seqS_stop (k+1) (by rw[hst];exact h2),hst]
          rw[e,Yc h2];exact Kf
        · have h2:(ju wk p.rules[k]).1=0:=by simpa using h
          refine MR ?_;refine⟨_,_,?_,qk [0,2,4,23,24,25] [(1000000,1000000),(1000001,1000001),(4,4)] rfl rfl,k+1,_,_,hlt',rfl,qu hlt' EM,by rw[hst];exact h2,by rw[hst],rfl⟩;omega
      · refine qF ?_;simp only[Yk]at hlt;have hkk:k=p.rules.length:=by omega
        subst hkk;rw[Yu]at ha hwk;rw[Yg ha,<-hwk];clear hwk
        refine M0 ?_;refine uZ [0,2,37,38,39] [(1000000,1000000),(1000001,1000001)] ?_
        refine qI (fun m s=>∃(k:Nat) (kk:Int) (w2:Wlk),k<=p.kids.length/\m=p.kids.length-k/\kk=k/\(seqS (polS n) wk (p.kids.take k)).1=0/\w2=(seqS (polS n) wk (p.kids.take k)).2/\
         s=⟨52,[(0,.ptr 1000000 0),(2,.p (pI (5-(n+1:Nat)))),(37,.p (.sl 7 (p.kids.map polP))),(38,.p (pI p.kids.length)),(39,.p (pI kk))],wlkO w2⟩) p.kids.length ⟨0,0,wk,Yl _,rfl,rfl,rfl,rfl,by rw[<-l2];rfl⟩ ?_
        rintro m s ⟨k,_,w2,hk,rfl,rfl,ha,hwk,rfl⟩;have hl2:lim w2:=by rw[hwk];exact qbj (P:=lim) (fun w x hw h=>polS_lim n w x hw h) hlk ha
        refine uA ?_;refine uC (fun hlt=>?_) (fun hlt=>?_)
        · refine qh ?_;simp only[Yh]at hlt;have hlt':k<p.kids.length:=by omega
          have hst:=seqS_some hlt' ha;rw[<-hwk]at hst;refine MO ?_;refine GC ?_;rw[qH hlt',zd];refine MG ?_;have H2:=IH w2 p.kids[k] hl2 (hf.2 _ (Yp hlt'));rw[zd]at H2;refine uR ?_;rw[show IntKind.i64.wrap ((5:Int)-(n+1:Nat)+1)=5-(n:Int)by rw[YB _ EM];omega];refine uW wlkR H2 ?_;refine MX ?_;refine uC (fun h=>?_) (fun h=>?_)
          · have h2:¬(polS n w2 p.kids[k]).1=0:=by simpa using h
            have e:seqS (polS n) wk p.kids=polS n w2 p.kids[k]:=by rw[seqS_stop (k+1) (by rw[hst];exact h2),hst]
            rw[e];exact Kf
          · have h2:(polS n w2 p.kids[k]).1=0:=by simpa using h
            refine MR ?_;refine⟨_,_,?_,qk [0,2,37,38,39] [(1000000,1000000),(1000001,1000001)] rfl rfl,k+1,_,_,hlt',rfl,qu hlt' EM,by rw[hst];exact h2,by rw[hst],rfl⟩;omega
        · refine qF ?_;simp only[Yk]at hlt;have hkk:k=p.kids.length:=by omega
          subst hkk;rw[Yu]at ha hwk;rw[ha,<-hwk];exact Kf
theorem right_h (p:Pol) (hf:PolFit 4 p):Holds prog 51 [.agg (polP p)] (.p (pI (zO p))) []:=by
 have H:=wpol_h 4 (Yj _) ⟨[],0⟩ p ⟨Int.le_refl _,by decide⟩ hf;rw[zd]at H⊢;refine qo (ts:=[2]) func51 EF rfl rfl rfl ?_;refine uA ?_;refine MI ?_;refine uW [(6,1000000),(4,1000001)] H ?_;exact KE
theorem opens_tstr:Opens prog 9 1 rStr:=opens_str underlying9 EF
theorem SlV.rel {α:Type} {R:Rp α} {f:α->List PV} {z:Nat} {w:World} {v:Value} {l:List α} (h:SlV R z w v l) (hz:∀x,(f x).length=z/\(f x).all oneP=true) (hf:∀x∈l,∀cs,R w cs x->rPV (fun _=>True) w cs (f x)):RelP (fun _=>True) w (.sl z (l.map f)) v:=by
 obtain⟨A,c,rfl,h1,h2,h3⟩:=h;exact rel_sl h3 h1 h2 hz hf
theorem SlV.fit {α:Type} {R:Rp α} {size:Nat} {w:World} {v:Value} {l:List α} {F:α->Prop} (h:SlV R size w v l) (hR:∀cs x,R w cs x->F x):(∀x∈l,F x)/\l.length<=reachBytes:=by
 obtain⟨A,c,rfl,h1,h2,h3⟩:=h;exact⟨h3.fit hR,h2.1⟩
def PolF:Nat->Pol->Prop
 |0,_=>False
 |n+1,p=>HeadFit p/\R64 p.alg/\∀k∈p.kids,PolF n k
theorem polF_fit:∀(m:Nat) {n:Nat} {p:Pol},PolF n p->PolFit m p
 |0,_,_,_=>True.intro
 |m+1,n+1,p,h=>⟨h.1,fun k hk=>polF_fit m (h.2.2 k hk)⟩
theorem SWT.wk {P:Program} {ops l:List Oper} {Q:St->Prop} {st st':St} (h:Wk st st') (h':SWT P ops l Q st'):SWT P ops l Q st:=fun w0 Sx γ a w QQ hI hQ=>by
 obtain⟨γ',hI'⟩:=h w0 Sx γ a w hI;exact h' w0 Sx γ' a w QQ hI' hQ
theorem xsz_le {t:Tar} {x:List (List Mat)} (h:x∈t):xsz x<=tsz t:=by
 have:=sumBy_le (f:=xsz) h;unfold tsz;omega
theorem len_sumBy {α:Type} (f:α->Nat) (h:∀x,1<=f x):∀l:List α,l.length<=qP f l
 |[]=>Yl _
 |x::r=>by
  have h1:=len_sumBy f h r;have h2:=h x;simp only[qP,Y1,List.sum_cons,Yf]at h1⊢;omega
def SWB (P:Program) (ops:List Oper) (κ:Kap) (ls:Array Bool) (fuel:Nat) (Q:St->Prop) (st:St):Prop:=∀(w0:Base) (Sx:Nat->Prop) (γ:Nat->Value) (a:Act) (w:World) (QQ:Exit->Act->World->Prop),Sim w0 Sx γ st a w->
 (∀st' γ' a' w',Sim w0 Sx γ' st' a' w'->Q st'->QQ .normal a' w')->wpAnyP P ops.toArray (NoPanic QQ) fuel (pendOf γ st.own w κ) ls a w
def SWBo (P:Program) (ops:List Oper) (κ:Kap) (ls:Array Bool) (fuel:Nat) (Q:St->Prop) (st:St) (i:Nat):Prop:=∀(w0:Base) (Sx:Nat->Prop) (γ:Nat->Value) (a:Act) (w:World) (QQ:Exit->Act->World->Prop),Sim w0 Sx γ st a w->
 (∀st' γ' a' w',Sim w0 Sx γ' st' a' w'->Q st'->QQ .normal a' w')->wpOp P ops.toArray (NoPanic QQ) i (fun a' w'=>(∀p∈alive ops.toArray i (pendOf γ st.own w κ),p.2 w')/\wpAnyP P ops.toArray (NoPanic QQ) fuel (alive ops.toArray i (pendOf γ st.own w κ)) (ls.setIfInBounds i true) a' w') a w
section
variable {P:Program} {ops:List Oper} {κ:Kap} {ls:Array Bool} {fuel:Nat} {st:St} {Q:St->Prop} {i j:Nat} {o:Oper}
theorem qG (hr:Region.ready .any ops.toArray ls=[]) (h:Q st):SWB P ops κ ls fuel Q st:=fun _ _ γ a w _ hI hQ=>by
 cases fuel with
 |zero=>exact⟨hr,hQ st γ a w hI h⟩
 |succ f=>exact⟨fun _=>hQ st γ a w hI h,fun i hi=>by rw[hr]at hi;cases hi⟩
theorem qg (i:Nat) (hr:Region.ready .any ops.toArray ls=[i]) (h:SWBo P ops κ ls fuel Q st i):SWB P ops κ ls (fuel+1) Q st:=fun w0 Sx γ a w QQ hI hQ=>
 ⟨fun h0=>LR,fun k hk=>by
  rw[hr]at hk;obtain rfl:k=i:=by simpa using hk
  exact h w0 Sx γ a w QQ hI hQ⟩
theorem zk (i j:Nat) (hr:Region.ready .any ops.toArray ls=[i,j]) (h:SWBo P ops κ ls fuel Q st i) (h2:SWBo P ops κ ls fuel Q st j):SWB P ops κ ls (fuel+1) Q st:=fun w0 Sx γ a w QQ hI hQ=>
 ⟨fun h0=>LR,fun k hk=>by
  rw[hr]at hk;have hk:k=i\/k=j:=by simpa using hk
  rcases hk with rfl|rfl
  · exact h w0 Sx γ a w QQ hI hQ
  · exact h2 w0 Sx γ a w QQ hI hQ⟩
theorem swb_fork3 (i j k:Nat) (hr:Region.ready .any ops.toArray ls=[i,j,k]) (h:SWBo P ops κ ls fuel Q st i) (h2:SWBo P ops κ ls fuel Q st j) (h3:SWBo P ops κ ls fuel Q st k):SWB P ops κ ls (fuel+1) Q st:=fun w0 Sx γ a w QQ hI hQ=>
 ⟨fun h0=>LR,fun m hk=>by
  rw[hr]at hk;have hk:m=i\/m=j\/m=k:=by simpa using hk
  rcases hk with rfl|rfl|rfl
  · exact h w0 Sx γ a w QQ hI hQ
  · exact h2 w0 Sx γ a w QQ hI hQ
  · exact h3 w0 Sx γ a w QQ hI hQ⟩
theorem swb_fork4 (i j k l:Nat) (hr:Region.ready .any ops.toArray ls=[i,j,k,l]) (h:SWBo P ops κ ls fuel Q st i) (h2:SWBo P ops κ ls fuel Q st j) (h3:SWBo P ops κ ls fuel Q st k) (h4:SWBo P ops κ ls fuel Q st l):SWB P ops κ ls (fuel+1) Q st:=fun w0 Sx γ a w QQ hI hQ=>
 ⟨fun h0=>LR,fun m hk=>by
  rw[hr]at hk;have hk:m=i\/m=j\/m=k\/m=l:=by simpa using hk
  rcases hk with rfl|rfl|rfl|rfl
  · exact h w0 Sx γ a w QQ hI hQ
  · exact h2 w0 Sx γ a w QQ hI hQ
  · exact h3 w0 Sx γ a w QQ hI hQ
  · exact h4 w0 Sx γ a w QQ hI hQ⟩
theorem qi {K:List Nat} {s:SV} (hB:(Region.free .any ops.toArray ls i&&(Region.ready .any ops.toArray ls).contains i)=true) (hs:Region.noSelect ops.toArray=true) (hi:nthO ops i=some o) (hw:wl ops st o=some true) (hr:RdO P K st o s) (hd:wa st o.dst=true)
 (h:SWB P ops ((i,K)::κ) (ls.setIfInBounds i true) fuel Q (st.put o.dst s)):SWB P ops κ ls (fuel+1) Q st:=fun w0 Sx γ a w QQ hI hQ=>by
 obtain⟨v,h1,h2⟩:=hr w0 Sx γ a w hI;have hrest:=h w0 Sx γ _ w QQ (hI.put (dst:=o.dst) hd h1) hQ;simp only[qaW]at hrest;rw[Yo]at hB;have hio:=(jA ops i).trans hi;exact wpAnyP_first hio (Region.noSelect_spec hs) (fun _ _ _ h=>h) fuel _ ls a w (Region.free_spec hio hB.1) (by simpa using hB.2) (Or.inl ⟨wz hI hw,h2⟩) (SameOn.refl _ _) pendOf_at hrest
theorem qd {Ws:List Nat} (hi:nthO ops i=some o) (hw:wl ops st o=some true) (hK:(kapB o κ).all (fun p=>Ws.all fun j=>p.2.contains j)=true) (h:ActOk P Ws o st (SWB P ops (kapB o κ) (ls.setIfInBounds i true) fuel Q)):SWBo P ops κ ls fuel Q st i:=fun w0 Sx γ a w QQ hI hQ=>by
 have hsub:∀p∈kapB o κ,∀j∈Ws,j∈p.2:=fun p hp j hj=>by simpa using YF.1 (YF.1 hK p hp) j hj
 have hio:=(jA ops i).trans hi;unfold wpOp;rw[hio];simp only[wz hI hw,if_true];refine Or.inl ?_;have:=h w0 Sx γ a w (NoPanic QQ) hI
 have mono:∀{a' w'},(∃γ' st',SWB P ops (kapB o κ) (ls.setIfInBounds i true) fuel Q st'/\Sim w0 Sx γ' st' a' w'/\SameOn (vis Ws γ st.own) w w'/\∀K:List Nat,(∀i∈Ws,i∈K)->∀b,b<w.heap.size->vis K γ st.own b->vis K γ' st'.own b)->
  (∀p∈alive ops.toArray i (pendOf γ st.own w κ),p.2 w')/\wpAnyP P ops.toArray (NoPanic QQ) fuel (alive ops.toArray i (pendOf γ st.own w κ)) (ls.setIfInBounds i true) a' w':=fun{a' w'} ⟨γ',st',h1,h2,h3,h4⟩=>by
  have hc:Covers (alive ops.toArray i (pendOf γ st.own w κ)) (pendOf γ' st'.own w' (kapB o κ)):=fun p hp=>by
   obtain⟨hp1,hp2⟩:=mem_alive.1 hp;obtain⟨q,hq,rfl⟩:=YY.1 hp1;have hq':q∈kapB o κ:=List.mem_filter.2 ⟨hq,by rw[hp2 o hio];rfl⟩;have hs:=hsub q hq';refine .inr ⟨_,YY.2 ⟨q,hq',rfl⟩,rfl,fun x hx=>⟨Xi h3.size hx.size,fun b hb hv=>?_⟩⟩;have e1:=h3.block b hb (fun j bx hj hjW hjb=>hv j bx hj (by simpa using hs j (by simpa using hjW)) hjb);have e2:=hx.block b (Xr hb h3.size) (h4 q.2 hs b hb hv);exact e2.trans e1
  exact⟨hc.at pendOf_at,wpAnyP_weak _ hc _ _ _ (h1 w0 Sx γ' a' w' QQ h2 hQ)⟩
 unfold Oper.wp at this⊢;generalize (execOp a.eval o).run P w=res at*;cases res with
 |ok n w'=>
  cases n<;>simp only[Oper.upon]at this⊢<;>first
   |exact mono this
   |exact this
   |exact Calls.mono this (fun e w'' he=>by cases e<;>first|exact mono he|exact he)
   |exact Rows.mono this (fun _ _ he=>mono he)
 |halt x w'=>cases x<;>simp only[Oper.upon]at this⊢<;>exact this
theorem qA {id:Nat} {l:List Oper} {QS:SEx->St->Prop} (n:Nat) (hn:l.length=n) (hm:P.follows .mixedOrders=true) (h:SWB P l [] (Array.replicate n false) n (QS .normal) st):SW P (.region id l.toArray true) QS st:=fun w0 Sx γ a w QQ hI hQ=>by
 refine wp_region_noPanic (wp_region_any hm (wpAny_of_pend _ [] _ _ _ ?_));have h1:=h w0 Sx γ a w.drew QQ hI.drew fun s' γ' a' w' hI' hq=>hQ .normal s' γ' a' w' hI' hq
 have e:l.toArray.size=n:=by simpa using hn
 rw[e];exact h1
end
def rsP (x:Rs):List PV:=[mkP x.m,zw x.obls]
def rssP (l:List Rs):PV:=.sl 2 (l.map rsP)
theorem dutiesS_take {l:List Obli} {m:Mk} {k:Nat} (h:k<l.length):qah (l.take (k+1)) m=if dutyS m l[k]then qah (l.take k) m++[l[k]]else qah (l.take k) m:=by
 unfold qah;rw[Ym h,List.filter_append];cases hd:dutyS m l[k]<;>simp[hd]
theorem qal (l:List Obli) (m:Mk):(qah l m).length<=l.length:=List.length_filter_le _ _
theorem duties_h (l:List Obli) (hn:l.length<=1000000) (m:Mk) (hm:m∈mks):Holds prog 163 [zw l,mkP m] (.p (zw (qah l m))) []:=by
 have lm:(l.map Obli.pv).length=l.length:=by simp
 refine .ofW ?_;refine qx (T:=TTab) qc func163 EF rfl rfl rfl ?_;refine KB ?_;refine SW.wk (zt 5 900 64 3 rfl rfl) ?_;refine uZ [1,5,8,9,10] [(900,0)] ?_;refine qI (fun n s=>∃(k:Nat) (kk:Int) (L:List Obli),k<=l.length/\n=l.length-k/\kk=k/\L=qah (l.take k) m/\s=⟨36,[(1,.p (mkP m)),(5,.row 0),(8,.p (zw l)),(9,.p (pI (l.map Obli.pv).length)),(10,.p (pI kk))],[(0,.row 64 3 (L.map Obli.pv))]⟩) l.length ⟨0,0,[],Yl _,rfl,rfl,rfl,rfl⟩ ?_;rintro n s ⟨k,_,L,hk,rfl,rfl,hL,rfl⟩;refine uA ?_;refine uC (fun hlt=>?_) (fun hlt=>?_)
 · refine qh ?_;rw[lm]at hlt;simp only[Yh]at hlt;have hlt':k<l.length:=by omega
   have hs:=dutiesS_take (m:=m) hlt';have hLl:L.length<=k:=by rw[hL];have:=qal (l.take k) m;simp at this;omega
   refine MO ?_;refine U5 ?_;rw[qH hlt'];refine MG ?_;have hd:dutyS m l[k]=bif (l[k].on==1)&&mkE m (2,0)then true else(l[k].on==2)&&mkE m (0,2):=by
    rw[zC hm EG,zC hm EG];unfold dutyS;rw[YN];simp
   refine MT ?_;refine uC (fun hc=>?_) (fun hc=>?_)
   · have hd':dutyS m l[k]=true:=by
      rw[hd];revert hc
      unfold mkE;cases(l[k].on==1)<;>cases(l[k].on==2)<;>simp[hb]
     rw[hd',Yg rfl]at hs;refine uR ?_;refine XA ?_;refine MM ?_;refine⟨_,_,?_,qk [1,5,8,9,10] [(33,0)] rfl rfl,k+1,_,qah (l.take (k+1)) m,hlt',rfl,qu hlt' EM,rfl,?_⟩
     · omega
     · rw[hs,<-hL,Yq];rfl
   · have hd':dutyS m l[k]=false:=by
      rw[hd];revert hc
      unfold mkE;cases(l[k].on==1)<;>cases(l[k].on==2)<;>simp[hb]
     rw[hd',Yc EN]at hs;refine MR ?_;refine⟨_,_,?_,qk [1,5,8,9,10] [(0,0)] rfl rfl,k+1,_,L,hlt',rfl,qu hlt' EM,by rw[hs];exact hL,rfl⟩;omega
 · refine qF ?_;rw[lm]at hlt;simp only[Yk]at hlt;have hkk:k=l.length:=by omega
   subst hkk;rw[Yu]at hL;subst hL;refine MH ?_;exact⟨Or.inr rfl,_,_,[],_,qr (k:=0) rfl,rfl,rfl,.refl _,rfl,rfl⟩
theorem effect_h (r:Rul) (t c:Int) (ho:r.obls.length<=1000000):Holds prog 159 [.agg (zD r),pI t,pI c] (.p (.agg (rsP (effectS r t c)))) []:=by
 obtain⟨id,deny,tg,cond,obls⟩:=r;unfold effectS effM;simp only at ho⊢;refine .ofW ?_;cases deny with
 |true=>
  rw[Yg rfl];refine qx (T:=TTab) qc func159 EF rfl rfl rfl ?_;refine KT ?_;refine uC (fun hd=>?_) (fun hd=>?_)
  · refine M0 ?_;refine MT ?_;refine uC (fun h0=>?_) (fun h0=>?_)
    · have h0':t=0\/(t=2/\c=0):=by
       revert h0
       by_cases a:t=0<;>by_cases b:t=2<;>by_cases d:c=0<;>simp[a,b,d]
      rw[Yg h0'];refine MH ?_;exact Vc
    · have h0':¬(t=0\/(t=2/\c=0)):=by
       revert h0
       by_cases a:t=0<;>by_cases b:t=2<;>by_cases d:c=0<;>simp[a,b,d]
      rw[Yc h0'];refine MT ?_;refine uC (fun h1=>?_) (fun h1=>?_)
      · have h1':t=1\/c=1:=by
         revert h1
         by_cases a:t=1<;>by_cases d:c=1<;>simp[a,d]
        rw[Yg h1'];refine uR ?_;refine uK (mkIndet_h (0,2) EG) ?_;refine MV ?_;exact Vc
      · have h1':¬(t=1\/c=1):=by
         revert h1
         by_cases a:t=1<;>by_cases d:c=1<;>simp[a,d]
        rw[Yc h1'];refine MN ?_;refine uO (duties_h obls ho (0,2) EG) ?_;refine MV ?_;exact XD
  · cases hd
 |false=>
  simp only[YA,if_false];refine qx (T:=TTab) qc func159 EF rfl rfl rfl ?_;refine KT ?_;refine uC (fun hd=>?_) (fun hd=>?_)
  · cases hd
  · refine qh ?_;refine uB ?_;refine MT ?_;refine uC (fun h0=>?_) (fun h0=>?_)
    · have h0':t=0\/(t=2/\c=0):=by
       revert h0
       by_cases a:t=0<;>by_cases b:t=2<;>by_cases d:c=0<;>simp[a,b,d]
      rw[Yg h0'];refine MH ?_;exact Vc
    · have h0':¬(t=0\/(t=2/\c=0)):=by
       revert h0
       by_cases a:t=0<;>by_cases b:t=2<;>by_cases d:c=0<;>simp[a,b,d]
      rw[Yc h0'];refine MT ?_;refine uC (fun h1=>?_) (fun h1=>?_)
      · have h1':t=1\/c=1:=by
         revert h1
         by_cases a:t=1<;>by_cases d:c=1<;>simp[a,d]
        rw[Yg h1'];refine uR ?_;refine uK (mkIndet_h (2,0) EG) ?_;refine MV ?_;exact Vc
      · have h1':¬(t=1\/c=1):=by
         revert h1
         by_cases a:t=1<;>by_cases d:c=1<;>simp[a,d]
        rw[Yc h1'];refine MN ?_;refine uO (duties_h obls ho (2,0) EG) ?_;refine MV ?_;exact XD
theorem ruleR_h (r:Rul) (g:List Giv) (hr:RulFit r) (ht:TarSm r.target) (ho:r.obls.length<=1000000) (hf:∀x∈g,x.Fit) (hn:g.length<=1000000) (hb:∀x∈g,x.bag.length<=1000000):Holds prog 101 [.agg (zD r),jv g] (.p (.agg (rsP (js g r)))) []:=by
 have H1:=metT_h r.target g hr.tgt ht hf hn hb;have H2:=cond_h r.cond g hr.cond hf hn hb;have H3:=effect_h r (metT r.target g) (condS r.cond g) ho;obtain⟨id,deny,tg,cond,obls⟩:=r;unfold js;simp only at H1 H2 H3⊢;generalize metT tg g=t at*;generalize condS cond g=c at*;refine .ofW ?_;refine qx (T:=TTab) qc func101 EF rfl rfl rfl ?_;refine uA ?_;refine uD [4] [1,3,5,7,11,13,15,8,16,18,20] ?_;refine uk H1 ?_;refine uk H2 ?_;refine uo H3 ?_;refine zg ?_;refine uQ ?_;exact XD
theorem wk_nilc {st:St} (j i d:Nat) (e:TypeId) (z:Nat) {cs:List SV} (hj:lk j st.own=some (.cells cs)) (hi:cs[i]?=some (.p (.v (.slice none 0 0)))) (hd:lk d st.own=none) (hdl:Nat.blt d 1000000=true:=by rfl):
 Wk st ⟨st.n,st.fr,setB j (.cells (cs.set i (.row d))) ((d,.row e z [])::st.own)⟩:=fun w0 Sx γ a w hI=>by
 have hbx:BoxOk w0 Sx (upd γ d (.slice none 0 0)) ((d,.row e z [])::st.own) w d (.row e z []):=by
  refine .row ?_ EN (Yl _) (fun b hb=>by simp[upd,zb]at hb);rw[show upd γ d (.slice none 0 0) d=.slice none 0 0 from Yg rfl];exact rowO_nil
 obtain⟨h1,h2,h3,_⟩:=hI.heap.add (Below.refl _ w) hd (by simpa [Nat.blt,YJ]using hdl) (g:=.slice none 0 0) (fun b hb=>by cases hb) hbx;have hdj:j≠d:=fun h=>by subst h;rw[hj]at hd;cases hd
 have hI1:Sim w0 Sx (upd γ d (.slice none 0 0)) ⟨st.n,st.fr,(d,.row e z [])::st.own⟩ a w:=by
  refine⟨hI.below,hI.size,hI.defers,fun k s hk=>?_,h1⟩;have hr:=hI.fr k s hk;refine hr.keep2 (Yj _) (fun b hb hok=>⟨rfl,h2 b hb hok⟩) fun i hi=>h3 i fun e=>?_
  subst e;rw[hr.live (jM hd)]at hi;cases hi
 have hj1:lk j ((d,Box.row e z [])::st.own)=some (.cells cs):=by rw[qK,Yc hdj];exact hj
 cases hI1.heap.box j _ hj1 with
 |@cells _ us ty b hg hB hh hl h hone=>
  have:=hI1.setBox (bx':=.cells (cs.set i (.row d))) hj1 (b:=b) EC (Below.refl 0 w) (fun _ _=>rfl) (fun own' e1 e2 e3=>.cells (us:=us) hg hB hh Ek (fun k s u hs hu=>by
   by_cases hk:k=i
   · subst hk;have hkl:k<cs.length:=(Yr.1 hi).1;rw[List.getElem?_set_self hkl]at hs;cases hs;have h0:=(h k _ u hi hu).v_inv;rw[h0];exact e3 (.row LK)
   · rw[List.getElem?_set_ne (Ne.symm hk)]at hs;exact e3 (h k s u hs hu)) hone)
  exact⟨_,this.1⟩
def oblN (l:List Rs):Nat:=qP (fun x=>x.obls.length) l
theorem oblN_take {l:List Rs} {k:Nat} (h:k<l.length):oblN (l.take (k+1))=oblN (l.take k)+l[k].obls.length:=sumBy_step h
theorem oblN_le (l:List Rs) (k:Nat):oblN (l.take k)<=oblN l:=sumBy_take _ l k
theorem rs_app (M:Mk) (a b:List Obli):rsP ⟨M,a++b⟩=[mkP M,.sl 3 (a.map Obli.pv++b.map Obli.pv)]:=by
 unfold rsP;simp only;rw[show zw (a++b)=.sl 3 ((a++b).map Obli.pv)from rfl,Yq]
def joinXe (alg:Int) (obls:List Obli) (M:Mk) (t:Int) (parts:List Rs):Rs:=
 if t=0 then⟨(0,0),[]⟩else if t=1 then⟨indetM M,[]⟩
 else if M≠(2,0)/\M≠(0,2)then⟨M,[]⟩else⟨M,qax alg M parts++qah obls M⟩
theorem join_h (p:Pol) (t:Int) (parts:List Rs) (hn:parts.length<=1000000) (hm:∀x∈parts,x.m∈mks) (ho:oblN parts<=500000) (hp:p.obls.length<=500000):Holds prog 102 [.agg (polP p),pI t,rssP parts] (.p (.agg (rsP (joinR p t parts)))) []:=by
 obtain⟨id,set,alg,tg,rules,kids,obls⟩:=p;have lp:(parts.map rsP).length=parts.length:=by simp
 replace hp:obls.length<=500000:=hp
 have hM:allM alg (parts.map Rs.m)∈mks:=allM_mem fun m h=>by
  obtain⟨x,hx,rfl⟩:=YY.1 h;exact hm x hx
 have HC:=combAll_h alg (parts.map Rs.m) (by simpa using hn) (fun m h=>by
  obtain⟨x,hx,rfl⟩:=YY.1 h;exact hm x hx)
 rw[show joinR (.mk id set alg tg rules kids obls) t parts=joinXe alg obls (allM alg (parts.map Rs.m)) t parts from rfl,zd];simp only[Pol.id,Pol.set,Pol.alg,Pol.target,Pol.rules,Pol.kids,Pol.obls];obtain⟨M,hMe⟩:∃M,M=allM alg (parts.map Rs.m):=⟨_,rfl⟩;rw[<-hMe]at hM HC⊢;clear hMe
 unfold joinXe;refine .ofW ?_;refine qx (T:=TTab) qc func102 EF rfl rfl rfl ?_;refine KB ?_;refine SW.wk (zt 7 900 55 1 rfl rfl) ?_;refine uZ [1,2,3,6,7,15,16,17] [(3,3),(6,6),(900,0)] ?_;refine qI (fun n s=>∃(k:Nat) (kk:Int),k<=parts.length/\n=parts.length-k/\kk=k/\s=⟨84,[(1,.p (pI t)),(2,.p (rssP parts)),(3,.ptr 3 0),(6,.ptr 6 0),(7,.row 0),(15,.p (rssP parts)),(16,.p (pI (parts.map rsP).length)),(17,.p (pI kk))],[(3,.cells [.p (pS id),.p (pB set),.p (pI alg),.p (tgtP tg),.p (.sl 5 (rules.map zD)),.p (.sl 7 (kids.map polP)),.p (zw obls)]),(6,.cells [.p (.v (.complex .f64 0 0)),.p nilV]),(0,.row 55 1 (((parts.take k).map Rs.m).map fun m=>[mkP m]))]⟩) parts.length ⟨0,0,Yl _,rfl,rfl,rfl⟩ ?_;rintro n s ⟨k,_,hk,rfl,rfl,rfl⟩;refine uA ?_;refine uC (fun hlt=>?_) (fun hlt=>?_)
 · refine qh ?_;rw[lp]at hlt;simp only[Yh]at hlt;have hlt':k<parts.length:=by omega
   obtain⟨x,hx⟩:∃x,x=parts[k]:=⟨_,rfl⟩;refine MO ?_;refine qm qc rfl rfl (by rw[lp];omega) rfl ?_;rw[qH hlt',<-hx];refine ML ?_;refine XA ?_;refine MM ?_;refine⟨_,_,?_,qk [1,2,3,6,7,15,16,17] [(3,3),(6,6),(25,0)] rfl rfl,k+1,_,hlt',rfl,qu hlt' EM,?_⟩
   · omega
   · rw[Ym hlt',<-hx,Yq,Yq];rfl
 · refine qF ?_;rw[lp]at hlt;simp only[Yk]at hlt;have hkk:k=parts.length:=by omega
   subst hkk;rw[Yu];refine uR ?_;refine uK HC ?_;refine qe ?_;refine MQ ?_;refine uC (fun c0=>?_) (fun c0=>?_)
   · have e:t=0:=by simpa using c0
     rw[Yg e];refine MH ?_;exact Vc
   have n0:¬t=0:=by simpa using c0
   rw[Yc n0];refine uA ?_;refine uC (fun c1=>?_) (fun c1=>?_)
   · have e:t=1:=by simpa using c1
     rw[Yg e];refine uR ?_;refine uK (mkIndet_h M hM) ?_;refine MV ?_;exact Vc
   have n1:¬t=1:=by simpa using c1
   rw[Yc n1];have hP:mkE M (2,0)=decide (M=(2,0)):=zC hM EG;have hD:mkE M (0,2)=decide (M=(0,2)):=zC hM EG;refine MT ?_;refine uC (fun c2=>?_) (fun c2=>?_)
   · have e:M≠(2,0)/\M≠(0,2):=by
      change(bif !mkE M (2,0)then !mkE M (0,2)else false)=true at c2;rw[hP,hD]at c2;revert c2
      by_cases a:M=(2,0)<;>by_cases b:M=(0,2)<;>simp[a,b]
     rw[Yg e];refine MH ?_;exact Vc
   have e:¬(M≠(2,0)/\M≠(0,2)):=by
    change(bif !mkE M (2,0)then !mkE M (0,2)else false)=false at c2;rw[hP,hD]at c2;revert c2
    by_cases a:M=(2,0)<;>by_cases b:M=(0,2)<;>simp[a,b]
   rw[Yc e];refine qh ?_;refine MY ?_;refine SW.wk (wk_nilc 12 1 900 64 3 rfl rfl rfl) ?_;refine uZ [3,6,10,12,55,56,57] [(3,3),(6,6),(12,12),(900,0)] ?_;refine qI (fun n s=>∃(k:Nat) (kk:Int) (acc:List Obli),k<=parts.length/\n=parts.length-k/\kk=k/\acc.length<=oblN (parts.take k)/\qax alg M parts=acc++qax alg M (parts.drop k)/\s=⟨84,[(3,.ptr 3 0),(6,.ptr 6 0),(10,.p (mkP M)),(12,.ptr 12 0),(55,.p (rssP parts)),(56,.p (pI (parts.map rsP).length)),(57,.p (pI kk))],[(3,.cells [.p (pS id),.p (pB set),.p (pI alg),.p (tgtP tg),.p (.sl 5 (rules.map zD)),.p (.sl 7 (kids.map polP)),.p (zw obls)]),(6,.cells [.p (.v (.complex .f64 0 0)),.p nilV]),(12,.cells [.p (mkP M),.row 0]),(0,.row 64 3 (acc.map Obli.pv))]⟩) parts.length ⟨0,0,[],Yl _,rfl,rfl,Yl _,rfl,rfl⟩ ?_;rintro n s ⟨k,_,acc,hk,rfl,rfl,hacc,hfin,rfl⟩;have htk:=oblN_le parts k;refine uA ?_;refine uC (fun hlt=>?_) (fun hlt=>?_)
   · refine qh ?_;rw[lp]at hlt;simp only[Yh]at hlt;have hlt':k<parts.length:=by omega
     have hs:=oblN_take hlt';have htk2:=oblN_le parts (k+1);have hxm:=hm _ (Yp hlt');rw[Xg hlt',qax]at hfin;refine MO ?_;refine qm qc rfl rfl (by rw[lp];omega) rfl ?_;rw[qH hlt'];refine MG ?_;generalize parts[k]=x at*;have hE:mkE x.m M=decide (x.m=M):=zC hxm hM;refine uA ?_;refine uC (fun cx=>?_) (fun cx=>?_)
     · have e:¬x.m=M:=by
        change(!mkE x.m M)=true at cx;rw[hE]at cx;simpa using cx
       rw[Yc e]at hfin;refine qF ?_;refine uA ?_;refine⟨_,_,?_,qk [3,6,10,12,55,56,57] [(3,3),(6,6),(12,12),(0,0)] rfl rfl,k+1,_,acc,hlt',rfl,qu hlt' EM,by omega,hfin,rfl⟩;omega
     · have e:x.m=M:=by
        change(!mkE x.m M)=false at cx;rw[hE]at cx;simpa using cx
       rw[Yg e]at hfin;refine MN ?_;refine XA ?_;refine MM ?_;refine uC (fun c3=>?_) (fun c3=>?_)
       · have e3:alg=3:=by simpa using c3
         rw[Yg e3]at hfin;refine qF ?_;obtain⟨acc2,ha2⟩:∃acc2,acc2=acc++x.obls:=⟨_,rfl⟩;have hl2:acc2.length=acc.length+x.obls.length:=by rw[ha2,Ya]
         rw[<-ha2]at hfin;refine uZ [3,6,10,12] [(3,3),(6,6),(12,12),(69,69)] ?_;have eL:acc.map Obli.pv++x.obls.map Obli.pv=acc2.map Obli.pv:=by rw[ha2,Yq]
         change SW _ _ _ ⟨84,[(3,.ptr 3 0),(6,.ptr 6 0),(10,.p (mkP M)),(12,.ptr 12 0)],[(3,.cells [.p (pS id),.p (pB set),.p (pI alg),.p (tgtP tg),.p (.sl 5 (rules.map zD)),.p (.sl 7 (kids.map polP)),.p (zw obls)]),(6,.cells [.p (.v (.complex .f64 0 0)),.p nilV]),(12,.cells [.p (mkP M),.row 69]),(69,.row 64 3 (acc.map Obli.pv++x.obls.map Obli.pv))]⟩;rw[eL];have hacc2:acc2.length<=1000000:=by omega
         have hdl:=qal obls M;refine Rr ?_;refine qi (i:=0) (K:=[12,69]) EF EF rfl rfl (qf qc rfl Ee) rfl ?_;refine XS ?_;refine qi (i:=2) (K:=[12,69]) EF EF rfl rfl (qf qc rfl Ee) rfl ?_;refine qi (i:=3) (K:=[12,69]) EF EF rfl rfl (qf qc rfl Ee) rfl ?_;refine qi (i:=4) (K:=[12,69]) EF EF rfl rfl (qf qc rfl Ee) rfl ?_;refine VG ?_;refine qd rfl rfl rfl (qt rfl rfl rfl rfl ((duties_h obls EM M hM)) rfl rfl rfl ?_);refine Gv ?_;refine XI ?_;refine qi (i:=7) (K:=[12,69]) EF EF rfl rfl (qf qc rfl Ee) rfl ?_;refine V6 ?_;refine KN ?_;refine SW.wk (qk [3,6,12] [(3,3),(6,6),(12,12),(81,81)] rfl rfl) ?_;refine ?fk22_185;rotate_left;refine MH ?_;rw[hfin,rs_app];exact⟨Or.inr rfl,_,_,[],_,qr (k:=81) rfl,rfl,rfl,.refl _,rfl,rfl⟩
       · have e3:¬alg=3:=by simpa using c3
         rw[Yc e3]at hfin;refine MR ?_;refine⟨_,_,?_,qk [3,6,10,12,55,56,57] [(3,3),(6,6),(12,12),(69,0)] rfl rfl,k+1,_,acc++x.obls,hlt',rfl,qu hlt' EM,by rw[Ya];omega,by rw[YU];exact hfin,?_⟩
         · omega
         · rw[Yq];rfl
   · refine qF ?_;rw[lp]at hlt;simp only[Yk]at hlt;have hkk:k=parts.length:=by omega
     subst hkk;rw[List.drop_length,qax,Xa]at hfin;obtain⟨acc2,ha2⟩:∃acc2,acc2=acc:=⟨_,rfl⟩;rw[<-ha2]at hfin hacc⊢;have hacc2:acc2.length<=1000000:=by omega
     have hdl:=qal obls M;refine Rr ?_;refine qi (i:=0) (K:=[12,0]) EF EF rfl rfl (qf qc rfl Ee) rfl ?_;refine XS ?_;refine qi (i:=2) (K:=[12,0]) EF EF rfl rfl (qf qc rfl Ee) rfl ?_;refine qi (i:=3) (K:=[12,0]) EF EF rfl rfl (qf qc rfl Ee) rfl ?_;refine qi (i:=4) (K:=[12,0]) EF EF rfl rfl (qf qc rfl Ee) rfl ?_;refine VG ?_;refine qd rfl rfl rfl (qt rfl rfl rfl rfl ((duties_h obls EM M hM)) rfl rfl rfl ?_);refine Gv ?_;refine XI ?_;refine qi (i:=7) (K:=[12,0]) EF EF rfl rfl (qf qc rfl Ee) rfl ?_;refine V6 ?_;refine KN ?_;refine SW.wk (qk [3,6,12] [(3,3),(6,6),(12,12),(81,81)] rfl rfl) ?_;refine ?fk22_223;rotate_left;refine MH ?_;rw[hfin,rs_app];exact⟨Or.inr rfl,_,_,[],_,qr (k:=81) rfl,rfl,rfl,.refl _,rfl,rfl⟩
theorem partsO_len (alg:Int) (m:Mk):∀l:List Rs,(qax alg m l).length<=oblN l
 |[]=>Yj _
 |x::l=>by
  have ih:=partsO_len alg m l;have e:oblN (x::l)=x.obls.length+oblN l:=by unfold oblN qP;rw[Y1,List.sum_cons]
  rw[qax,e];split
  · split
    · omega
    · rw[Ya];omega
  · omega
theorem oblN_append (a b:List Rs):oblN (a++b)=oblN a+oblN b:=by unfold oblN qP;rw[List.map_append,List.sum_append]
theorem oblN_map {α:Type} {f:α->Rs} {c:α->Nat} (h:∀x,(f x).obls.length<=c x):∀l:List α,oblN (l.map f)<=qP c l
 |[]=>Yj _
 |x::l=>by
  have ih:=oblN_map h l;have h1:=h x;unfold oblN qP at ih⊢;rw[Y1,Y1,List.sum_cons,Y1,List.sum_cons];omega
theorem effectS_len (r:Rul) (t c:Int):(effectS r t c).obls.length<=r.obls.length:=by
 unfold effectS
 repeat' split
 · exact Yl _
 · exact Yl _
 · exact qal _ _
theorem ruleR_len (g:List Giv) (r:Rul):(js g r).obls.length<=rusz r:=by
 have h1:=effectS_len r (metT r.target g) (condS r.cond g);have h2:r.obls.length<=osz r.obls:=by unfold osz;omega
 have h3:rusz r=txt r.id+tsz r.target+r.cond.length+osz r.obls+qP nsz r.cond:=rfl;unfold js;omega
theorem parts_len (g:List Giv) (n:Nat) (h:∀p,(qR g n p).obls.length<=p.sz) (p:Pol):oblN (p.rules.map (js g)++p.kids.map (qR g n))+p.obls.length<=p.sz:=by
 have h1:=Pol.sz_eq p;have h2:=oblN_map (ruleR_len g) p.rules;have h3:=oblN_map h p.kids;have h4:p.obls.length<=osz p.obls:=by unfold osz;omega
 rw[oblN_append];omega
theorem qaV (g:List Giv):∀(n:Nat) (p:Pol),(qR g n p).obls.length<=p.sz
 |0,p=>Yl _
 |n+1,p=>by
  have h1:=parts_len g n (qaV g n) p;rw[qR];split
  · exact Yl _
  · unfold joinR
    repeat' split
    · exact Yl _
    · exact Yl _
    · exact Yl _
    · have h2:=partsO_len p.alg (allM p.alg ((p.rules.map (js g)++p.kids.map (qR g n)).map Rs.m)) (p.rules.map (js g)++p.kids.map (qR g n));have h3:=qal p.obls (allM p.alg ((p.rules.map (js g)++p.kids.map (qR g n)).map Rs.m));simp only[Ya];omega
theorem tarSm_sz {t:Tar} {n:Nat} (h:tsz t<=n) (hn:n<=500000):TarSm t:=by
 refine⟨by unfold tsz at h;omega,fun x hx=>?_⟩;have h1:=xsz_le hx;refine⟨by unfold xsz at h1;omega,fun y hy=>?_⟩;have h4:asz y<=xsz x:=by have:=sumBy_le (f:=asz) hy;unfold xsz;omega
 unfold asz at h4;omega
theorem sz_big {p:Pol} {n:Nat} (h:p.sz<=n) (hn:n<=500000):TarSm p.target/\p.rules.length<=500000/\p.kids.length<=500000/\p.obls.length<=500000/\(∀r∈p.rules,TarSm r.target/\r.cond.length<=500000/\r.obls.length<=500000)/\∀k∈p.kids,k.sz<=n:=by
 have h1:=Pol.sz_eq p;have h2:=len_sumBy Pol.sz (fun p=>by rw[Pol.sz_eq];omega) p.kids;have h3:p.obls.length<=osz p.obls:=by unfold osz;omega
 refine⟨tarSm_sz (n:=n) EM hn,by omega,by omega,by omega,fun r hr=>?_,fun k hk=>?_⟩
 · have h4:=sumBy_le (f:=rusz) hr;have h5:r.obls.length<=osz r.obls:=by unfold osz;omega
   have h6:rusz r=txt r.id+tsz r.target+r.cond.length+osz r.obls+qP nsz r.cond:=rfl;exact⟨tarSm_sz (n:=n) EM hn,by omega,by omega⟩
 · have:=sumBy_le (f:=Pol.sz) hk;omega
def DecOk (g:List Giv) (n:Nat):Prop:=∀(p:Pol),PolF n p->p.sz<=500000->Holds prog 52 [.agg (polP p),jv g] (.p (.agg (rsP (qR g n p)))) []
theorem dec_step {g:List Giv} (hg:GivOk g) (n:Nat) (IH:DecOk g n):DecOk g (n+1):=by
 intro p hf hsz;obtain⟨ht,hr,hk,ho,hru,hks⟩:=sz_big hsz (Yj _);have hpl:=parts_len g n (qaV g n) p;have HK:=fun k (hk:k∈p.kids)=>IH k (hf.2.2 k hk) (hks k hk)
 have HM:=metT_h p.target g hf.1.tgt ht hg.fit hg.len hg.bags;have HR:=fun r (hr:r∈p.rules)=>ruleR_h r g (hf.1.rules r hr) (hru r hr).1 (by have:=(hru r hr).2.2;omega) hg.fit hg.len hg.bags
 have HJ:=join_h p (metT p.target g) (p.rules.map (js g)++p.kids.map (qR g n)) ED (fun x hx=>by
  rcases YH.1 hx with hx|hx
  · obtain⟨r,_,rfl⟩:=YY.1 hx;exact effectS_mem _ _ _
  · obtain⟨k,_,rfl⟩:=YY.1 hx;exact qbi g n k) EM EM
 have eD:qR g (n+1) p=if metT p.target g=0 then noRs else joinR p (metT p.target g) (p.rules.map (js g)++p.kids.map (qR g n)):=rfl
 rw[eD];clear eD
 rw[zd]at HJ⊢;generalize metT p.target g=t at*;obtain⟨id,set,alg,tg,rules,kids,obls⟩:=p;simp only[Pol.id,Pol.set,Pol.alg,Pol.target,Pol.rules,Pol.kids,Pol.obls]at*;have l1:((rules.map zD).length)=rules.length:=by simp
 have l2:((kids.map polP).length)=kids.length:=by simp
 refine .ofW ?_;refine qx (T:=TTab) qc func52 EF rfl rfl rfl ?_;refine MI ?_;refine uK HM ?_;refine MX ?_;refine uC (fun h0=>?_) (fun h0=>?_)
 · have e:t=0:=by simpa using h0
   rw[Yg e];refine MH ?_;exact Vc
 have n0:¬t=0:=by simpa using h0
 rw[Yc n0];refine qh ?_;refine MY ?_;refine SW.wk (zt 6 900 57 2 rfl rfl) ?_;refine uZ [1,2,4,5,6,19,20,21] [(2,2),(4,4),(900,0)] ?_;refine qI (fun m s=>∃(k:Nat) (kk:Int),k<=rules.length/\m=rules.length-k/\kk=k/\s=⟨50,[(1,.p (jv g)),(2,.ptr 2 0),(4,.ptr 4 0),(5,.p (pI t)),(6,.row 0),(19,.p (.sl 5 (rules.map zD))),(20,.p (pI (rules.map zD).length)),(21,.p (pI kk))],[(2,.cells [.p (pS id),.p (pB set),.p (pI alg),.p (tgtP tg),.p (.sl 5 (rules.map zD)),.p (.sl 7 (kids.map polP)),.p (zw obls)]),(4,.cells [.p (.v (.complex .f64 0 0)),.p nilV]),(0,.row 57 2 (((rules.take k).map (js g)).map rsP))]⟩) rules.length ⟨0,0,Yl _,rfl,rfl,rfl⟩ ?_;rintro m s ⟨k,_,hk',rfl,rfl,rfl⟩;refine uA ?_;refine uC (fun hlt=>?_) (fun hlt=>?_)
 · refine qh ?_;rw[l1]at hlt;simp only[Yh]at hlt;have hlt':k<rules.length:=by omega
   have H:=HR _ (Yp hlt');obtain⟨x,hx⟩:∃x,x=rules[k]:=⟨_,rfl⟩;rw[<-hx]at H;refine MO ?_;refine qm qc rfl rfl (by rw[l1];omega) rfl ?_;rw[qH hlt',<-hx];refine ML ?_;refine uO H ?_;refine XA ?_;refine MM ?_;refine⟨_,_,?_,qk [1,2,4,5,6,19,20,21] [(2,2),(4,4),(30,0)] rfl rfl,k+1,_,hlt',rfl,qu hlt' EM,?_⟩
   · omega
   · rw[Ym hlt',<-hx,Yq,Yq];rfl
 · refine qF ?_;rw[l1]at hlt;simp only[Yk]at hlt;have hkk:k=rules.length:=by omega
   subst hkk;rw[Yu];refine M0 ?_;refine uZ [1,2,4,5,6,33,34,35] [(2,2),(4,4),(0,0)] ?_;refine qI (fun m s=>∃(k:Nat) (kk:Int) (L:List Rs),k<=kids.length/\m=kids.length-k/\kk=k/\L=rules.map (js g)++(kids.take k).map (qR g n)/\s=⟨50,[(1,.p (jv g)),(2,.ptr 2 0),(4,.ptr 4 0),(5,.p (pI t)),(6,.row 0),(33,.p (.sl 7 (kids.map polP))),(34,.p (pI (kids.map polP).length)),(35,.p (pI kk))],[(2,.cells [.p (pS id),.p (pB set),.p (pI alg),.p (tgtP tg),.p (.sl 5 (rules.map zD)),.p (.sl 7 (kids.map polP)),.p (zw obls)]),(4,.cells [.p (.v (.complex .f64 0 0)),.p nilV]),(0,.row 57 2 (L.map rsP))]⟩) kids.length ⟨0,0,rules.map (js g),Yl _,rfl,rfl,by simp,rfl⟩ ?_;rintro m s ⟨k,_,L,hk',rfl,rfl,hL,rfl⟩;have hLl:L.length=rules.length+min k kids.length:=by rw[hL];simp
   refine uA ?_;refine uC (fun hlt=>?_) (fun hlt=>?_)
   · refine qh ?_;rw[l2]at hlt;simp only[Yh]at hlt;have hlt':k<kids.length:=by omega
     have H:=HK _ (Yp hlt');obtain⟨x,hx⟩:∃x,x=kids[k]:=⟨_,rfl⟩;rw[<-hx,zd]at H;refine MO ?_;refine GC ?_;rw[qH hlt',<-hx,zd];refine ML ?_;refine uO H ?_;refine XA ?_;refine MM ?_;refine⟨_,_,?_,qk [1,2,4,5,6,33,34,35] [(2,2),(4,4),(44,0)] rfl rfl,k+1,_,L++[qR g n x],hlt',rfl,qu hlt' EM,?_,?_⟩
     · omega
     · rw[hL,YU,Ym hlt',Yq,<-hx];rfl
     · rw[Yq];rfl
   · refine qF ?_;rw[l2]at hlt;simp only[Yk]at hlt;have hkk:k=kids.length:=by omega
     subst hkk;rw[Yu]at hL;rw[<-hL]at HJ⊢;refine V3 ?_;refine uR ?_;refine uO HJ ?_;refine MV ?_;exact XD
theorem dec_all {g:List Giv} (hg:GivOk g):∀n,DecOk g n
 |0=>fun _ h=>h.elim
 |n+1=>dec_step hg n (dec_all hg n)
theorem polF_dp:∀{n:Nat} {p:Pol},PolF n p->Dp n p
 |n+1,p,h=>fun k hk=>polF_dp (h.2.2 k hk)
theorem decideS_any (g:List Giv) {n m:Nat} {p:Pol} (hn:Dp n p) (hm:Dp m p):qR g n p=qR g m p:=by
 rcases Nat.le_total n m with h|h
 · exact(decideS_dp g hn h).symm
 · exact decideS_dp g hm h
theorem evPol_h {n:Nat} (p:Pol) (hf:PolF n p) (hsz:p.sz<=500000) (g:List Giv) (hg:GivOk g):Holds prog 21 [.agg (polP p),jv g] (.tup [.p (.agg (rsP (ji p g).1)),.p (pI (ji p g).2)]) []:=by
 have HR:=right_h p (polF_fit 4 hf);have HD:=dec_all hg n p hf hsz;unfold ji;by_cases h:zO p=0
 · rw[Yg h];rw[decideS_any g (polF_dp hf) (right_dp h)]at HD;rw[h]at HR;generalize qR g 4 p=x at*;rw[zd]at HR HD⊢;refine .ofW ?_;refine qx (T:=TTab) qc func21 EF rfl rfl rfl ?_;refine MI ?_;refine uK HR ?_;refine qe ?_;refine uC (fun hc=>?_) (fun hc=>?_)
   · cases hc
   refine MN ?_;refine uO HD ?_;refine MV ?_;exact XD
 · rw[Yc h];rw[zd]at HR⊢;refine .ofW ?_;refine qx (T:=TTab) qc func21 EF rfl rfl rfl ?_;refine MI ?_;refine uK HR ?_;rw[show(zO p !=0)=true by simpa using h];refine qe ?_;refine uC (fun hc=>?_) (fun hc=>?_)
   · refine MH ?_;exact Gb
   · cases hc
end
section
abbrev Bs:=List UInt8
def qX (c:UInt8):Bool:=decide (48<=c.toNat)&&decide (c.toNat<=57)
def jD (c:UInt8):Bool:=decide (97<=c.toNat)&&decide (c.toNat<=122)
def zY (c:UInt8):Bool:=jD c||qX c||decide (c.toNat=95)
def jF (c:UInt8):Bool:=decide (32<=c.toNat)&&decide (c.toNat<=126)&&decide (c.toNat≠34)&&decide (c.toNat≠92)
def hexB (c:UInt8):Option Nat:=if qX c then some (c.toNat-48)else if 97<=c.toNat/\c.toNat<=102 then some (c.toNat-87)else none
def markB (c:UInt8):Bool:=[123,125,40,41,46,44,59,61,60,62,33].contains c.toNat
def decV (l:Bs):Nat:=l.foldl (fun n c=>10*n+(c.toNat-48)) 0
def magL (l:Bs):Option (Nat×Nat):=
 if(l.takeWhile qX).length=0\/(1<(l.takeWhile qX).length/\(l.head?.map (·.toNat))=some 48)then none else some (decV (l.takeWhile qX),(l.takeWhile qX).length)
def wY:Bs->Option (Bs×Nat)
 |[]=>none
 |c::r=>
  if c.toNat=34 then some ([],1)
  else if jF c then(wY r).map fun p=>(c::p.1,p.2+1)
  else if c.toNat=92 then(match r with
   |h::l::r'=>match hexB h,hexB l with
    |some a,some b=>if jF (UInt8.ofNat (16*a+b))then none else(wY r').map fun p=>(UInt8.ofNat (16*a+b)::p.1,p.2+3)
    |_,_=>none
   |_=>none)
  else none
def oddT (r:Bs):Option (Bs×Nat):=match r with
 |h::l::r'=>(match hexB h,hexB l with
  |some a,some b=>if jF (UInt8.ofNat (16*a+b))then none else(wY r').map fun p=>(UInt8.ofNat (16*a+b)::p.1,p.2+3)
  |_,_=>none)
 |_=>none
theorem qaf (c:UInt8) (r:Bs):wY (c::r)=if c.toNat=34 then some ([],1)else if jF c then(wY r).map (fun p=>(c::p.1,p.2+1))else if c.toNat=92 then oddT r else none:=by
 cases r with
 |nil=>simp[wY,oddT]
 |cons x r=>cases r with
  |nil=>simp[wY,oddT]
  |cons y r=>simp only[wY,oddT]
structure TokP where
 kind:Int
 n:Int
 s:Bs
 len:Nat
 deriving DecidableEq
def wQ (l:Bs):Bs:=l.takeWhile zY
def nameL (l:Bs):Bool:=(match l with|[]=>false|c::_=>jD c)&&l.all zY&&decide (l.length<=16)
def tokL:Bs->Option TokP
 |[]=>none
 |c::r=>
  if jD c then(if(wQ (c::r)).length<=16 then some ⟨1,0,wQ (c::r),(wQ (c::r)).length⟩else none)
  else if qX c then(match magL (c::r)with|some (m,k)=>if m<9223372036854775808 then some ⟨2,m,[],k⟩else none|none=>none)
  else if c.toNat=45 then(match magL r with|some (m,k)=>if m≠0/\m<=9223372036854775808 then some ⟨2, -m,[],k+1⟩else none|none=>none)
  else if c.toNat=64 then(match magL r with|some (m,k)=>if m<=1099511627776 then some ⟨3,m,[],k+1⟩else none|none=>none)
  else if c.toNat=35 then(if nameL (wQ r)then some ⟨4,0,wQ r,(wQ r).length+1⟩else none)
  else if c.toNat=34 then(match wY r with|some (t,k)=>if t.length<=64 then some ⟨5,0,t,k+1⟩else none|none=>none)
  else if markB c then some ⟨6,0,[c],1⟩else none
structure Tok where
 kind:Int
 at_:Nat
 n:Int
 s:Bs
 deriving DecidableEq
def TokP.at_ (t:TokP) (k:Nat):Tok:=⟨t.kind,k,t.n,t.s⟩
def blankB (c:UInt8):Bool:=decide (c.toNat=32)||decide (c.toNat=10)
def lexF:Nat->Nat->Bs->Except Nat (List Tok)
 |0,k,_=>.error k
 |_+1,k,[]=>.ok [⟨7,k,0,[]⟩]
 |f+1,k,c::r=>if blankB c then lexF f (k+1) r else match tokL (c::r)with
  |none=>.error k
  |some t=>match lexF f (k+t.len) ((c::r).drop t.len)with
   | .ok l=>.ok (t.at_ k::l)
   | .error e=>.error e
def lexL (l:Bs):Except Nat (List Tok):=lexF (l.length+1) 0 l
theorem jg {α:Type} (p:α->Bool):∀l:List α,(l.takeWhile p).length<=l.length
 |[]=>Yj _
 |x::l=>by
  rw[List.takeWhile_cons];split
  · have:=jg p l;simp;omega
  · simp
theorem magL_len {l:Bs} {m k:Nat} (h:magL l=some (m,k)):1<=k/\k<=l.length:=by
 unfold magL at h;split at h
 · cases h
 · rename_i hc;cases h;have:=jg qX l;refine⟨?_,this⟩;have:¬(l.takeWhile qX).length=0:=fun h=>hc (.inl h)
   omega
theorem textL_len:∀{l:Bs} {t:Bs} {k:Nat},wY l=some (t,k)->1<=k/\k<=l.length
 |[],t,k,h=>by cases h
 |c::r,t,k,h=>by
  rw[qaf]at h;split at h
  · cases h;simp
  · split at h
    · cases hr:wY r with
      |none=>rw[hr]at h;cases h
      |some p=>
       rw[hr]at h;cases h;have:=textL_len (t:=p.1) (k:=p.2) hr;simp;omega
    · split at h
      · match r,h with
        |x::y::r',h=>
         rw[oddT]at h;split at h
         · split at h
           · cases h
           · cases hr:wY r' with
             |none=>rw[hr]at h;cases h
             |some p=>
              rw[hr]at h;cases h;have:=textL_len (t:=p.1) (k:=p.2) hr;simp;omega
         · cases h
      · cases h
theorem wW:∀{l:Bs} {t:TokP},tokL l=some t->1<=t.len/\t.len<=l.length
 |c::r,t,h=>by
  rw[tokL]at h;split at h
  · rename_i hc;split at h
    · cases h;refine⟨?_,jg _ _⟩;have:zY c=true:=by simp[zY,hc]
      simp[wQ,List.takeWhile_cons,this]
    · cases h
  · split at h
    · split at h
      · rename_i m k hm;split at h
        · cases h;exact magL_len hm
        · cases h
      · cases h
    · split at h
      · split at h
        · rename_i m k hm;split at h
          · cases h;have:=magL_len hm;simp;omega
          · cases h
        · cases h
      · split at h
        · split at h
          · rename_i m k hm;split at h
            · cases h;have:=magL_len hm;simp;omega
            · cases h
          · cases h
        · split at h
          · split at h
            · cases h;have:=jg zY r;simp[wQ];omega
            · cases h
          · split at h
            · split at h
              · rename_i m k hm;split at h
                · cases h;have:=textL_len hm;simp;omega
                · cases h
              · cases h
            · split at h
              · cases h;simp
              · cases h
theorem lexF_fuel:∀{f g k:Nat} {l:Bs},l.length<f->l.length<g->lexF f k l=lexF g k l
 |f+1,g+1,k,[],_,_=>rfl
 |f+1,g+1,k,c::r,hf,hg=>by
  simp only[Yf]at hf hg;rw[lexF,lexF];split
  · exact lexF_fuel EM EM
  · cases ht:tokL (c::r)with
    |none=>rfl
    |some t=>
     have h1:=wW ht;simp only[Yf]at h1;simp only;rw[lexF_fuel (f:=f) (g:=g) ED ED]
def Tok.shift (d:Nat) (t:Tok):Tok:=⟨t.kind,t.at_+d,t.n,t.s⟩
theorem lexF_ok_ne:∀{f k:Nat} {l:Bs} {a:List Tok},lexF f k l=.ok a->a≠[]
 |f+1,k,[],a,h=>by cases h;simp
 |f+1,k,c::r,a,h=>by
  rw[lexF]at h;split at h
  · exact lexF_ok_ne h
  · split at h
    · cases h
    · split at h
      · cases h;simp
      · cases h
theorem lexL_end:∀{f k:Nat} {l:Bs} {a:List Tok},lexF f k l=.ok a->a.getLast?=some ⟨7,k+l.length,0,[]⟩
 |f+1,k,[],a,h=>by cases h;rfl
 |f+1,k,c::r,a,h=>by
  rw[lexF]at h;split at h
  · rw[lexL_end h];simp;omega
  · cases ht:tokL (c::r)with
    |none=>rw[ht]at h;cases h
    |some t=>
     rw[ht]at h;have h1:=wW ht;simp only[Yf]at h h1⊢;cases hr:lexF f (k+t.len) ((c::r).drop t.len)with
     |error e=>rw[hr]at h;cases h
     |ok a'=>
      rw[hr]at h;simp only at h;cases h;have:=lexL_end hr;have hne:=lexF_ok_ne hr;rw[List.getLast?_cons,List.getLast?_eq_some_getLast hne]at*;simp only[Ye]at this;simp[this];omega
end
section
structure Prs where
 at_:Nat
 rules:Int
 bad:Int
 place:Int
def bs (s:Bs):EQ:=⟨⟨s⟩⟩
def Prs.next (s:Prs):Prs:={s with at_:=s.at_+1}
section
variable (l:List Tok)
def qZ (s:Prs):Tok:=l.getD s.at_ ⟨7,0,0,[]⟩
def jp (s:Prs) (e place:Int):Prs:=if s.bad=0 then{s with bad:=e,place:=place}else s
def synQ (s:Prs):Prs:=jp s 5 (qZ l s).at_
def limQ (s:Prs) (more:Bool):Prs:=if more then jp s 6 (qZ l s).at_ else s
def isQ (s:Prs) (w:Bs):Bool:=decide (s.bad=0)&&decide ((qZ l s).s=w)&&(decide ((qZ l s).kind=1)||decide ((qZ l s).kind=6))
def wV (s:Prs) (w:Bs):Bool×Prs:=if isQ l s w then(true,s.next)else(false,s)
def zP (s:Prs) (w:Bs):Prs:=if isQ l s w then s.next else synQ l s
def zF (s:Prs):Bs×Prs:=
 let s1:=if(qZ l s).kind=1 then s else synQ l s
 if s1.bad≠0 then([],s1)else((qZ l s).s,s1.next)
def qN (s:Prs) (ws:List Bs):Int×Prs:=
 if(qZ l s).kind=1/\(qZ l s).s∈ws/\isQ l s (qZ l s).s=true then((ws.findIdx fun w=>decide (w=(qZ l s).s):Nat)+1,s.next)else(0,synQ l s)
def wCats:List Bs:=[[115,117,98,106,101,99,116],[97,99,116,105,111,110],[99,97,115,101],[101,110,118]]
def qaP (s:Prs):Atr×Prs:=
 let a:=qN l s wCats
 let n:=zF l (zP l a.2 [46])
 let m:=wV l n.2 [33]
 (⟨a.1,bs n.1,m.1⟩,m.2)
def noV:Val:=⟨0,0,⟨#[]⟩⟩
def wTrue:Bs:=[116,114,117,101]
def wFalse:Bs:=[102,97,108,115,101]
def valK (s:Prs):Option Val:=
 let t:=qZ l s
 if t.kind=2 then some ⟨2,t.n,bs t.s⟩else if t.kind=3 then some ⟨4,t.n,bs t.s⟩else if t.kind=4 then some ⟨5,t.n,bs t.s⟩else if t.kind=5 then some ⟨3,t.n,bs t.s⟩
 else if isQ l s wTrue then some ⟨1,1,⟨#[]⟩⟩else if isQ l s wFalse then some ⟨1,0,⟨#[]⟩⟩else none
def valQ (s:Prs):Val×Prs:=match valK l s with
 |some v=>if s.bad≠0 then(noV,s)else(v,s.next)
 |none=>(noV,synQ l s)
def mopQ (s:Prs):Int×Prs:=if isQ l s [61]then(1,s.next)else if isQ l s [60]then(2,s.next)else if isQ l s [62]then(3,s.next)else(0,synQ l s)
def matQ (s:Prs):Mat×Prs:=
 let a:=qaP l s
 let o:=mopQ l a.2
 let v:=valQ l o.2
 (⟨a.1,o.1,v.1⟩,v.2)
def sepQ {β:Type} (w:Bs) (g:Prs->β×Prs):Nat->List β->Prs->List β×Prs
 |0,acc,s=>(acc,s)
 |n+1,acc,s=>if isQ l s w then sepQ w g n (acc++[(g s.next).1]) (limQ l (g s.next).2 (decide (8<acc.length+1)))else(acc,s)
def allQ (s:Prs):List Mat×Prs:=sepQ l [44] (matQ l) (l.length+1) [(matQ l s).1] (matQ l s).2
def wOr:Bs:=[111,114]
def wAnd:Bs:=[97,110,100]
def wWhen:Bs:=[119,104,101,110]
def anyQ (s:Prs):List (List Mat)×Prs:=
 let s1:=zP l s [40]
 let r:=sepQ l wOr (allQ l) (l.length+1) [(allQ l s1).1] (allQ l s1).2
 (r.1,zP l r.2 [41])
def tarQ (s:Prs):Tar×Prs:=if isQ l s wWhen then sepQ l wAnd (anyQ l) (l.length+1) [(anyQ l s.next).1] (anyQ l s.next).2 else([],s)
def je (op:Int):List Bool:=if op=3\/op=4 then [true]else if op=5 then [true,false]else if op=11 then [false]else [false,false]
def qaH:List Bs:=[[111,110,101],[115,105,122,101],[104,97,115],[101,113],[108,101,115,115],[97,100,100],[115,117,98],[109,117,108],[110,111,116],[97,110,100],[111,114]]
def opdQ (ex:List Nod->Prs->(List Nod×Bool)×Prs) (acc:List Nod) (s:Prs) (must:Bool):List Nod×Prs:=
 ((ex acc s).1.1,if(ex acc s).1.2=must then(ex acc s).2 else jp (ex acc s).2 5 (qZ l s).at_)
def wT (ex:List Nod->Prs->(List Nod×Bool)×Prs):List Bool->List Nod->Prs->List Nod×Prs
 |[],acc,s=>(acc,s)
 |m::ms,acc,s=>if s.bad≠0 then(acc,s)else wT ex ms (opdQ l ex acc s m).1 (opdQ l ex acc s m).2
def funQ (ex:List Nod->Prs->(List Nod×Bool)×Prs) (acc:List Nod) (s:Prs):(List Nod×Nod)×Prs:=
 let a:=qN l s qaH
 let q:=wT l ex (je (2+a.1)) acc a.2
 ((q.1,⟨2+a.1,noV,noAtr⟩),zP l q.2 [41])
def nodQ (ex:List Nod->Prs->(List Nod×Bool)×Prs) (acc:List Nod) (s:Prs):(List Nod×Nod)×Prs:=
 if isQ l s [40]then funQ l ex acc s.next
 else if(qZ l s).kind=1/\(qZ l s).s≠wTrue/\(qZ l s).s≠wFalse then((acc,⟨2,noV,(qaP l s).1⟩),(qaP l s).2)
 else((acc,⟨1,(valQ l s).1,noAtr⟩),(valQ l s).2)
def zn:Nat->List Nod->Prs->(List Nod×Bool)×Prs
 |0,acc,s=>((acc,false),s)
 |n+1,acc,s=>
  let r:=nodQ l (zn n) acc s
  ((r.1.1++[r.1.2],decide (r.1.2.op=2)),limQ l r.2 (decide (32<r.1.1.length+1)))
def wOn:Bs:=[111,110]
def wSides:List Bs:=[[112,101,114,109,105,116],[100,101,110,121]]
def wKinds:List Bs:=[[108,111,103],[114,101,100,97,99,116],[114,101,118,105,101,119],[110,111,116,105,102,121]]
def oblQ (s:Prs):Obli×Prs:=
 let o:=qN l s wSides
 let k:=qN l o.2 wKinds
 let n:=zF l k.2
 (⟨o.1,k.1,bs n.1⟩,n.2)
def dutQ (s:Prs):List Obli×Prs:=sepQ l wOn (oblQ l) (l.length+1) [] s
def wIf:Bs:=[105,102]
def rulQ (deny:Bool) (s:Prs):Rul×Prs:=
 let n:=zF l s
 let t:=tarQ l n.2
 let c:=if isQ l t.2 wIf then opdQ l (zn l (l.length+1)) [] t.2.next false else([],t.2)
 let o:=dutQ l c.2
 (⟨bs n.1,deny,t.1,c.1,o.1⟩,zP l o.2 [59])
def wPermit:Bs:=[112,101,114,109,105,116]
def qaZ:Bs:=[100,101,110,121]
def jZ:Nat->List Rul->Prs->List Rul×Prs
 |0,acc,s=>(acc,s)
 |n+1,acc,s=>
  if isQ l s wPermit||isQ l s qaZ then
   let s1:=limQ l s (decide (acc.length=16)||decide (s.rules=64))
   if s1.bad≠0 then(acc,s1)
   else
    let r:=rulQ l (isQ l s1 qaZ) {s1 with rules:=Go.IntKind.i64.wrap (s1.rules+1),at_:=s1.at_+1}
    jZ n (acc++[r.1]) r.2
  else(acc,s)
def zq:Bs:=[112,111,108,105,99,121]
def wSet:Bs:=[115,101,116]
def wAlgs:List Bs:=[[100,101,110,121,111,118,101,114],[112,101,114,109,105,116,111,118,101,114],[102,105,114,115,116],[111,110,108,121],[100,101,110,121,117,110,108,101,115,115],[112,101,114,109,105,116,117,110,108,101,115,115]]
def jt (pk:Prs->Pol×Prs) (depth:Int):Nat->List Pol->Prs->List Pol×Prs
 |0,acc,s=>(acc,s)
 |n+1,acc,s=>
  if isQ l s zq||isQ l s wSet then
   let s1:=limQ l s (decide (acc.length=16)||decide (depth>4))
   if s1.bad≠0 then(acc,s1)else jt pk depth n (acc++[(pk s1).1]) (pk s1).2
  else(acc,s)
def polQ:Nat->Prs->Pol×Prs
 |0,s=>(.mk ⟨#[]⟩ false 0 [] [] [] [],s)
 |n+1,s=>
  let k:=qN l s [zq,wSet]
  let i:=zF l k.2
  let g:=qN l i.2 wAlgs
  let t:=tarQ l g.2
  let s1:=zP l t.2 [123]
  let ks:=if k.1=2 then jt l (polQ n) (6-n) (l.length+1) [] s1 else([],s1)
  let rs:=if k.1=2 then([],ks.2)else jZ l (l.length+1) [] s1
  let o:=dutQ l (zP l rs.2 [125])
  (.mk (bs i.1) (decide (k.1=2)) g.1 t.1 rs.1 ks.1 o.1,o.2)
end
def noPol:Pol:=.mk ⟨#[]⟩ false 0 [] [] [] []
def zh (b:Bs):Pol×Int×Int:=
 if 4096<b.length then(noPol,6,4096)else
 match lexL b with
 | .error e=>(noPol,5,e)
 | .ok l=>
   let r:=polQ l 5 ⟨0,0,0,0⟩
   let s1:=if(qZ l r.2).kind=7 then r.2 else synQ l r.2
   let s2:=if s1.bad=0/\zO r.1≠0 then jp s1 5 b.length else s1
   if s2.bad≠0 then(noPol,s2.bad,s2.place)else(r.1,0,0)
end
section
structure Opn where
 kind:Int
 subj:EQ
 case_:EQ
 field:EQ
 to_:EQ
 val:Val
 rev:Int
 text:EQ
 reason:EQ
 glass:Bool
structure Hap where
 tick:Int
 actor:EQ
 what:EQ
structure Fld where
 name:EQ
 val:Val
structure Cas where
 id:EQ
 owner:EQ
 state:EQ
 fields:List Fld
 log:List Hap
structure Rev where
 id:Int
 tick:Int
 subj:EQ
 case_:EQ
 act:EQ
 reason:EQ
 open_:Bool
structure Ntc where
 tick:Int
 case_:EQ
 arg:EQ
structure Rol where
 subj:EQ
 role:EQ
structure Sto where
 tick:Int
 cases:List Cas
 revs:List Rev
 ntcs:List Ntc
 roles:List Rol
 pol:Pol
 ver:Int
structure Rpl where
 err:Int
 mark:Mk
 glass:Bool
 val:Val
 hidden:Bool
 at_:Int
structure Dcd where
 op:Opn
 ver:Int
 mark:Mk
 glass:Bool
 obls:List Obli
def e0:EQ:=⟨#[]⟩
def emB (s:EQ):Bool:=decide (s=e0)
def emV (v:Val):Bool:=decide (v.kind=0)&&(decide (v.n=0)&&emB v.s)
def noOp:Opn:=⟨0,e0,e0,e0,e0,⟨0,0,e0⟩,0,e0,e0,false⟩
def noDcd:Dcd:=⟨noOp,0,(0,0),false,[]⟩
def wOpen:EQ:=⟨#[111,112,101,110]⟩
def wWork:EQ:=⟨#[119,111,114,107]⟩
def wDone:EQ:=⟨#[100,111,110,101]⟩
def wClosed:EQ:=⟨#[99,108,111,115,101,100]⟩
def wNew:EQ:=⟨#[110,101,119]⟩
def wRead:EQ:=⟨#[114,101,97,100]⟩
def wWrite:EQ:=⟨#[119,114,105,116,101]⟩
def wMove:EQ:=⟨#[109,111,118,101]⟩
def wClose:EQ:=⟨#[99,108,111,115,101]⟩
def wRole:EQ:=⟨#[114,111,108,101]⟩
def wPol:EQ:=⟨#[112,111,108,105,99,121]⟩
def wTick:EQ:=⟨#[116,105,99,107]⟩
def qay:EQ:=⟨#[103,108,97,115,115]⟩
def jh (l:List Cas) (id:EQ):Nat:=l.findIdx fun c=>!jw c.id id
def findB (l:List Cas) (id:EQ):Bool:=match l[jh l id]? with
 |some c=>decide (c.id=id)
 |none=>false
def zZ (l:List Cas) (id:EQ):Option Cas:=match l[jh l id]? with
 |some c=>if c.id=id then some c else none
 |none=>none
def noCas:Cas:=⟨e0,e0,e0,[],[]⟩
def hasC (l:List Rol) (subj role:EQ):Bool:=l.any fun r=>decide (r.subj=subj)&&decide (r.role=role)
def qam (c:Cas) (name:EQ):Val:=match c.fields[c.fields.findIdx fun f=>decide (f.name=name)]? with
 |some f=>f.val
 |none=>noV
def follC (a b:EQ):Bool:=
 if a=wOpen then decide (b=wWork)else if a=wWork then decide (b=wDone)else if a=wDone then decide (b=wWork)||decide (b=wClosed)else false
def actC (k:Int):EQ:=
 if k=1 then wNew else if k=2 then wRead else if k=3 then wWrite else if k=4 then wMove else if k=5 then wClose else if k=6 then wRole else if k=7 then wPol else wTick
def onC (k:Int):Bool:=decide (1<=k)&&decide (k<=4)
def emptC (s:EQ):Bool:=emB s||wX s
def reaC (o:Opn):Bool:=if o.glass then onC o.kind&&(!emB o.reason&&decide (o.reason.size<=64))else emB o.reason
def takC (o:Opn):Bool:=
 if o.kind=1 then !emB o.case_&&(emB o.field&&(emB o.to_&&(emV o.val&&(decide (o.rev=0)&&emB o.text))))
 else if o.kind=2\/o.kind=6 then(!emB o.case_&&!emB o.field)&&(emB o.to_&&(emV o.val&&(decide (o.rev=0)&&emB o.text)))
 else if o.kind=3 then(!emB o.case_&&(!emB o.field&&!emV o.val))&&(emB o.to_&&(decide (o.rev=0)&&emB o.text))
 else if o.kind=4 then(!emB o.case_&&!emB o.to_)&&(emB o.field&&(emV o.val&&(decide (o.rev=0)&&emB o.text)))
 else if o.kind=5 then decide (0<o.rev)&&(emB o.case_&&(emB o.field&&(emB o.to_&&(emV o.val&&emB o.text))))
 else if o.kind=7 then emB o.case_&&(emB o.field&&(emB o.to_&&(emV o.val&&decide (o.rev=0))))
 else if o.kind=8 then(decide (0<o.rev)&&decide (o.rev<=1099511627776))&&(emB o.case_&&(emB o.field&&(emB o.to_&&(emV o.val&&emB o.text))))
 else false
def jY (o:Opn):Bool:=wX o.subj&&(reaC o&&(decide (o.text.size<=4096)&&(emptC o.case_&&(emptC o.field&&(emptC o.to_&&((emV o.val||o.val.right)&&takC o))))))
def qaG (s:Sto) (o:Opn):Int:=match zZ s.cases o.case_ with
 |none=>10
 |some c=>
  if o.kind=3/\16<=c.fields.length/\emV (qam c o.field)=true then 6
  else if o.kind≠2/\256<=c.log.length then 6
  else if(o.kind=3/\c.state=wClosed)\/(o.kind=4/\follC c.state o.to_=false)then 13
  else 0
def qat (s:Sto) (o:Opn):Int:=match s.revs[(o.rev-1).toNat]? with
 |none=>10
 |some r=>if r.open_=false then 10 else if r.subj=o.subj then 12 else 0
def rdyC (s:Sto) (o:Opn):Int:=
 if jY o=false then 1
 else if o.kind=1 then(if findB s.cases o.case_ then 11 else if 64<=s.cases.length then 6 else 0)
 else if o.kind=2\/o.kind=3\/o.kind=4 then qaG s o
 else if o.kind=5 then qat s o
 else if o.kind=6 then(if 64<=s.roles.length/\hasC s.roles o.case_ o.field=false then 6 else 0)
 else if o.kind=8 then(if Go.IntKind.i64.wrap (1099511627776-o.rev)<s.tick then 6 else 0)
 else 0
def idV (s:EQ):Val:=⟨5,0,s⟩
def gv (cat:Int) (name:List UInt8) (bag:List Val):Giv:=⟨cat,⟨⟨name⟩⟩,bag⟩
def tookC (c:Cas) (subj:EQ):Val:=⟨1,if c.log.any (fun h=>decide (h.actor=subj))then 1 else 0,e0⟩
def fldG (f:Fld):List Giv:=if f.name.size<=14 then [⟨3,⟨#[102,95]⟩++f.name,[f.val]⟩]else []
def lastG (c:Cas):List Giv:=match c.log.getLast? with
 |some h=>[gv 3 [108,97,115,116] [idV h.actor]]
 |none=>[]
def we (c:Cas) (subj:EQ):List Giv:=
 [gv 3 [105,100] [idV c.id],gv 3 [111,119,110,101,114] [idV c.owner],gv 3 [115,116,97,116,101] [idV c.state],gv 3 [101,118,101,110,116,115] [⟨2,c.log.length,e0⟩],gv 3 [116,111,111,107] [tookC c subj]]
  ++lastG c++c.fields.flatMap fldG
def rolesV (l:List Rol) (subj:EQ):List Val:=((l.filter fun r=>decide (r.subj=subj)).take 16).map fun r=>idV r.role
def askC (s:Sto) (o:Opn):List Giv:=
 [gv 1 [105,100] [idV o.subj],gv 1 [114,111,108,101] (rolesV s.roles o.subj),gv 2 [110,97,109,101] [idV (actC o.kind)]]
  ++(if emB o.field then []else [gv 2 [102,105,101,108,100] [idV o.field]])
  ++(if emB o.to_ then []else [gv 2 [116,111] [idV o.to_]])
  ++[gv 4 [110,111,119] [⟨4,s.tick,e0⟩]]
  ++(match zZ s.cases o.case_ with
   |some c=>if o.kind=6 then []else we c o.subj
   |none=>[])
def wrtC (l:List Fld) (name:EQ) (v:Val):List Fld:=
 match l[l.findIdx fun f=>!jw f.name name]? with
 |none=>l++[⟨name,v⟩]
 |some f=>if f.name=name then l.set (l.findIdx fun f=>!jw f.name name) ⟨f.name,v⟩else l.take (l.findIdx fun f=>!jw f.name name)++⟨name,v⟩::l.drop (l.findIdx fun f=>!jw f.name name)
def hapC (s:Sto) (c:Cas) (actor what:EQ):Cas:={c with log:=c.log++[⟨s.tick,actor,what⟩]}
def jT (s:Sto) (id:EQ) (f:Cas->Cas):Sto:=match s.cases[jh s.cases id]? with
 |some c=>{s with cases:=s.cases.set (jh s.cases id) (f c)}
 |none=>s
def za (s:Sto) (o:Opn):Sto:=
 if o.kind=1 then{s with cases:=s.cases.take (jh s.cases o.case_)++⟨o.case_,o.subj,wOpen,[],[⟨s.tick,o.subj,wNew⟩]⟩::s.cases.drop (jh s.cases o.case_)}
 else if o.kind=3 then jT s o.case_ fun c=>hapC s {c with fields:=wrtC c.fields o.field o.val} o.subj wWrite
 else if o.kind=4 then jT s o.case_ fun c=>hapC s {c with state:=o.to_} o.subj o.to_
 else if o.kind=5 then match s.revs[(o.rev-1).toNat]? with
  |some r=>{s with revs:=s.revs.set (o.rev-1).toNat {r with open_:=false}}
  |none=>s
 else if o.kind=6 then(if hasC s.roles o.case_ o.field then s else{s with roles:=s.roles++[⟨o.case_,o.field⟩]})
 else if o.kind=7 then(if(zh o.text.data.toList).2.1=0 then{s with pol:=(zh o.text.data.toList).1,ver:=Go.IntKind.i64.wrap (s.ver+1)}else s)
 else if o.kind=8 then{s with tick:=Go.IntKind.i64.wrap (s.tick+o.rev)}
 else s
def lateR (s:Sto) (r:Rev):Bool:=r.open_&&decide (100<=Go.IntKind.i64.wrap (s.tick-r.tick))
def lateC (s:Sto) (subj:EQ):Bool:=s.revs.any fun r=>decide (r.subj=subj)&&lateR s r
def brkC (s:Sto) (o:Opn) (m:Mk):Bool:=o.glass&&((decide (m=(0,2))||decide (m=(0,0)))&&(hasC s.roles o.subj qay&&!lateC s o.subj))
def opnR (s:Sto) (o:Opn) (reason:EQ):Sto:={s with revs:=s.revs++[⟨s.revs.length+1,s.tick,o.subj,o.case_,actC o.kind,reason,true⟩]}
def hidC (l:List Obli) (field:EQ):Bool:=l.any fun x=>decide (x.kind=2)&&decide (x.arg=field)
def qQ (l:List Cas) (id:EQ):Nat:=l.findIdx fun c=>decide (c.id=id)
def logR (s:Sto) (o:Opn) (what:EQ):Sto:=if o.kind=6 then s else match s.cases[qQ s.cases o.case_]? with
 |some c=>{s with cases:=s.cases.set (qQ s.cases o.case_) (hapC s c o.subj what)}
 |none=>s
def dutyR (o:Opn) (done:Bool) (s:Sto) (x:Obli):Sto:=
 if x.kind=1/\done=true then logR s o x.arg
 else if x.kind=3 then opnR s o x.arg
 else if x.kind=4 then{s with ntcs:=s.ntcs++[⟨s.tick,o.case_,x.arg⟩]}
 else s
def dutR (s:Sto) (o:Opn) (l:List Obli) (done:Bool):Sto:=l.foldl (dutyR o done) s
def overC (s:Sto):Bool:=decide (256<s.revs.length)||(decide (256<s.ntcs.length)||s.cases.any fun c=>decide (256<c.log.length))
def badR (e at_:Int):Rpl:=⟨e,(0,0),false,noV,false,at_⟩
def actR (s:Sto) (o:Opn) (r:Rs):Sto×Rpl×Dcd:=
 let g:=brkC s o r.m
 let s1:=if g then opnR s o o.reason else s
 let d:=decide (r.m=(2,0))||g
 let hid:=decide (o.kind=2)&&hidC r.obls o.field
 let v:=if d&&decide (o.kind=2)&&!hid then qam ((zZ s.cases o.case_).getD noCas) o.field else noV
 (dutR (if d then za s1 o else s1) o r.obls d,⟨if d then 0 else 12,r.m,g,v,d&&hid,0⟩,⟨o,s.ver,r.m,g,r.obls⟩)
def preC (s:Sto) (o:Opn):Int×Int:=
 if rdyC s o≠0 then(rdyC s o,0)else if o.kind=7 then((zh o.text.data.toList).2.1,(zh o.text.data.toList).2.2)else(0,0)
def gdC (s:Sto) (o:Opn):Sto×Rpl×Dcd×Int:=
 if(preC s o).1≠0 then(s,badR (preC s o).1 (preC s o).2,noDcd,(preC s o).1)
 else if(ji s.pol (askC s o)).2≠0 then(s,badR (ji s.pol (askC s o)).2 0,noDcd,(ji s.pol (askC s o)).2)
 else if overC (actR s o (ji s.pol (askC s o)).1).1 then(s,badR 6 0,noDcd,6)
 else((actR s o (ji s.pol (askC s o)).1).1,(actR s o (ji s.pol (askC s o)).1).2.1,(actR s o (ji s.pol (askC s o)).1).2.2,0)
end
section
open Go.RowKit
def Opn.pv (o:Opn):List PV:=[pI o.kind,pS o.subj,pS o.case_,pS o.field,pS o.to_,pI o.val.kind,pI o.val.n,pS o.val.s,pI o.rev,pS o.text,pS o.reason,pB o.glass]
def Hap.pv (x:Hap):List PV:=[pI x.tick,pS x.actor,pS x.what]
def Fld.pv (x:Fld):List PV:=[pS x.name,pI x.val.kind,pI x.val.n,pS x.val.s]
def hapsP (l:List Hap):PV:=.sl 3 (l.map Hap.pv)
def fldsP (l:List Fld):PV:=.sl 4 (l.map Fld.pv)
def Cas.pv (c:Cas):List PV:=[pS c.id,pS c.owner,pS c.state,fldsP c.fields,hapsP c.log]
def Rev.pv (x:Rev):List PV:=[pI x.id,pI x.tick,pS x.subj,pS x.case_,pS x.act,pS x.reason,pB x.open_]
def Ntc.pv (x:Ntc):List PV:=[pI x.tick,pS x.case_,pS x.arg]
def Rol.pv (x:Rol):List PV:=[pS x.subj,pS x.role]
def wJ (l:List Cas):PV:=.sl 5 (l.map Cas.pv)
def qar (l:List Rev):PV:=.sl 7 (l.map Rev.pv)
def qba (l:List Ntc):PV:=.sl 3 (l.map Ntc.pv)
def zj (l:List Rol):PV:=.sl 2 (l.map Rol.pv)
def stoP (t:Int) (c r n ro:PV) (p:Pol) (v:Int):List PV:=[pI t,c,r,n,ro,pS p.id,pB p.set,pI p.alg,tgtP p.target,.sl 5 (p.rules.map zD),.sl 7 (p.kids.map polP),zw p.obls,pI v]
def Sto.pv (s:Sto):List PV:=stoP s.tick (wJ s.cases) (qar s.revs) (qba s.ntcs) (zj s.roles) s.pol s.ver
def Rpl.pv (r:Rpl):List PV:=[pI r.err,mkP r.mark,pB r.glass,pI r.val.kind,pI r.val.n,pS r.val.s,pB r.hidden,pI r.at_]
def Dcd.pv (d:Dcd):List PV:=d.op.pv++[pI d.ver,mkP d.mark,pB d.glass,zw d.obls]
structure Opn.Ok (o:Opn):Prop where
 subj:o.subj.size<=1000000
 case_:o.case_.size<=1000000
 field:o.field.size<=1000000
 to_:o.to_.size<=1000000
 val:o.val.s.size<=1000000/\R64 o.val.n/\R64 o.val.kind
 text:o.text.size<=1000000
 reason:o.reason.size<=1000000
 rev:R64 o.rev
 kind:R64 o.kind
section
variable {P:Program} {T:TT} (hT:zi P T) {st:St}
include hT
end
section
variable {P:Program} {T:TT} (hT:zi P T) {st:St}
include hT
end
end
section
def zig (n:Int):Nat:=if n<0 then(-2*n-1).toNat else(2*n).toNat
theorem zig_lt {n:Int} (h:R64 n):zig n<18446744073709551616:=by
 have h1:=h.1;have h2:=h.2;unfold zig;split<;>omega
def putU:Nat->Nat->Bs
 |0,_=>[]
 |f+1,u=>if u<128 then [UInt8.ofNat u]else UInt8.ofNat (u%128+128)::putU f (u/128)
def putN (n:Int):Bs:=putU 10 (zig n)
theorem putU_len:∀(f u:Nat),(putU f u).length<=f
 |0,_=>Yj _
 |f+1,u=>by
  rw[putU];split
  · simp
  · have:=putU_len f (u/128);simp;omega
end
section
theorem ofNat64 (u:Nat) (h:u<18446744073709551616):(BitVec.ofInt IntKind.u64.bits (u:Int)).toNat=u:=by
 show(BitVec.ofInt 64 (u:Int)).toNat=u;rw[BitVec.toNat_ofInt];omega
theorem u64_nat {u:Nat} (h:u<18446744073709551616):IntKind.u64.wrap (u:Int)=(u:Int):=by
 simp[IntKind.wrap,IntKind.bits,IntKind.signed];omega
theorem and127 {u:Nat} (h:u<18446744073709551616):IntKind.u64.wrap ((BitVec.ofInt IntKind.u64.bits (u:Int) &&& BitVec.ofInt IntKind.u64.bits 127).toNat:Int)=((u%128:Nat):Int):=by
 rw[BitVec.toNat_and,ofNat64 u h,show(BitVec.ofInt IntKind.u64.bits 127).toNat=2^7-1 from by decide,Nat.and_two_pow_sub_one_eq_mod];exact u64_nat EM
theorem or128 {u:Nat} (h:u<128):IntKind.u64.wrap ((BitVec.ofInt IntKind.u64.bits (u:Int) ||| BitVec.ofInt IntKind.u64.bits 128).toNat:Int)=((u+128:Nat):Int):=by
 rw[BitVec.toNat_or,ofNat64 u EM,show(BitVec.ofInt IntKind.u64.bits 128).toNat=1 <<< 7 from by decide,Nat.or_comm,<-Nat.shiftLeft_add_eq_or_of_lt EM];rw[show 1 <<< 7+u=u+128 by simp[Nat.shiftLeft_eq];omega];exact u64_nat EM
theorem not64 {u:Nat} (h:u<18446744073709551616):IntKind.u64.wrap ((BitVec.ofInt IntKind.u64.bits (IntKind.u64.max) ^^^ BitVec.ofInt IntKind.u64.bits (u:Int)).toNat:Int)=((18446744073709551615-u:Nat):Int):=by
 have e:(BitVec.ofInt 64 (IntKind.u64.max) ^^^ BitVec.ofInt 64 (u:Int)).toNat=18446744073709551615-u:=by
  have e1:BitVec.ofInt 64 (IntKind.u64.max)=BitVec.allOnes 64:=by decide
  rw[e1,BitVec.allOnes_xor,BitVec.toNat_not,show(BitVec.ofInt 64 (u:Int)).toNat=u from ofNat64 u h]
 show IntKind.u64.wrap ((BitVec.ofInt 64 (IntKind.u64.max) ^^^ BitVec.ofInt 64 (u:Int)).toNat:Int)=_;rw[e];exact u64_nat EM
theorem zig_u {n:Int} (h:R64 n):IntKind.u64.wrap (IntKind.u64.wrap n*2^(min (1:Int).toNat IntKind.u64.bits))=((if n<0 then 18446744073709551616+2*n else 2*n:Int)):=by
 have h1:=h.1;have h2:=h.2;have e:((2:Int)^(min (1:Int).toNat IntKind.u64.bits))=2:=by decide
 rw[e];simp only[IntKind.wrap,IntKind.bits,IntKind.signed,Bool.false_and,YA,if_false];split<;>omega
end
section
open Go.RowKit
abbrev pU (c:UInt8):PV:=.v (.int .u8 (c.toNat:Int))
abbrev pL (l:Bs):PV:=pS ⟨⟨l⟩⟩
def bR (l:Bs):List (List PV):=l.map fun c=>[pU c]
def bP (l:Bs):PV:=.sl 1 (bR l)
theorem zW (l:Bs):(bR l).length=l.length:=by simp[bR]
theorem bR_app (a b:Bs):bR (a++b)=bR a++bR b:=by simp[bR]
theorem bR_at {l:Bs} {k:Nat} (h:k<l.length):(bR l).getD k []=[pU l[k]]:=qH h
theorem byteAt_l {l:Bs} {k:Nat} (hk:k<l.length):byteAt ⟨⟨l⟩⟩ k=(l[k].toNat:Int):=by
 unfold byteAt;have:(⟨⟨l⟩⟩:EQ).data.getD k 0=l[k]:=by
  show(⟨l⟩:Array UInt8).getD k 0=l[k];rw[Array.getD_eq_getD_getElem?];simp[hk]
 rw[this]
theorem jL {l:Bs} {k:Nat} (hk:k<l.length):byteAt ⟨⟨l⟩⟩ (Int.toNat (k:Int))=(l[k].toNat:Int):=byteAt_l hk
theorem fin_s {ts:List Tmp} {st:St} {b b':EQ} (h:resS st ts=some (.p (.v (.string b)))) (hb:b=b'):Fin ts (.p (.v (.string b'))) [] .ret st:=by
 subst hb;exact⟨Or.inr rfl,st,_,[],Wk.refl _,h,rfl,rfl,rfl⟩
theorem fin_t {ts:List Tmp} {st:St} {x y x' y':PV} (h:resS st ts=some (.tup [.p x,.p y])) (hx:x=x') (hy:y=y'):Fin ts (.tup [.p x',.p y']) [] .ret st:=by
 subst hx;subst hy;exact⟨Or.inr rfl,st,_,[],Wk.refl _,h,rfl,rfl,rfl⟩
theorem u8_in {n:Int} (h:0<=n/\n<256):IntKind.u8.wrap n=n:=by
 simp[IntKind.wrap,IntKind.bits,IntKind.signed];omega
section
variable {P:Program} {T:TT} (hT:zi P T) {st:St} {K:List Nat}
include hT
theorem qae {o:Oper} {t t':TypeId} {x:Operand} (ho:o.op=.binOp .eql t x (.const (.pointer none)) t') {ti:TyI} (ht:lk t T=some ti) (hte:ti.d=.ptr) {j off:Nat} (hx:evS st x=some (.ptr j off)) (hd:wa st o.dst=true) {Q:St->Prop} (h:Q (st.put o.dst (.p (.v (.bool false))))):ActOk P [] o st Q:=by
 intro w0 Sx γ a w QQ hI;have hv:∃A:Addr,a.eval x=.pointer (some A):=by
  have:=qJ hI hx;generalize a.eval x=u at this⊢;cases this with
  |ptr h hb=>exact⟨_,rfl⟩
 obtain⟨A,hv⟩:=hv;have hyv:a.eval (.const (.pointer none))=.pointer none:=rfl;have hrun:(execOp a.eval o).run P w=.ok (.value (.bool false)) w:=by
  refine Lo ?_;have hu:=(hT t ti ht).und;rw[hte]at hu;obtain⟨el,hu⟩:=hu;have h1:(eqGuard .eql t x (.const (.pointer none)) (.pointer (some A)) (.pointer none)).run P w=.ok () w:=by simp[eqGuard]
  rw[YG,h1];simp only[Yt];have hq:∀d,(Op.equalIn (d+1) t (.pointer (some A)) (.pointer none)).run P w=.ok false w:=fun d=>by simp[Op.equalIn,run_underlying hu]
  simp[binOp,Op.equal,Op.maxDepth,hq 9999]
 unfold Oper.wp;rw[hrun,Oper.upon_value];exact⟨γ,_,h,hI.put hd (.p (.v rfl)),⟨Yj _,fun _ _ _=>rfl⟩,fun K _ b _ hb=>by rw[qaW];exact hb⟩
end
theorem shr_7 (x:Nat):(x:Int).fdiv (2^(min (7:Int).toNat IntKind.u64.bits))=((x/128:Nat):Int):=by
 rw[show((2:Int)^(min (7:Int).toNat IntKind.u64.bits))=128 from by decide,Int.fdiv_eq_ediv_of_nonneg _ EM];omega
theorem not_u64s {u:Nat} (h:u<18446744073709551616):IntKind.u64.wrap ((BitVec.ofInt IntKind.u64.bits (if IntKind.u64.signed=true then-1 else IntKind.u64.max) ^^^ BitVec.ofInt IntKind.u64.bits (u:Int)).toNat:Int)=((18446744073709551615-u:Nat):Int):=not64 h
theorem swt_wk {P:Program} {ops l:List Oper} {Q:St->Prop} {st st':St} (h:Wk st st') (h':SWT P ops l Q st'):SWT P ops l Q st:=fun w0 Sx γ a w QQ hI hQ=>by
 obtain⟨γ',hI'⟩:=h w0 Sx γ a w hI;exact h' w0 Sx γ' a w QQ hI' hQ
theorem SWT.mono {P:Program} {ops l:List Oper} {Q Q':St->Prop} {st:St} (h:SWT P ops l Q' st) (hm:∀s,Q' s->Q s):SWT P ops l Q st:=fun w0 Sx γ a w QQ hI hQ=>
 h w0 Sx γ a w QQ hI fun st' γ' a' w' hI' hq=>hQ st' γ' a' w' hI' (hm st' hq)
end
section
open Go.RowKit Go.Lib
section
variable {P:Program}
theorem jP (W:World) (dT sT ty elem:TypeId) (z g o dLen dCap:Nat) (a:Addr) (sLen sCap:Nat) (cur:Array Value) (t:TypeId) (cs:List Value)
 (hu:P.underlying dT=some (.slice elem)) (hs:(P.info? elem).map (·.size)=some z) (hg:W.heap[g]?=some (.cells cur t (0,0))) (hn:cs.length=Nat.min sLen dLen*z)
 (hsrc:∀j v,cs[j]?=some v->W.cell? (a.add j)=some v) (hfit:o+cs.length<=cur.size) (h1:∀v∈cs,v.oneCell'=true):
 (Builtin.copy_ #[dT,sT] ty #[.slice (some ⟨g,o,none⟩) dLen dCap,.slice (some a) sLen sCap]).run P W=
  .ok (goInt (Nat.min sLen dLen)) (W.setRow g (cur.toList.take o++cs++cur.toList.drop (o+cs.length)).toArray):=by
 have hl:=run_loadCells_list (P:=P) W a cs hsrc;have hst:=run_storeCells_at P g o t cs 0 cur W hg (by simpa using hfit) h1;cases hq:P.info? elem with
 |none=>simp[hq]at hs
 |some i=>
  have hi:i.size=z:=by simpa [hq]using hs
  simp[Builtin.copy_,run_underlying hu,Builtin.lenOf,Builtin.firstCells,sizeOf,typeInfo,hq,hi,<-hn,hl,hst]
end
section
variable {P:Program}
theorem wp_copy_at (w:World) {o:Oper} {a:Act} {K:Act->World->Prop} {Q:Exit->Act->World->Prop} (d s:Operand) (t t':TypeId)
 (ho:o.op=.call {callee:=.builtin .copy,args:=#[d,s],argTypes:=#[t,t']}) (v u:Value) (hd:a.eval d=v) (hs:a.eval s=u) {v':Value} {w':World}
 (hr:(Builtin.copy_ #[t,t'] o.type #[v,u]).run P w=.ok v' w') (h:K (a.put o.dst v') w'):o.wp P a w K Q:=by
 unfold Oper.wp execOp;simp only[ho,resolve,invoke,builtin,YG,YQ,Yt,List.map_toArray,Y1,List.map_nil,hd,hs,hr];exact h
theorem qav {ops:Array Oper} {o:Oper} {a:Act} {w:World} {K:Act->World->Prop} {Q:Exit->Act->World->Prop} {E:Prop}
 (hg:o.guard=none) (d x:Operand) (dT sT:TypeId) (hop:o.op=Op.call {callee:=Callee.builtin Builtin.copy,args:=#[d,x],argTypes:=#[dT,sT]})
 (v u:Value) (hd:a.eval d=v) (hx:a.eval x=u) {v':Value} {w':World} (hr:(Builtin.copy_ #[dT,sT] o.type #[v,u]).run P w=.ok v' w') (hK:K (a.put o.dst v') w'):
 if Region.wanted o (yielded ops a.tmps)=true then Oper.wp P o a w K Q else E:=by
 have hw:Region.wanted o (yielded ops a.tmps)=true:=by simp[Region.wanted,hg]
 rw[Yg hw];exact wp_copy_at w d x dT sT hop v u hd hx hr hK
end
structure LikeW (w w':World):Prop where
 heap:w'.heap=w.heap
 os:w'.os=w.os
 tape:w'.tape=w.tape
 output:w'.output=w.output
theorem LikeW.refl (w:World):LikeW w w:=⟨rfl,rfl,rfl,rfl⟩
theorem ins_list (cur:List Value) (cs vs:List Value) (a b z:Nat) (hab:a<=b) (hcs:cur.take b=cs) (hl:cs.length=b) (hv:vs.length=z) (hc:b+z<=cur.length):
 ((((cur.take (a+z)++cs.drop a++cur.drop (a+z+(cs.drop a).length)).take a)++vs++
   ((cur.take (a+z)++cs.drop a++cur.drop (a+z+(cs.drop a).length)).drop (a+vs.length))).take (b+z))=cs.take a++vs++cs.drop a:=by
 have hd:(cs.drop a).length=b-a:=by rw[Yn,hl]
 have hta:cs.take a=cur.take a:=by rw[<-hcs,List.take_take,Nat.min_eq_left hab]
 rw[hd,hv,hta];have hx:(cur.take (a+z)++cs.drop a++cur.drop (a+z+(b-a))).take a=cur.take a:=by
  rw[YU,Y8 Eu,List.take_take,Nat.min_eq_left EM]
 have hy:(cur.take (a+z)++cs.drop a++cur.drop (a+z+(b-a))).drop (a+z)=cs.drop a++cur.drop (a+z+(b-a)):=by
  rw[YU,List.drop_append_of_le_length Eu,List.drop_eq_nil_of_le Eu];rfl
 rw[hx,hy,<-YU,Y8 (by simp only[Ya,Yd,hd,hv];omega),YM (by simp only[Ya,Yd,hd,hv];omega)]
theorem flatC_take {α:Type} {f:α->List Value} {z:Nat} (hf:∀x,(f x).length=z):∀(l:List α) (i:Nat),(l.take i).flatMap f=(l.flatMap f).take (i*z)
 |[],i=>by simp
 |x::l,0=>by simp
 |x::l,i+1=>by
  have h1:=hf x;have h2:(f x).take (i*z+z)=f x:=YM (by rw[h1];exact Nat.le_add_left _ _);rw[Y2,YT,YT,flatC_take hf l i,Nat.succ_mul,List.take_append,h2,h1,Nat.add_sub_cancel]
theorem flatC_drop {α:Type} {f:α->List Value} {z:Nat} (hf:∀x,(f x).length=z):∀(l:List α) (i:Nat),(l.drop i).flatMap f=(l.flatMap f).drop (i*z)
 |[],i=>by simp
 |x::l,0=>by simp
 |x::l,i+1=>by
  have h1:=hf x;have h2:(f x).drop (i*z+z)=[]:=List.drop_eq_nil_of_le (by rw[h1];exact Nat.le_add_left _ _);rw[List.drop_succ_cons,YT,flatC_drop hf l i,Nat.succ_mul,List.drop_append,h2,h1,Nat.add_sub_cancel,Xf]
end
section
open Go.RowKit Go.Lib
def InsRaw (P:Program) (f:FuncId) (e:TypeId) (z:Nat):Prop:=Callable P f/\∀(w:World) (v u:Value) (css:List (Cel z)) (x:Cel z) (i:Nat),OwnF Subtype.val z w 0 e v css->OwnF Subtype.val z w 0 e u [x]->v.ownBlock≠u.ownBlock->i<=css.length->css.length<=1000->
 Calls P f #[v,.int .i64 i,u] w fun ex w'=>∃v',ex=.returned v'/\OwnF Subtype.val z w' 0 e v' (css.take i++x::css.drop i)/\w.grownBy w' v.ownBlock/\(v'.ownBlock=v.ownBlock\/v'.ownBlock=some w.heap.size)
theorem insAt_row {α:Type} (l:List α) (x:α) (i j:Nat) (hi:i<=l.length):(l.take i++x::l.drop i)[j]?=if j<i then l[j]? else if j=i then some x else l[j-1]?:=by
 have ht:(l.take i).length=i:=by rw[Yd];omega
 by_cases h1:j<i
 · rw[Yg h1,Yy EM,Xu,Yg h1]
 · rw[Yc h1,Yx EM,ht];by_cases h2:j=i
   · rw[Yg h2,h2,Nat.sub_self];rfl
   · rw[Yc h2,show j-i=(j-i-1)+1 by omega,List.getElem?_cons_succ,YS];congr 1;omega
theorem rPV_move {ok ok':Nat->Prop} {w w':World} {cs:List Value} {x:List PV} (hs:w.heap.size<=w'.heap.size) (h:∀b,b<w.heap.size->ok b->w'.heap[b]?=w.heap[b]?/\ok' b) (hx:rPV ok w cs x):rPV ok' w' cs x:=
 good_PV.weak _ _ _ _ _ (fun b _ hb=>(h b hb.2 hb.1).2) (good_PV.keep (fun b=>ok b/\b<w.heap.size) w w' _ _ ⟨hs,fun b hb hok=>(h b hb hok.1).1⟩ (good_PV.weak _ _ _ _ _ (fun b hb hok=>⟨hok,hb⟩) hx))
theorem qaz {α:Type} {g:α->List Value} {z:Nat} {w:World} {e:TypeId} {v:Value} {l:List α} (h:OwnF g z w 0 e v l):v.ownBlock=zb v:=by
 obtain⟨A,c,rfl,_⟩:=h.shape;rw[jN]
theorem own_one {α:Type} {g:α->List Value} {z:Nat} {w:World} {e:TypeId} {v:Value} {x:α} (h:OwnF g z w 0 e v [x]):∃b,v.ownBlock=some b/\b<w.heap.size:=by
 rcases h.2 with⟨_,h0⟩|⟨b,cap,cur,hv,_,hh,_⟩
 · simp at h0
 · exact⟨b,by rw[hv];rfl,lt_of_block hh⟩
theorem one_of_len {α:Type} {l:List α} (h:l.length=1):∃x,l=[x]:=by
 match l,h with
 |[x],_=>exact⟨x,rfl⟩
theorem insF_of {P:Program} {f:FuncId} {e:TypeId} {z:Nat} (H:InsRaw P f e z) (l:List (List PV)) (x:List PV) (i:Nat) (hi:i<=l.length) (hn:l.length<=1000):
 HoldsW P f [.row 1000000,.p (pI i),.row 1000001] [(1000000,.row e z l),(1000001,.row e z [x])] (.row 0) [(0,.row e z (l.take i++x::l.drop i))]:=by
 refine⟨H.1,fun w Sx γ vs hh hl hr=>?_⟩;have hv:∃a b c,vs=[a,b,c]:=by
  match vs,hl with
  |[a,b,c],_=>exact⟨a,b,c,rfl⟩
 obtain⟨a,b,c,rfl⟩:=hv;have ha:γ 1000000=a:=by
  cases hr 0 _ a rfl rfl with
  |row h=>exact Y6 h
 have hb:Value.int .i64 (i:Int)=b:=by
  cases hr 1 _ b rfl rfl with
  |p h=>exact(jn h rfl).symm
 have hc:γ 1000001=c:=by
  cases hr 2 _ c rfl rfl with
  |row h=>exact Y6 h
 subst ha hb hc;cases hh.box 1000000 _ rfl with
 |row h he hm hk=>
 cases hh.box 1000001 _ rfl with
 |row h2 he2 hm2 hk2=>
 obtain⟨css,o1,o2,o3⟩:=h;obtain⟨cs1,p1,p2,p3⟩:=h2;obtain⟨y,rfl⟩:=one_of_len p2;have hob:=qaz o1;have hub:=qaz p1;obtain⟨ub,hu1,hu2⟩:=own_one p1;have hne:(γ 1000000).ownBlock≠(γ 1000001).ownBlock:=fun h=>by
  rw[hu1]at h;have:=hh.inj 1000000 1000001 _ _ ub rfl rfl (hob▸h) (hub▸hu1);omega
 refine(H.2 w _ _ css y i o1 p1 hne EM EM).mono ?_;rintro ex w' ⟨v',rfl,g1,g2,g3⟩;have hvb:=qaz g1;have hlt0:∀b,(γ 1000000).ownBlock=some b->b<w.heap.size:=fun b hb=>(o1.lt b hb).2
 have g3':∀b,b<w.heap.size->some b=v'.ownBlock->some b=(γ 1000000).ownBlock:=fun b hb h=>by
  rcases g3 with g|g
  · rw[h,g]
  · rw[g]at h;cases h;omega
 have hsame:∀b,b<w.heap.size->some b≠(γ 1000000).ownBlock->w'.heap[b]?=w.heap[b]?:=fun b hb h=>g2.block b hb h
 refine⟨v',upd γ 0 v',.row 0,_,⟨rfl,rfl⟩,rfl,⟨⟨g2.os,g2.tape,g2.output,g2.size,fun b hb=>absurd hb (Nat.not_lt_zero _)⟩,fun b hb=>hsame b hb.1 fun h=>hb.2 1000000 _ rfl (hob▸h.symm)⟩,⟨fun k bx hkb=>?_,fun k m bk bm b hk1 hm1 _ _=>?_,?_⟩,?_⟩
 · rw[qK]at hkb;by_cases hk0:k=0
   · subst hk0;rw[Yg rfl]at hkb;cases hkb;have h0:upd γ 0 v' 0=v':=Yg rfl;refine .row ?_ (fun q hq=>?_) ?_ (fun b hb hB=>?_)
     · rw[h0];refine⟨_,g1,by simp only[Ya,Yd,Yf,Yn];omega,fun j h1 h2=>?_⟩;have e1:=insAt_row css y i j EM;have e2:=insAt_row l x i j hi;rw[Yi h1]at e1;rw[Yi h2]at e2;have moved:∀(j':Nat) (q1:Cel z) (q2:List PV),css[j']?=some q1->l[j']?=some q2->rPV (okR (wL Sx (upd γ 0 v') [(0,.row e z (l.take i++x::l.drop i))] 0) v') w' q1.val q2:=fun j' q1 q2 a1 a2=>by
        obtain⟨b1,rfl⟩:=Yr.1 a1;obtain⟨b2,rfl⟩:=Yr.1 a2;refine rPV_move g2.size (fun b hb hok=>⟨hsame b hb hok.2,⟨hok.1.1,fun m bm hm1 hm2=>?_⟩,fun h=>hok.2 (g3' b hb h)⟩) (o3 j' b1 b2);rw[qK,Yc hm2]at hm1;cases hm1
       by_cases c1:j<i
       · rw[Yg c1]at e1 e2;exact moved j _ _ e1.symm e2.symm
       · rw[Yc c1]at e1 e2;by_cases c2:j=i
         · rw[Yg c2]at e1 e2;rw[Y6 e1,Y6 e2];refine rPV_move g2.size (fun b hb hok=>⟨hsame b hb fun h=>hok.1.2 1000000 _ rfl EM (hob▸h.symm),⟨hok.1.1,fun m bm hm1 hm2=>?_⟩,fun h=>hok.1.2 1000000 _ rfl EM (hob▸(g3' b hb h).symm)⟩) (p3 0 EN EN);rw[qK,Yc hm2]at hm1;cases hm1
         · rw[Yc c2]at e1 e2;exact moved (j-1) _ _ e1.symm e2.symm
     · rcases YH.1 hq with h|h
       · exact he q (Xe h)
       · rcases Y4.1 h with rfl|h
         · exact he2 _ EN
         · exact he q (YV h)
     · simp only[Ya,Yd,Yf,Yn];unfold reachBytes;omega
     · rw[h0,<-hvb]at hb;exact hB.2 1000000 _ rfl (hob▸(g3' b hB.1 hb.symm).symm)
   · rw[Yc hk0]at hkb;cases hkb
 · have hz:∀{q:Nat} {bq:Box},lk q [(0,Box.row e z (l.take i++x::l.drop i))]=some bq->q=0:=fun{q bq} h=>by
    rw[qK]at h;by_cases h0:q=0
    · exact h0
    · rw[Yc h0]at h;cases h
   rw[hz hk1,hz hm1]
 · exact hh.sx.keep g2.size fun k bx hkb=>Or.inl (by
    rw[qK]at hkb;by_cases h0:k=0
    · omega
    · rw[Yc h0]at hkb;cases hkb)
 · exact ME
def RelLs (F:SV->Value->Prop) (a:List SV) (b:List Value):Prop:=a.length=b.length/\∀(j:Nat) (s:SV) (u:Value),a[j]?=some s->b[j]?=some u->F s u
theorem RelLs.app {F:SV->Value->Prop} {a a':List SV} {b b':List Value} (h:RelLs F a b) (h':RelLs F a' b'):RelLs F (a++a') (b++b'):=by
 refine⟨by rw[Ya,Ya,h.1,h'.1],fun j s u h1 h2=>?_⟩;by_cases hj:j<a.length
 · rw[Yy hj]at h1;rw[Yy (by rw[<-h.1];exact hj)]at h2;exact h.2 j s u h1 h2
 · rw[Yx EM]at h1;rw[Yx (by rw[<-h.1];omega),<-h.1]at h2;exact h'.2 _ s u h1 h2
theorem RelLs.rowF {F:SV->Value->Prop} {z:Nat}:∀(l:List (List PV)) (css:List (Cel z)),css.length=l.length->(∀(j:Nat) (q:Cel z) (x:List PV),css[j]?=some q->l[j]?=some x->q.val.length=x.length/\∀(k:Nat) (s:PV) (u:Value),x[k]?=some s->q.val[k]?=some u->F (.p s) u)->RelLs F (rowF l) (css.flatMap Subtype.val)
 |[],[],_,_=>⟨rfl,fun j s u h=>by simp[Go.Proofs.YtblgnefkgkchhaaGreatDoor.rowF]at h⟩
 |x::l,q::css,hl,h=>by
  have h0:=h 0 q x rfl rfl;have ih:=RelLs.rowF l css Ek fun j a b h1 h2=>h (j+1) a b (by simpa using h1) El
  have e:Go.Proofs.YtblgnefkgkchhaaGreatDoor.rowF (x::l)=x.map SV.p++Go.Proofs.YtblgnefkgkchhaaGreatDoor.rowF l:=rfl;rw[e,YT];refine RelLs.app ⟨by rw[Yb];exact h0.1.symm,fun k s u h1 h2=>?_⟩ ih;rw[YL]at h1;cases hx:x[k]? with
  |none=>rw[hx]at h1;cases h1
  |some y=>rw[hx]at h1;cases h1;exact h0.2 k y u hx h2
theorem insC_of {P:Program} {f:FuncId} {e e2:TypeId} {z2:Nat} (H:InsRaw P f e 5) (l:List (List PV)) (a1 a2 a3:PV) (z:Nat) (g:List (List PV)) (i:Nat) (hi:i<=l.length) (hn:l.length<=1000):
 HoldsW P f [.row 1000000,.p (pI i),.row 1000001] [(1000000,.row e 5 l),(1000001,.rws e 5 [] [.p a1,.p a2,.p a3,.p nilV,.row 1000002] []),(1000002,.row e2 z2 g)] (.row 0)
  [(0,.rws e 5 (l.take i) [.p a1,.p a2,.p a3,.p (.sl z []),.row 2] (l.drop i)),(2,.row e2 z2 g)]:=by
 refine⟨H.1,fun w Sx γ vs hh hl hr=>?_⟩;have hv:∃a b c,vs=[a,b,c]:=by
  match vs,hl with
  |[a,b,c],_=>exact⟨a,b,c,rfl⟩
 obtain⟨a,b,c,rfl⟩:=hv;have ha:γ 1000000=a:=by
  cases hr 0 _ a rfl rfl with
  |row h=>exact Y6 h
 have hb:Value.int .i64 (i:Int)=b:=by
  cases hr 1 _ b rfl rfl with
  |p h=>exact(jn h rfl).symm
 have hc:γ 1000001=c:=by
  cases hr 2 _ c rfl rfl with
  |row h=>exact Y6 h
 subst ha hb hc;cases hh.box 1000000 _ rfl with
 |row h he hm hk=>
 cases hh.box 1000001 _ rfl with
 |@rws _ _ _ _ _ cs1 nm p1 hz2 he2 p2 hmid p3 hm2 hk2=>
 cases hh.box 1000002 _ rfl with
 |row h4 he4 hm4 hk4=>
 obtain⟨css,o1,o2,o3⟩:=h;have hnm:nm=1:=by simp only[Yf,List.length_nil]at hmid;omega
 subst hnm;obtain⟨y,rfl⟩:=one_of_len (l:=cs1) (by simpa using p2);have hob:=qaz o1;have hub:=qaz p1;obtain⟨ub,hu1,hu2⟩:=own_one p1;have hne:(γ 1000000).ownBlock≠(γ 1000001).ownBlock:=fun h=>by
  rw[hu1]at h;have:=hh.inj 1000000 1000001 _ _ ub rfl rfl (hob▸h) (hub▸hu1);omega
 refine(H.2 w _ _ css y i o1 p1 hne EM EM).mono ?_;rintro ex w' ⟨v',rfl,g1,g2,g3⟩;have hvb:=qaz g1;have hlt0:∀b,(γ 1000000).ownBlock=some b->b<w.heap.size:=fun b hb=>(o1.lt b hb).2
 have g3':∀b,b<w.heap.size->some b=v'.ownBlock->some b=(γ 1000000).ownBlock:=fun b hb h=>by
  rcases g3 with g|g
  · rw[h,g]
  · rw[g]at h;cases h;omega
 have hsame:∀b,b<w.heap.size->some b≠(γ 1000000).ownBlock->w'.heap[b]?=w.heap[b]?:=fun b hb h=>g2.block b hb h
 obtain⟨own',hown⟩:∃own':List (Nat×Box),own'=[(0,.rws e 5 (l.take i) [.p a1,.p a2,.p a3,.p (.sl z []),.row 2] (l.drop i)),(2,.row e2 z2 g)]:=⟨_,rfl⟩;obtain⟨γ',hγ⟩:∃γ',γ'=upd (upd γ 0 v') 2 (γ 1000002):=⟨_,rfl⟩;have q0:γ' 0=v':=by rw[hγ];rfl
 have q2:γ' 2=γ 1000002:=by rw[hγ];rfl
 have lk0:lk 0 own'=some (.rws e 5 (l.take i) [.p a1,.p a2,.p a3,.p (.sl z []),.row 2] (l.drop i)):=by rw[hown];rfl
 have lk2:lk 2 own'=some (.row e2 z2 g):=by rw[hown];rfl
 have only:∀{k:Nat} {bx:Box},lk k own'=some bx->k=0\/k=2:=fun{k bx} h=>by
  rw[hown,qK]at h;by_cases h0:k=0
  · exact Or.inl h0
  · rw[Yc h0,qK]at h;by_cases h2:k=2
    · exact Or.inr h2
    · rw[Yc h2]at h;cases h
 have okn:∀b,b<w.heap.size->okO Sx γ [(1000000,.row e 5 l),(1000001,.rws e 5 [] [.p a1,.p a2,.p a3,.p nilV,.row 1000002] []),(1000002,.row e2 z2 g)] b->w'.heap[b]?=w.heap[b]?/\okO Sx γ' own' b:=fun b hb hok=>⟨hsame b hb fun h=>hok.2 1000000 _ rfl (hob▸h.symm),hok.1,fun k bx hk1 hk2=>by
  rcases only hk1 with rfl|rfl
  · rw[q0,<-hvb]at hk2;exact hok.2 1000000 _ rfl (hob▸(g3' b hb hk2.symm).symm)
  · rw[q2]at hk2;exact hok.2 1000002 _ rfl hk2⟩
 have okr:∀b,b<w.heap.size->okR (wL Sx γ [(1000000,.row e 5 l),(1000001,.rws e 5 [] [.p a1,.p a2,.p a3,.p nilV,.row 1000002] []),(1000002,.row e2 z2 g)] 1000000) (γ 1000000) b->w'.heap[b]?=w.heap[b]?/\okO Sx γ' own' b:=fun b hb hok=>okn b hb ⟨hok.1.1,fun k bx hk1 hk2=>by
  by_cases h0:k=1000000
  · subst h0;exact hok.2 (by rw[hob,hk2])
  · exact hok.1.2 k bx hk1 h0 hk2⟩
 have r1:RelLs (RelS (okO Sx γ' own') (hp γ' own') w') (rwC (l.take i) [.p a1,.p a2,.p a3,.p (.sl z []),.row 2] (l.drop i)) ((css.take i++y::css.drop i).flatMap Subtype.val):=by
  rw[List.flatMap_append,YT];unfold rwC;have mv:∀(j:Nat) (q:Cel 5) (x:List PV),css[j]?=some q->l[j]?=some x->q.val.length=x.length/\∀(k:Nat) (s:PV) (u:Value),x[k]?=some s->q.val[k]?=some u->RelS (okO Sx γ' own') (hp γ' own') w' (.p s) u:=fun j q x h1 h2=>by
   obtain⟨b1,rfl⟩:=Yr.1 h1;obtain⟨b2,rfl⟩:=Yr.1 h2;have:=rPV_move (ok':=okO Sx γ' own') g2.size okr (o3 j b1 b2);exact⟨this.1,fun k s u h3 h4=>.p (this.2 k s u h3 h4)⟩
  refine RelLs.app (RelLs.rowF _ _ (by rw[Yd,Yd,o2]) fun j q x h1 h2=>?_) (RelLs.app ?_ (RelLs.rowF _ _ (by rw[Yn,Yn,o2]) fun j q x h1 h2=>?_))
  · rw[Xu]at h1 h2;split at h1
    · rename_i hj;rw[Yg hj]at h2;exact mv j q x h1 h2
    · cases h1
  · refine⟨y.2.1.symm,fun j s u h1 h2=>?_⟩;have old:∀(k:Nat) (t:SV) (u:Value),([.p a1,.p a2,.p a3,.p nilV,.row 1000002]:List SV)[k]?=some t->y.val[k]?=some u->RelS (okO Sx γ [(1000000,.row e 5 l),(1000001,.rws e 5 [] [.p a1,.p a2,.p a3,.p nilV,.row 1000002] []),(1000002,.row e2 z2 g)]) (hp γ [(1000000,.row e 5 l),(1000001,.rws e 5 [] [.p a1,.p a2,.p a3,.p nilV,.row 1000002] []),(1000002,.row e2 z2 g)]) w t u:=fun k t u h3 h4=>p3 k t u (by rw[show rwC [] [.p a1,.p a2,.p a3,.p nilV,.row 1000002] []=[.p a1,.p a2,.p a3,.p nilV,.row 1000002]from rfl];exact h3) (by rw[YT,List.flatMap_nil,Xa];exact h4)
    have plainC:∀(x:PV),RelS (okO Sx γ [(1000000,.row e 5 l),(1000001,.rws e 5 [] [.p a1,.p a2,.p a3,.p nilV,.row 1000002] []),(1000002,.row e2 z2 g)]) (hp γ [(1000000,.row e 5 l),(1000001,.rws e 5 [] [.p a1,.p a2,.p a3,.p nilV,.row 1000002] []),(1000002,.row e2 z2 g)]) w (.p x) u->RelS (okO Sx γ' own') (hp γ' own') w' (.p x) u:=fun x hx=>hx.keep2 g2.size okn fun k hk=>by cases hk
    match j,h1 with
    |0,h1=>cases h1;exact plainC _ (old 0 _ u rfl h2)
    |1,h1=>cases h1;exact plainC _ (old 1 _ u rfl h2)
    |2,h1=>cases h1;exact plainC _ (old 2 _ u rfl h2)
    |3,h1=>
     cases h1;have h5:=old 3 _ u rfl h2;cases h5 with
     |p h6=>
      have h7:=jn h6 rfl;subst h7;exact .p (.sl (A:=none) (c:=0) (Yj _) ⟨Yl _,Yl _⟩ (fun _ h=>by cases h) (fun h=>absurd h EN) (fun _ _ _ _ h=>by cases h) (fun _ _ _ _ _ _ _ h=>by cases h))
    |4,h1=>
     cases h1;have h5:=old 4 _ u rfl h2;cases h5 with
     |row h6=>
      have h7:γ 1000002=u:=Y6 h6;exact .row (by rw[qY lk2,q2,h7])
    |j+5,h1=>simp at h1
  · rw[YS]at h1 h2;exact mv (i+j) q x h1 h2
 refine⟨v',γ',.row 0,_,⟨rfl,rfl⟩,rfl,⟨⟨g2.os,g2.tape,g2.output,g2.size,fun b hb=>absurd hb (Nat.not_lt_zero _)⟩,fun b hb=>hsame b hb.1 fun h=>hb.2 1000000 _ rfl (hob▸h.symm)⟩,?_,?_⟩
 · rw[<-hown];refine⟨fun k bx hkb=>?_,fun k m bk bm b hk1 hm1 hb1 hb2=>?_,?_⟩
   · rcases only hkb with rfl|rfl
     · rw[lk0]at hkb;cases hkb;refine .rws (css:=css.take i++y::css.drop i) (nm:=1) (by rw[q0];exact g1) EM (fun q hq=>?_) (by simp only[Ya,Yd,Yf,Yn];omega) rfl (fun j s u h1 h2=>r1.2 j s u h1 h2) (by simp only[Ya,Yd,Yf,Yn];unfold reachBytes;omega) fun b hb hB=>?_
       · rcases YH.1 hq with h|h
         · exact he q (Xe h)
         · exact he q (YV h)
       · rw[q0,<-hvb]at hb;exact hB.2 1000000 _ rfl (hob▸(g3' b hB.1 hb.symm).symm)
     · rw[lk2]at hkb;cases hkb;obtain⟨cg,c1,c2,c3⟩:=h4;refine .row ?_ he4 hm4 fun b hb hB=>?_
       · rw[q2];have hgb:=qaz c1;have hgo:(γ 1000002).ownBlock=none\/(γ 1000002).ownBlock≠(γ 1000000).ownBlock:=by
          cases hg:(γ 1000002).ownBlock with
          |none=>exact Or.inl rfl
          |some b=>
           refine Or.inr fun h=>?_
           have:=hh.inj 1000000 1000002 _ _ b rfl rfl (by rw[<-hob,<-h]) (by rw[<-hgb,hg]);omega
         refine⟨cg,c1.kept g2 hgo,c2,fun j b1 b2=>rPV_move g2.size (fun b hb hok=>⟨hsame b hb fun h=>hok.1.2 1000000 _ rfl EM (hob▸h.symm),⟨hok.1.1,fun m bm hm1 hm2 hm3=>?_⟩,hok.2⟩) (c3 j b1 b2)⟩;rcases only hm1 with rfl|rfl
         · rw[q0,<-hvb]at hm3;exact hok.1.2 1000000 _ rfl EM (hob▸(g3' b hb hm3.symm).symm)
         · exact hm2 rfl
       · rw[q2]at hb;exact hB.2 1000002 _ rfl hb
   · rcases only hk1 with rfl|rfl<;>rcases only hm1 with rfl|rfl
     · rfl
     · rw[q0,<-hvb]at hb1;rw[q2]at hb2;have hbl:=(hh.blk (i:=1000002) rfl hb2).2;have:=hh.inj 1000000 1000002 _ _ b rfl rfl (hob▸(g3' b hbl hb1.symm).symm) hb2;omega
     · rw[q0,<-hvb]at hb2;rw[q2]at hb1;have hbl:=(hh.blk (i:=1000002) rfl hb1).2;have:=hh.inj 1000000 1000002 _ _ b rfl rfl (hob▸(g3' b hbl hb2.symm).symm) hb1;omega
     · rfl
   · exact hh.sx.keep g2.size fun k bx hkb=>Or.inl (by rcases only hkb with rfl|rfl<;>omega)
 · rw[<-hown];exact .row (by rw[qY lk0,q0])
end
section
open Go.RowKit Go.Lib
attribute [local go_sem] qab jB
attribute [local go_sem low] jy zU
theorem grow_raw (n:Nat) (hn:n<=100000000) (w:World):Calls prog 150 #[.slice none 0 0,.int .i64 n] w fun e w'=>∃v,e=.returned v/\OwnF Subtype.val 1 w' 0 5 v ([]:List (Cel 1))/\Below w.heap.size w w'/\(v.ownBlock=none\/v.ownBlock=some w.heap.size):=by
 obtain⟨info,zv,hinf,hsize,hby,hzv,hzc⟩:=(qc 5 _ rfl).info;have hz1:zv.cells.size=1:=by rw[<-Yw,hzc];rfl
 have hsz1:info.size=1:=hsize;have hb1:info.bytes=1:=hby;have h1:¬((n:Int)<0):=by omega
 have h2:IntKind.i64.wrap ((n:Int)-0)=(n:Int):=YB _ EM;have h2':IntKind.i64.wrap ((n:Int))=(n:Int):=YB _ EM;rcases Nat.eq_zero_or_pos n with h0|h0
 · subst h0;go_enter func150,ntmps150
   go_wp2
   go_ret
   exact⟨_,rfl,ownF_nil _ _ _ _,Below.refl _ _,Or.inl rfl⟩
 · have h3:(n:Int)>0:=by omega
   have hr:=fun ty=>Lib.run_append_nil_zeros (P:=prog) w 100 3 ty 5 info zv .i64 .i64 underlying100 underlying3 hinf hzv n h0 EM EM (by rw[hb1];omega)
   obtain⟨G,hG⟩:∃G,G=grownCap w n 0 5:=⟨_,rfl⟩;obtain⟨ROW,hROW⟩:∃ROW:Array Value,ROW=Builtin.zeroCells zv.cells n++Builtin.zeroCells zv.cells (G-n):=⟨_,rfl⟩;have hGn:n<=G:=by rw[hG];exact grownCap_ge w _ _ _
   have hGm:G<=maxLen:=by
    have:=grownCap_le_maxLen w n 0 5 LW;rwa [<-hG]at this
   have hG63:G<=9223372036854775807:=by unfold maxLen at hGm;exact hGm
   have hRs:ROW.size=G*1:=by
    rw[hROW];simp only[Array.size_append,Builtin.zeroCells,Array.size_map,Array.size_range,hz1];omega
   rw[<-hG,<-hROW]at hr;replace hG:=hide hG
   replace hROW:=hide hROW
   go_enter func150,ntmps150
   go_wp2_with (at_builtin;refine Lib.wpList_append_run _ rfl _ _ _ _ rfl _ _ rfl rfl _ _ (hr _) ?_)
   go_ret
   exact⟨_,rfl,⟨rfl,.inr ⟨w.heap.size,G,ROW,rfl,Yl _,heap_alloc_new w _,Yl _,hGm,hRs,by simp⟩⟩,((Below.refl _ w).alloc (Yj _) _).drew,Or.inr rfl⟩
theorem holds_row0 {P:Program} {f:FuncId} {e:TypeId} {z:Nat} {args:List PV} (hc:Callable P f) (hf:∀p∈args,flatP p=true)
 (H:∀w,Calls P f (args.map valP).toArray w fun ex w'=>∃v,ex=.returned v/\OwnF Subtype.val z w' 0 e v ([]:List (Cel z))/\Below w.heap.size w w'/\(v.ownBlock=none\/v.ownBlock=some w.heap.size)):
 HoldsW P f (args.map SV.p) [] (.row 0) [(0,.row e z [])]:=by
 refine⟨hc,fun w Sx γ vs hh hl hr=>?_⟩;have hvs:vs=args.map valP:=List.ext_getElem (by rw[hl,Yb,Yb]) fun i h1 h2=>by
  have h3:i<args.length:=by rw[Yb]at h2;exact h2
  have h4:=hr i (.p args[i]) vs[i] (by rw[YL,Yi h3];rfl) (Yi h1);rw[List.getElem_map];cases h4 with
  |p h5=>exact jn h5 (hf _ (Yp h3))
 rw[hvs];refine(H w).mono ?_;rintro ex w' ⟨v,rfl,g1,g2,g3⟩;have hvb:=qaz g1;refine⟨v,upd γ 0 v,.row 0,_,⟨rfl,rfl⟩,rfl,⟨⟨g2.os,g2.tape,g2.output,g2.size,fun b hb=>absurd hb (Nat.not_lt_zero _)⟩,fun b hb=>g2.block b hb.1⟩,⟨fun k bx hkb=>?_,fun k m bk bm b hk1 hm1 _ _=>?_,?_⟩,?_⟩
 · rw[qK]at hkb;by_cases hk0:k=0
   · subst hk0;rw[Yg rfl]at hkb;cases hkb;have h0:upd γ 0 v 0=v:=Yg rfl;refine .row (by rw[h0];exact⟨[],g1,rfl,fun j h1=>absurd h1 EN⟩) (fun q hq=>by cases hq) (Yl _) fun b hb hB=>?_
     rw[h0,<-hvb]at hb;rcases g3 with g|g
     · rw[g]at hb;cases hb
     · rw[g]at hb;cases hb;exact absurd hB.1 (Nat.lt_irrefl _)
   · rw[Yc hk0]at hkb;cases hkb
 · have hz:∀{q:Nat} {bq:Box},lk q [(0,Box.row e z [])]=some bq->q=0:=fun{q bq} h=>by
    rw[qK]at h;by_cases h0:q=0
    · exact h0
    · rw[Yc h0]at h;cases h
   rw[hz hk1,hz hm1]
 · exact hh.sx.keep g2.size fun k bx hkb=>Or.inl (by
    rw[qK]at hkb;by_cases h0:k=0
    · omega
    · rw[Yc h0]at hkb;cases hkb)
 · exact ME
theorem grow_h (n:Nat) (hn:n<=100000000):HoldsW prog 150 [.p nilV,.p (pI n)] [] (.row 0) [(0,.row 5 1 [])]:=
 holds_row0 (args:=[nilV,pI n]) ⟨_,func150,by kernel_rfl,by kernel_rfl⟩ (fun p hp=>by
  simp only[Y4,Xv,or_false]at hp;rcases hp with rfl|rfl<;>rfl) fun w=>grow_raw n hn w
end
section
open Go.RowKit
variable {P:Program} {st st2:St}
theorem qO (hwk:Wk st st2) {o:Oper} {cl:Call} {fo:Operand} {f:FuncId} {caps:List PV} {ps:List PV} {ids:List Nat} {r:SV} (ho:o.op=.call cl) (hcl:cl.callee=.value fo) (hfo:evS st2 fo=some (.p (.fn f caps))) (hargs:argPs st2 cl.args.toList=some (ps,ids))
 (H:Holds P f (ps++caps) r []) (hd:wa st o.dst=true) (hfl:flatS r=true) {Q:St->Prop} (h:Q (st.put o.dst r)):ActOk P [] o st Q:=by
 intro w0 Sx γ a w QQ hI;obtain⟨γ',hI'⟩:=hwk w0 Sx γ a w hI;refine call_run hI' ho hcl hfo hargs H fun v γ1 w' hb _ hr=>?_
 refine⟨γ,_,h,(hI.grow hb).put hd (hr.flat hfl),⟨hb.size,fun b hlt _=>hb.block b hlt⟩,fun K _ b _ hv=>?_⟩;have:(st.put o.dst r).own=st.own:=by cases o.dst<;>rfl
 rw[this];exact hv
theorem act_frz {Ws:List Nat} {o:Oper} {Q:St->Prop} (h:ActOk P Ws o st fun st'=>∃k e z l,lk k st'.own=some (.row e z l)/\Q (st'.frz k z l)):ActOk P Ws o st Q:=by
 intro w0 Sx γ a w QQ hI;refine Oper.wp_mono (fun a' w' hq'=>?_) (h w0 Sx γ a w QQ hI);obtain⟨γ',st',⟨k,e,z,l,hk,hq⟩,hs,h3,h4⟩:=hq';refine⟨γ',_,hq,sim_frz hk hs,h3,fun K hK b hb hv i bx hi hc=>?_⟩;have hi':(lk i st'.own).isSome=true:=by
  rw[show(st'.frz k z l).own=(del k st'.own).map fun p=>(p.1,p.2.frz k z l)from rfl,lk_map,lk_del]at hi;split at hi
  · cases hi
  · cases hx:lk i st'.own with
    |none=>rw[hx]at hi;cases hi
    |some _=>rfl
 obtain⟨by_,h2⟩:=Yv.1 hi';exact h4 K hK b hb hv i by_ h2 hc
theorem qL {T:TT} (hT:zi P T) {o:Oper} {t e:TypeId} {len:Nat} {parts:Array (Nat×Operand)} (ho:o.op=.buildSlice t len parts) {d:Nat} (hdst:o.dst=some d) {ti ei:TyI} (ht:lk t T=some ti) (hte:ti.d=.sl e) (he:lk e T=some ei)
 (hsz:Nat.blt 0 ei.size=true) (hsmall:Nat.ble (len*ei.size) 16777216=true) {xs:List Operand} (hxs:jJ 0 parts.toList=some xs) (hlen:Nat.beq xs.length len=true) {l:List (List PV)} (hl:bElems st ei.size xs=some l)
 (hd:lk d st.own=none) (hn:Nat.blt d st.n=true) {Q:St->Prop} (h:Q ((⟨st.n,(d,.row d)::st.fr,(d,.row e ei.size l)::st.own⟩:St).frz d ei.size l)):ActOk P [] o st Q:=
 act_frz (zf hT ho hdst ht hte he hsz hsmall hxs hlen hl hd hn ⟨d,e,ei.size,l,by rw[qK,Yg rfl],h⟩)
theorem opR_loadL {T:TT} {K:List Nat} {st:St} {t:TypeId} {ad:Operand} {i:TyI} {j z k:Nat} {e:TypeId} {l:List (List PV)} {x:List PV} {s:PV} (ht:lk t T=some i) (had:evS st ad=some (.eptr j z k 0)) (hK:K.contains j=false) (hj:lk j st.own=some (.row e z l)) (hx:l[k]?=some x) (hs:takeT i x=some s):opR T K st (.load t ad)=some (k<l.length,.p s):=by
 show rLoad T K st t (evS st ad)=_;unfold rLoad;rw[had,ht];have h9:l.getD k []=x:=by rw[List.getD_eq_getElem?_getD,hx];rfl
 have hz:Nat.beq z z=true:=Nat.beq_refl z;simp only[hK,hj,hz,h9,List.drop_zero,hs,cond_true]
end
end Go.Proofs.YtblgnefkgkchhaaGreatDoor
