/- Part 4. -/
import Derived.Scope
import Derived.Laws.BytesString
import Derived.Test.YtblgnefkgkchhaaGreatDoorRows
import Derived.Laws.MakeOwn
import Derived.Laws.CopyRow
import Derived.Lib.Overlaps
import Derived.Lib.AppendZerosOnto
import Derived.Laws.NewBlocks
import Derived.Laws.IdiomCopy
import Derived.Test.YtblgnefkgkchhaaGreatDoorPk3
set_option maxHeartbeats 4000000
set_option linter.unusedSimpArgs false
set_option linter.unusedVariables false
namespace Go.Proofs.YtblgnefkgkchhaaGreatDoor
open _root_.Go.Proofs.Tryz
section
open Go.RowKit
def RdO (P:Program) (K:List Nat) (st:St) (o:Oper) (s:SV):Prop:=∀(w0:Base) (Sx:Nat->Prop) (γ:Nat->Value) (a:Act) (w:World),Sim w0 Sx γ st a w->
 ∃v,RelS (okO Sx γ st.own) (hp γ st.own) w s v/\∀x,SameOn (vis K γ st.own) w x->(execOp a.eval o).run P x=.ok (.value v) x
section
variable {P:Program} {T:TT} (hT:zm P T) {K:List Nat} {st:St} {o:Oper} {β:Type} {k:SV->Option β} {b:β}
theorem RdO.of_sem {s:SV} {sem:Act->Sem Value} (he:∀a:Act,execOp a.eval o=(do pure (.value (<-sem a)):Sem Next)) (h:∀(w0:Base) (Sx:Nat->Prop) (γ:Nat->Value) (a:Act) (w:World),Sim w0 Sx γ st a w->Rd P K Sx γ st w (sem a) s):RdO P K st o s:=fun w0 Sx γ a w hI=>by
 obtain⟨v,h1,h2⟩:=h w0 Sx γ a w hI;exact⟨v,h1,fun x hx=>by rw[he];exact run_v (h2 x hx)⟩
theorem ql {s:SV} {Q:St->Prop} (h:RdO P K st o s) (hd:jW st o.dst=true) (hQ:Q (st.put o.dst s)):ActOk P [] o st Q:=by
 intro w0 Sx γ a w QQ hI;obtain⟨v,h1,h2⟩:=h w0 Sx γ a w hI;unfold Oper.wp;rw[h2 w (SameOn.refl _ _)];refine⟨γ,_,hQ,hI.put hd h1,SameOn.refl _ _,fun K _ b _ hv=>?_⟩;rw[qaE];exact hv
include hT in
theorem qf {s:SV} {c:Prop} (h:opR T K st o.op=some (c,s)) (hc:c):RdO P K st o s:=fun _ _ _ _ _ hI=>opR_ok hT hI h hc
theorem goF_ok {r:Option (Prop×SV)} {c:Bool} (h:goF r c k=some b):∃p s,r=some (p,s)/\c=true/\k s=some b:=by
 unfold goF at h;split at h
 · rename_i p s;cases c with
   |false=>cases h
   |true=>rw[cond_true,fSV_eq]at h;exact⟨p,s,rfl,rfl,h⟩
 · cases h
theorem rLoadC_ok {t:TypeId} {x:Option SV} {s:SV} {c:Prop} (h:rLoad T K st t x=some (c,s)) (hc:rLoadC st x=true):c:=by
 unfold rLoad at h;split at h
 · split at h
   · split at h
     · cases h;exact trivial
     · cases h
   · split at h
     · cases h
     · split at h
       · split at h
         · split at h
           · cases h;exact trivial
           · cases h
         · cases h
       · cases h
   · split at h
     · cases h
     · simp only[rLoadC,lkF_eq]at hc;split at h
       · rename_i z' l hj;rw[hj]at hc;rename_i z kk _ _ _;generalize hb:Nat.beq _ _=q at h;cases q with
         |false=>cases h
         |true=>
          simp only[cond_true]at h;split at h
          · cases h;simpa [Nat.blt,YJ]using hc
          · cases h
       · cases h
   · cases h
 · cases h
theorem bytesOf_get:∀{l:List (List PV)} {bs:List UInt8},bytesOf l=some bs->bs.length=l.length/\∀i:Nat,i<l.length->∃n:Int,l[i]?=some [.v (.int .u8 n)]/\bs[i]?=some (UInt8.ofNat n.toNat)
 |[],bs,h=>by simp only[bytesOf,Ye]at h;subst h;exact⟨rfl,fun i hi=>by simp at hi⟩
 |c::r,bs,h=>by
  unfold bytesOf at h;split at h
  · rename_i b hb;split at h
    · rename_i l hl;simp only[Ye]at h;subst h;obtain⟨h1,h2⟩:=bytesOf_get hl;refine⟨by simp[h1],fun i hi=>?_⟩;cases i with
      |zero=>
       unfold byteOf at hb;split at hb
       · rename_i n;cases hb;exact⟨n,rfl,rfl⟩
       · cases hb
      |succ i=>
       obtain⟨n,g1,g2⟩:=h2 i Di;exact⟨n,by simpa using g1,by simpa using g2⟩
    · cases h
  · cases h
theorem push_fold:∀(ns:List Int) (s:DT),ns.foldl (fun r n=>r.push (UInt8.ofNat n.toNat)) s=⟨⟨s.data.toList++ns.map fun n=>UInt8.ofNat n.toNat⟩⟩
 |[],s=>by
  apply ByteArray.ext;apply Xw.1;simp
 |n::ns,s=>by
  rw[List.foldl_cons,push_fold ns];apply ByteArray.ext;apply Xw.1;simp[ByteArray.push]
theorem run_text {sT dT e:TypeId} {A:Option Addr} {c:Nat} {l:List (List PV)} {bs:List UInt8} {x:World} (hs:P.underlying sT=some (.slice e)) (he:P.underlying e=some (.int .u8)) (hd:P.underlying dT=some .string) (hl:bytesOf l=some bs)
 (h:0<l.length->∃b o,A=some ⟨b,o,none⟩/\∀i n,l[i]?=some [.v (.int .u8 n)]->x.cell? ⟨b,o+i,none⟩=some (.int .u8 n)):
 (convert sT dT (.slice A l.length c)).run P x=.ok (.string ⟨⟨bs⟩⟩) x:=by
 rw[run_convert_bytes_string x sT dT e A l.length c hs he hd];obtain⟨g1,g2⟩:=bytesOf_get hl;cases A with
 |none=>
  have:l=[]:=by
   rcases Nat.eq_zero_or_pos l.length with h0|h0
   · exact Xi h0
   · obtain⟨b,o,hA,_⟩:=h h0;cases hA
  subst this;have:bs=[]:=Xi g1
  subst this;simp[Conv.bytesToString];rfl
 |some ad=>
  have hex:∀i:Nat,∃n:Int,i<l.length->l[i]?=some [.v (.int .u8 n)]/\bs[i]?=some (UInt8.ofNat n.toNat):=fun i=>by
   by_cases hi:i<l.length
   · obtain⟨n,h1⟩:=g2 i hi;exact⟨n,fun _=>h1⟩
   · exact⟨0,fun h=>absurd h hi⟩
  obtain⟨f,hf⟩:=Classical.axiomOfChoice hex;have hbs:bs=((List.range l.length).map f).map fun n=>UInt8.ofNat n.toNat:=by
   refine List.ext_getElem? fun i=>?_
   by_cases hi:i<l.length
   · rw[(hf i hi).2];simp[hi]
   · rw[YT DP,YT DE]
  have hcells:∀j v,(((List.range l.length).map f).map (Value.int .u8))[j]?=some v->x.cell? (ad.add j)=some v:=fun j v hv=>by
   have hj:j<l.length:=by have:=(Yq.1 hv).1;simpa using this
   obtain⟨b,o,hA,hx⟩:=h DP;cases hA;rw[we];simp[hj]at hv;rw[<-hv];exact hx j _ (hf j hj).1
  have h1:=run_loadCells_list (P:=P) x ad _ hcells;rw[Yb,Yb,List.length_range]at h1;rw[run_bytesToString x ad l.length c _ h1,push_fold,hbs];rfl
include hT in
theorem eConv_ok {sT dT:TypeId} {x:Operand} (ho:o.op=.convert sT dT x) (h:eConv T K st sT dT (evS st x) k=some b):∃s,RdO P K st o s/\k s=some b:=by
 have put:∀{l:List (List PV)},eText T sT dT l k=some b->(∀(w0:Base) (Sx:Nat->Prop) (γ:Nat->Value) (a:Act) (w:World),Sim w0 Sx γ st a w->∃A c,a.eval x=.slice A l.length c/\∀z,SameOn (vis K γ st.own) w z->0<l.length->∃b o,A=some ⟨b,o,none⟩/\∀i n,l[i]?=some [.v (.int .u8 n)]->z.cell? ⟨b,o+i,none⟩=some (.int .u8 n))->
  ∃s,RdO P K st o s/\k s=some b:=fun{l} h hx=>by
  unfold eText at h;rw[lkF_eq,lkF_eq]at h;split at h
  · rename_i e _ _ _ _ _ _ hs hd;rw[lkF_eq]at h;split at h
    · rename_i bs he hbs;rw[fList_eq]at h;have us:=(hT sT _ hs).und;have ud:=(hT dT _ hd).und;have ue:=(hT e _ he).und;simp only[jV]at us ud ue;refine⟨_,RdO.of_sem (sem:=fun a=>convert sT dT (a.eval x)) (fun a=>by simp only[execOp,ho]) fun w0 Sx γ a w hI=>?_,h⟩;obtain⟨A,c,ha,hc⟩:=hx w0 Sx γ a w hI;exact⟨_,.p (.v rfl),fun z hz=>by rw[ha];exact run_text us ue ud hbs (hc z hz)⟩
    · cases h
  · cases h
 unfold eConv at h;split at h
 · rename_i zz l hx;refine put h fun w0 Sx γ a w hI=>?_
   have hr:=(qK hI hx).p_inv;obtain⟨A,c,hv,_⟩:=hr.slat;refine⟨A,c,hv,fun z hz hl=>?_⟩;have hrz:RelP (okO Sx γ st.own) z (.sl zz l) (a.eval x):=hr.keep (hz.weak fun b _ hok=>okO_vis hok);obtain⟨A2,c2,hv2,_,_,he,hsl⟩:=hrz.slat;rw[hv]at hv2;cases hv2;obtain⟨b,o,hA,_,_,hc⟩:=hsl hl;refine⟨b,o,hA,fun i n hi=>?_⟩;have hil:i<l.length:=(Yq.1 hi).1;have hz1:zz=1:=by have:=(he _ (YI hi)).1;simpa using this.symm
   obtain⟨cs,q1,q2,q3⟩:=hc i hil;have hli:l[i]=[.v (.int .u8 n)]:=by rw[Yj hil]at hi;exact YS hi
   rw[hli]at q3;have hcl:cs.length=1:=q3.1;have hcs:∃u,cs=[u]:=by
    match cs,hcl with
    |[u],_=>exact⟨u,rfl⟩
   obtain⟨u,rfl⟩:=hcs;have hu:=jn (q3.2 0 _ u rfl rfl) rfl;subst hu;have:=q2 0 _ rfl;rw[hz1,Nat.mul_one,Nat.add_zero]at this;exact this
 · rename_i hx;refine put h fun w0 Sx γ a w hI=>⟨none,0,(qK hI hx).v_inv,fun z _ hl=>by simp at hl⟩
 · rename_i j hx;cases hK:K.contains j with
   |true=>rw[hK]at h;cases h
   |false=>
    rw[hK,cond_false,lkF_eq]at h;split at h
    · rename_i e zz l hj;refine put h fun w0 Sx γ a w hI=>?_
      have hr:=qK hI hx;obtain⟨A,c,g1,g2,g3,g4,g5⟩:=row_slat hI.heap hj;have ha:a.eval x=γ j:=by
       generalize a.eval x=u at hr;cases hr with
       |row hg=>rw[zb hj]at hg;cases hg;rfl
      refine⟨A,c,by rw[ha,g1],fun z hz hl=>?_⟩;obtain⟨b,o,hA,hlt,hc⟩:=g5 hl;refine⟨b,o,hA,fun i n hi=>?_⟩;have hil:i<l.length:=(Yq.1 hi).1;have hz1:zz=1:=by have:=(g4 _ (YI hi)).1;simpa using this.symm
      obtain⟨cs,q1,q2,q3,q4⟩:=hc i hil;have hli:l[i]=[.v (.int .u8 n)]:=by rw[Yj hil]at hi;exact YS hi
      rw[hli]at q4;have hcs:∃u,cs=[u]:=by
       match cs,(q4.1:cs.length=1)with
       |[u],_=>exact⟨u,rfl⟩
      obtain⟨u,rfl⟩:=hcs;have hu:=jn (q4.2 0 _ u rfl rfl) rfl;subst hu;have:=q2 0 _ rfl;rw[hz1,Nat.mul_one,Nat.add_zero]at this;have hbj:zg (γ j)=some b:=by rw[g1,hA];rfl
      rw[World.cell?_of_block (w:=w) (a:=⟨b,o+i,none⟩) (hz.block b hlt fun i2 bx h1 h2 h3=>?_)]
      · exact this
      · have:=hI.heap.inj i2 j _ _ b h1 hj h3 hbj;subst this;rw[hK]at h2;cases h2
    · cases h
 · obtain⟨p,s,h1,_,h3⟩:=goF_ok h;refine⟨s,qf hT (by rw[ho];exact h1) ?_,h3⟩;unfold rConv at h1
   repeat' split at h1
   all_goals first|(cases h1;done)|(cases h1;exact trivial)
end
section
variable {P:Program} {T:TT} (hT:zm P T) {st:St} {o:Oper} {β:Type} {k:List Nat->St->Option β} {b:β}
theorem ActOk.frz {Ws:List Nat} {Q:St->Prop} {i:Nat} {e:TypeId} {z:Nat} {l:List (List PV)} (hk:lk i st.own=some (.row e z l)) (h:ActOk P Ws o (st.frz i z l) Q):ActOk P Ws o st Q:=by
 intro w0 Sx γ a w QQ hI;have old:∀{j bx},lk j (st.frz i z l).own=some bx->∃b0,lk j st.own=some b0:=fun{j bx} hj=>by
  have hj:lk j ((del i st.own).map fun p=>(p.1,p.2.frz i z l))=some bx:=hj;rw[lk_map,lk_del]at hj;split at hj
  · cases hj
  · obtain⟨b0,h1,_⟩:=YP.1 hj;exact⟨b0,h1⟩
 have hv:∀K b,vis K γ st.own b->vis K γ (st.frz i z l).own b:=fun K b hv j bx hj hK hb=>by
  obtain⟨b0,h1⟩:=old hj;exact hv j b0 h1 hK hb
 refine Oper.wp_mono (fun a' w' hq=>?_) (h w0 Sx γ a w QQ (sim_frz hk hI));obtain⟨γ',st',h1,h2,h3,h4⟩:=hq;exact⟨γ',st',h1,h2,⟨h3.size,fun b hb hv'=>h3.block b hb (hv _ b hv')⟩,fun K hK b hb hv'=>h4 K hK b hb (hv K b hv')⟩
section
variable {sx xx:Operand} {t e:TypeId} {cl:Call} (ho:o.op=.call cl) (hcl:cl.callee=.builtin .append) (hargs:cl.args.toList=[sx,xx]) (hts:cl.argTypes.toList=[t,t]) {d:Nat} (hdst:o.dst=some d)
 {ti ei:TyI} (ht:lk t T=some ti) (hte:ti.d=.sl e) (he:lk e T=some ei) (hsz:Nat.blt 0 ei.size=true) (hz:Nat.beq ei.zero.length ei.size=true)
include hT ho hcl hargs hts hdst ht hte he hsz hz
end
def EvOk (P:Program) (cx:Cx) (ev:FuncId->FnI->List SV->List (Nat×Box)->Ret):Prop:=∀f fi args own r own',lk f cx.F=some fi->ev f fi args own=some (r,own')->HoldsW P f args own r own'
def TabOk (P:Program) (cx:Cx):Prop:=∀f ps r,cx.C f ps=some r->Holds P f ps r []
end
theorem ActOk.mono {P:Program} {Ws:List Nat} {o:Oper} {st:St} {Q Q':St->Prop} (h:ActOk P Ws o st Q) (hq:∀s,Q s->Q' s):ActOk P Ws o st Q':=fun w0 Sx γ a w QQ hI=>by
 refine Oper.wp_mono (fun a' w' h'=>?_) (h w0 Sx γ a w QQ hI);obtain⟨γ',st',h1,h2⟩:=h';exact⟨γ',st',hq _ h1,h2⟩
section
variable {P:Program} {cx:Cx} (hT:zm P cx.T) (hC:TabOk P cx) {ev:FuncId->FnI->List SV->List (Nat×Box)->Ret} (hev:EvOk P cx ev)
section
variable {st:St} {o:Oper} {β:Type} {k:List Nat->St->Option β} {b:β}
end
end
section
variable {P:Program} {T:TT} (hT:zm P T)
include hT in
theorem resO_ok {st:St} {w0:Base} {Sx:Nat->Prop} {γ:Nat->Value} {a:Act} {w:World} (hI:Sim w0 Sx γ st a w) {f:ResultVar->Sem Value} (hf1:∀t,f (.tmp t)=pure (a.tmps.getD t undef)) (hf2:∀c t,f (.cell c t)=(do loadVar t (<-asAddr (a.tmps.getD c undef)))) {rv:ResultVar} {s:SV} (h:resO T st rv=some s):
 ∃v,(f rv).run P w=.ok v w/\RelS (okO Sx γ st.own) (hp γ st.own) w s v:=by
 cases rv with
 |tmp t=>exact⟨_,by rw[hf1];rfl,hI.fr t s h⟩
 |cell c t=>
  simp only[resO]at h;split at h
  · rename_i hl hc;cases h;obtain⟨v,h1,h2⟩:=rLoad_ok hT hI (x:=.tmp c) (K:=[]) hl (rLoadC_ok hl (by rw[hc];rfl));have h3:=h2 w (SameOn.refl _ _);have hv:=hI.fr c _ hc;obtain⟨b,g,hb,_⟩:=hv.ptr_form;refine⟨v,?_,h1⟩;rw[show a.eval (.tmp c)=a.tmps.getD c undef from rfl,hb]at h3;rw[hf2,hb];exact h3
  · cases h
include hT in
theorem resOs_ok {st:St} {w0:Base} {Sx:Nat->Prop} {γ:Nat->Value} {a:Act} {w:World} (hI:Sim w0 Sx γ st a w) {f:ResultVar->Sem Value} (hf1:∀t,f (.tmp t)=pure (a.tmps.getD t undef)) (hf2:∀c t,f (.cell c t)=(do loadVar t (<-asAddr (a.tmps.getD c undef)))):∀{rs:List ResultVar} {l:List SV},resOs T st rs=some l->
 ∃vs:List Value,(rs.mapM f).run P w=.ok vs w/\vs.length=l.length/\l.length=rs.length/\∀(i:Nat) (s:SV) (u:Value),l[i]?=some s->vs[i]?=some u->RelS (okO Sx γ st.own) (hp γ st.own) w s u
 |[],l,h=>by
  simp only[resOs,Ye]at h;subst h;exact⟨[],by simp,rfl,rfl,fun i s u hs=>by simp at hs⟩
 |r::rs,l,h=>by
  unfold resOs at h;split at h
  · rename_i s hs;split at h
    · rename_i l' hl;simp only[Ye]at h;subst h;obtain⟨v,h1,h2⟩:=resO_ok hT hI hf1 hf2 hs;obtain⟨vs,h3,h4,h5,h6⟩:=resOs_ok hI hf1 hf2 hl;refine⟨v::vs,?_,by simp[h4],by simp[h5],fun i s' u hs' hu=>?_⟩
      · rw[List.mapM_cons,YG,h1];simp only[Ys,YG,h3,YR]
      · cases i with
        |zero=>simp at hs' hu;subst hs' hu;exact h2
        |succ i=>exact h6 i s' u (by simpa using hs') Dj
    · cases h
  · cases h
include hT in
theorem resC_ok {fn:Func} {st:St} {w0:Base} {Sx:Nat->Prop} {γ:Nat->Value} {a:Act} {w:World} (hI:Sim w0 Sx γ st a w) {rs:List ResultVar} {s:SV} (h:resC T st rs=some s) (hres:fn.results=rs.toArray):
 ∃v,(results fn a.tmps).run P w=.ok v w/\RelS (okO Sx γ st.own) (hp γ st.own) w s v:=by
 have key:∀{l:List SV},resOs T st rs=some l->∃vs:List Value,(results fn a.tmps).run P w=.ok (if h:vs.toArray.size=1 then vs.toArray[0]else .tuple vs.toArray) w/\vs.length=l.length/\l.length=rs.length/\∀(i:Nat) (s:SV) (u:Value),l[i]?=some s->vs[i]?=some u->RelS (okO Sx γ st.own) (hp γ st.own) w s u:=fun{l} hl=>by
  have gen:∀f:ResultVar->Sem Value,(∀t,f (.tmp t)=pure (a.tmps.getD t undef))->(∀c t,f (.cell c t)=(do loadVar t (<-asAddr (a.tmps.getD c undef))))->
   ∃vs:List Value,((do let vs<-rs.toArray.mapM f;pure (if h:vs.size=1 then vs[0]else .tuple vs)):Sem Value).run P w=.ok (if h:vs.toArray.size=1 then vs.toArray[0]else .tuple vs.toArray) w/\vs.length=l.length/\l.length=rs.length/\∀(i:Nat) (s:SV) (u:Value),l[i]?=some s->vs[i]?=some u->RelS (okO Sx γ st.own) (hp γ st.own) w s u:=fun f hf1 hf2=>by
   obtain⟨vs,h3,h4,h5,h6⟩:=resOs_ok hT hI hf1 hf2 hl;refine⟨vs,?_,h4,h5,h6⟩;rw[YG,List.mapM_toArray,Sem.run_map,h3];simp only[Ys,YR]
  unfold results;rw[hres];exact gen _ (fun _=>rfl) (fun _ _=>rfl)
 unfold resC at h;split at h
 · rename_i r;obtain⟨vs,h1,h2,h3,h4⟩:=key (l:=[s]) (by simp only[resOs,h]);have hv:∃v,vs=[v]:=by
    match vs,h2 with
    |[v],_=>exact⟨v,rfl⟩
   obtain⟨v,rfl⟩:=hv;exact⟨v,by rw[h1];rfl,h4 0 s v rfl rfl⟩
 · rename_i hne;split at h
   · rename_i l hl;simp only[Ye]at h;subst h;obtain⟨vs,h1,h2,h3,h4⟩:=key hl;have hn:¬vs.toArray.size=1:=fun e=>by
      rw[Xt,h2,h3]at e
      match rs,hne,e with
      |[r],hne,_=>exact hne r rfl
     rw[dif_neg hn]at h1;exact⟨_,h1,.tup h2 h4⟩
   · cases h
end
def jmpW (l:Nat) (J:Act->World->Prop) (Q:Exit->Act->World->Prop):Exit->Act->World->Prop
 | .goto l',a,w=>l'=l/\J a w
 |e,a,w=>Q e a w
theorem wp_scope_ghost {P:Program} {a:Act} {w:World} {Q:Exit->Act->World->Prop} {c rest:Code} (l:Nat) (J:Nat->Act->World->Prop) (hf:findLabel c l=some rest)
 (first:c.wp P (jmpW l (fun a w=>∃n,J n a w) Q) a w)
 (pass:∀n a w,J n a w->rest.wp P (jmpW l (fun a' w'=>∃m,m<n/\J m a' w') Q) a w):(Code.scope c).wp P Q a w:=by
 intro b k cs;have hg:gotoIn l (.inScope c::k)=some (.code rest::.inScope c::k):=by simp[gotoIn,hf]
 have key:∀n a w,J n a w->∃e a' w',Q e a' w'/\Arrives P (lone (b.at a (.code rest::.inScope c::k)) cs w) b k cs e a' w':=by
  intro n
  induction n using Nat.strongRecOn with
  |_ n ih=>
   intro a w hJ;obtain⟨e,a₁,w₁,hq,harr⟩:=pass n a w hJ b (.inScope c::k) cs;cases e with
   |normal=>exact⟨.normal,a₁,w₁,hq,Steps.trans harr (.one step_inScope)⟩
   |exit id=>exact⟨.exit id,a₁,w₁,hq,fun k' hk=>harr k' (by simp[exitTo,hk])⟩
   |goto l'=>
    obtain⟨rfl,m,hlt,hJ'⟩:=hq;obtain⟨e₂,a₂,w₂,hq₂,harr₂⟩:=ih m hlt a₁ w₁ hJ';exact⟨e₂,a₂,w₂,hq₂,.of_steps (harr _ hg) harr₂⟩
   |ret=>exact⟨_,a₁,w₁,hq,harr⟩
   |panic ch=>exact⟨_,a₁,w₁,hq,harr⟩
   |outgrown=>exact⟨_,a₁,w₁,hq,harr⟩
 obtain⟨e,a₁,w₁,hq,harr⟩:=first b (.inScope c::k) cs;cases e with
 |normal=>exact⟨.normal,a₁,w₁,hq,.head step_scope (Steps.trans harr (.one step_inScope))⟩
 |exit id=>exact⟨.exit id,a₁,w₁,hq,fun k' hk=>.head step_scope (harr k' (by simp[exitTo,hk]))⟩
 |goto l'=>
  obtain⟨rfl,m,hJ'⟩:=hq;obtain⟨e₂,a₂,w₂,hq₂,harr₂⟩:=key m a₁ w₁ hJ';exact⟨e₂,a₂,w₂,hq₂,.of_steps (.head step_scope (harr _ hg)) harr₂⟩
 |ret=>exact⟨_,a₁,w₁,hq,.of_steps (.one step_scope) harr⟩
 |panic ch=>exact⟨_,a₁,w₁,hq,.of_steps (.one step_scope) harr⟩
 |outgrown=>exact⟨_,a₁,w₁,hq,.of_steps (.one step_scope) harr⟩
def jmpS (l:Nat) (J:St->Prop) (Q:SEx->St->Prop):SEx->St->Prop
 | .goto l',s=>l'=l/\J s
 |e,s=>Q e s
theorem wT {P:Program} {Q:SEx->St->Prop} {st:St} {l:Nat} (h:Q (.goto l) st):SW P (.goto l) Q st:=fun _ _ γ a w _ hI hQ=>wp_goto (hQ (.goto l) st γ a w hI h)
theorem sw_scope {P:Program} {Q:SEx->St->Prop} {st:St} {c rest:Code} (l:Nat) (I:Nat->St->Prop) (hf:findLabel c l=some rest) (first:SW P c (jmpS l (fun s'=>∃n s'',Wk s' s''/\I n s'') Q) st)
 (round:∀n s,I n s->SW P rest (jmpS l (fun s'=>∃m s'',m<n/\Wk s' s''/\I m s'') Q) s):SW P (.scope c) Q st:=fun w0 Sx γ a w QQ hI hQ=>by
 refine wp_scope_ghost l (fun n a w=>∃s γ,I n s/\Sim w0 Sx γ s a w) hf (first w0 Sx γ a w _ hI fun e s' γ' a' w' hI' hq=>?_) fun n a w ⟨s,γ,hn,hI⟩=>round n s hn w0 Sx γ a w _ hI fun e s' γ' a' w' hI' hq=>?_
 · cases e with
   |goto l'=>
    obtain⟨rfl,n,s'',hwk,hn⟩:=hq;obtain⟨γ'',hI''⟩:=hwk w0 Sx γ' a' w' hI';exact⟨rfl,n,s'',γ'',hn,hI''⟩
   |normal=>exact hQ .normal s' γ' a' w' hI' hq
   |exit id=>exact hQ (.exit id) s' γ' a' w' hI' hq
   |ret=>exact hQ .ret s' γ' a' w' hI' hq
 · cases e with
   |goto l'=>
    obtain⟨rfl,m,s'',hlt,hwk,hm⟩:=hq;obtain⟨γ'',hI''⟩:=hwk w0 Sx γ' a' w' hI';exact⟨rfl,m,hlt,s'',γ'',hm,hI''⟩
   |normal=>exact hQ .normal s' γ' a' w' hI' hq
   |exit id=>exact hQ (.exit id) s' γ' a' w' hI' hq
   |ret=>exact hQ .ret s' γ' a' w' hI' hq
def FOk (P:Program) (cx:Cx):Prop:=∀f fi,lk f cx.F=some fi→∃fn,P.funcs[f]?=some fn∧(fn.name== "runtime.NumGoroutine")=false∧fn.body=some fi.c∧fn.results=fi.ts.toArray∧fn.ntmps=fi.n∧Nat.ble fi.n 900=true∧chkC fi.ords fi.c=true
section
variable {P:Program} {cx:Cx} (hT:zm P cx.T) (hC:TabOk P cx) (hF:FOk P cx) (hm:P.follows .mixedOrders=true)
end
theorem baseOf_nil (w:World) (γ:Nat->Value):wV w γ []=entry w:=by
 unfold wV entry;congr 1
 · funext b;exact propext ⟨fun h=>h.1,fun h=>⟨h,fun i bx hi=>by cases hi⟩⟩
 · funext i;split<;>rfl
theorem Holds.ofW {P:Program} {f:FuncId} {args:List PV} {r:SV} {own':List (Nat×Box)} (h:HoldsW P f (args.map .p) [] r own'):Holds P f args r own':=by
 refine⟨h.1,fun w Sx vs hSx hl hr=>(h.2 w Sx (fun _=>.nilIface) vs (by rw[baseOf_nil];exact heap_nil hSx _) Dk fun i s u hs hu=>?_).mono fun e w' he=>?_⟩
 · rw[YH]at hs;obtain⟨x,hx,rfl⟩:=YP.1 hs;exact .p ((hr i x u hx hu).weak fun b _ hok=>⟨hok,fun i bx hi=>by cases hi⟩)
 · obtain⟨v,γ',r',o',⟨rfl,rfl⟩,h1,h2,h3,h4⟩:=he;rw[baseOf_nil]at h2 h3;exact⟨v,γ',h1,belowB_entry.1 h2,h3,h4⟩
abbrev nilV:PV:=.v (.slice none 0 0)
inductive Cv:PV->PV->Prop
 |refl (p:PV):Cv p p
 |nil (z:Nat):Cv (.v (.slice none 0 0)) (.sl z [])
 |agg {cs ds:List PV} (hl:cs.length=ds.length) (h:∀(i:Nat) (c d:PV),cs[i]?=some c->ds[i]?=some d->Cv c d):Cv (.agg cs) (.agg ds)
 |sl {z:Nat} {l m:List (List PV)} (hl:l.length=m.length) (he:∀(i:Nat) (e f:List PV),l[i]?=some e->m[i]?=some f->e.length=f.length) (h:∀(i j:Nat) (e f:List PV) (c d:PV),l[i]?=some e->m[i]?=some f->e[j]?=some c->f[j]?=some d->Cv c d):Cv (.sl z l) (.sl z m)
def CvL (cs ds:List PV):Prop:=cs.length=ds.length/\∀(i:Nat) (c d:PV),cs[i]?=some c->ds[i]?=some d->Cv c d
theorem CvL.nil:CvL [] []:=⟨rfl,fun i c d h=>by simp at h⟩
theorem CvL.cons {c d:PV} {cs ds:List PV} (h:Cv c d) (t:CvL cs ds):CvL (c::cs) (d::ds):=⟨by simp[t.1],fun i x y hx hy=>by
 cases i with
 |zero=>simp at hx hy;subst hx;subst hy;exact h
 |succ i=>exact t.2 i x y Dm (by simpa using hy)⟩
theorem CvL.refl (l:List PV):CvL l l:=⟨rfl,fun i c d h1 h2=>by rw[h1]at h2;cases h2;exact .refl _⟩
theorem CvL.agg {cs ds:List PV} (h:CvL cs ds):Cv (.agg cs) (.agg ds):=.agg h.1 h.2
def CvM (l m:List (List PV)):Prop:=l.length=m.length/\∀(i:Nat) (e f:List PV),l[i]?=some e->m[i]?=some f->CvL e f
theorem CvM.nil:CvM [] []:=⟨rfl,fun i c d h=>by simp at h⟩
theorem CvM.cons {c d:List PV} {cs ds:List (List PV)} (h:CvL c d) (t:CvM cs ds):CvM (c::cs) (d::ds):=⟨by simp[t.1],fun i x y hx hy=>by
 cases i with
 |zero=>simp at hx hy;subst hx;subst hy;exact h
 |succ i=>exact t.2 i x y Dm (by simpa using hy)⟩
theorem CvM.sl {z:Nat} {l m:List (List PV)} (h:CvM l m):Cv (.sl z l) (.sl z m):=.sl h.1 (fun i e f h1 h2=>(h.2 i e f h1 h2).1) fun i j e f c d h1 h2 h3 h4=>(h.2 i e f h1 h2).2 j c d h3 h4
theorem Cv.one {p q:PV} (h:Cv p q):oneP q=oneP p:=by
 cases h<;>rfl
theorem RelP.cv {ok:Nat->Prop} {w:World} {p q:PV} (hc:Cv p q):∀{u:Value},RelP ok w p u->RelP ok w q u:=by
 induction hc with
 |refl=>exact fun h=>h
 |nil z=>
  intro u h;cases h;exact .sl (l:=[]) (Yl _) ⟨Yl _,Yl _⟩ DQ (fun h=>absurd h DQ) (fun b o i j h=>by cases h) (fun b o i j e s u h=>by cases h)
 |agg hl h ih=>
  intro u hr;cases hr with
  |@agg _ us hl2 hr=>
   refine .agg DP fun i s u hs hu=>?_
   have hi:i<us.length:=(Yq.1 hu).1;exact ih i _ s (Yj DP) hs (hr i _ u (Yj DP) hu)
 |@sl z l m hl he h ih=>
  intro u hr;cases hr with
  |@sl _ _ A c hc hm hle hA hx hr=>
   rw[hl]at hc hm⊢;refine .sl hc hm (fun e hem=>?_) (fun h=>hA DP) (fun b o i j hAb hi hj=>hx b o i j hAb DP hj) (fun b o i j e s u hAb hi hj hu=>?_)
   · obtain⟨i,hi,rfl⟩:=List.mem_iff_getElem.1 hem;have hl0:l[i]?=some (l[i]'DP):=Yj DP
     have hm0:m[i]?=some m[i]:=Yj hi
     obtain⟨q1,q2⟩:=hle _ (Yn (show i<l.length by omega));have q3:=he i _ _ hl0 hm0;refine⟨by omega,fun s hs=>?_⟩;obtain⟨j,hj,rfl⟩:=List.mem_iff_getElem.1 hs;have:=(h i j _ _ _ _ hl0 hm0 (Yj DP) (Yj hj)).one;rw[this];exact q2 _ (Yn _)
   · have hi':i<m.length:=(Yq.1 hi).1;have hl0:l[i]?=some (l[i]'DP):=Yj DP
     have q3:=he i _ _ hl0 hi;have hj':j<e.length:=(Yq.1 hj).1;exact ih i j _ _ _ _ hl0 hi (Yj DP) hj (hr b o i j _ _ u hAb hl0 (Yj DP) hu)
theorem Holds.cv {P:Program} {f:FuncId} {args args':List PV} {r:SV} {own:List (Nat×Box)} (h:Holds P f args r own) (hc:CvL args' args):Holds P f args' r own:=
 ⟨h.1,fun w Sx vs hSx hl hr=>h.2 w Sx vs hSx (by rw[hl,hc.1]) fun i s u hs hu=>by
  have hi:i<args.length:=(Yq.1 hs).1;have h0:args'[i]?=some (args'[i]'(by rw[hc.1];exact hi)):=Yj _
  exact(hr i _ u h0 hu).cv (hc.2 i _ s h0 hs)⟩
theorem Holds.res {P:Program} {f:FuncId} {args:List PV} {r r':SV} {own:List (Nat×Box)} (h:Holds P f args r own) (e:r=r'):Holds P f args r' own:=e▸h
inductive CvS:SV->SV->Prop
 |refl (s:SV):CvS s s
 |p {a b:PV} (h:Cv a b):CvS (.p a) (.p b)
 |two {a b c d:PV} (h:Cv a b) (h2:Cv c d):CvS (.tup [.p a,.p c]) (.tup [.p b,.p d])
 |three {a b c d e f:PV} (h1:Cv a b) (h2:Cv c d) (h3:Cv e f):CvS (.tup [.p a,.p c,.p e]) (.tup [.p b,.p d,.p f])
 |four {a b c d e f g h:PV} (h1:Cv a b) (h2:Cv c d) (h3:Cv e f) (h4:Cv g h):CvS (.tup [.p a,.p c,.p e,.p g]) (.tup [.p b,.p d,.p f,.p h])
theorem RelS.cvs {ok:Nat->Prop} {H:Nat->Option Value} {w:World} {s s':SV} {u:Value} (hc:CvS s s') (h:RelS ok H w s u):RelS ok H w s' u:=by
 cases hc with
 |refl=>exact h
 |p hc=>exact .p (h.p_inv.cv hc)
 |two h1 h2=>
  cases h with
  |@tup _ us hl hr=>
   refine .tup hl fun i s u hs hu=>?_
   match i,hs with
   |0,hs=>cases hs;exact .p ((hr 0 _ u rfl hu).p_inv.cv h1)
   |1,hs=>cases hs;exact .p ((hr 1 _ u rfl hu).p_inv.cv h2)
 |three h1 h2 h3=>
  cases h with
  |@tup _ us hl hr=>
   refine .tup hl fun i s u hs hu=>?_
   match i,hs with
   |0,hs=>cases hs;exact .p ((hr 0 _ u rfl hu).p_inv.cv h1)
   |1,hs=>cases hs;exact .p ((hr 1 _ u rfl hu).p_inv.cv h2)
   |2,hs=>cases hs;exact .p ((hr 2 _ u rfl hu).p_inv.cv h3)
 |four h1 h2 h3 h4=>
  cases h with
  |@tup _ us hl hr=>
   refine .tup hl fun i s u hs hu=>?_
   match i,hs with
   |0,hs=>cases hs;exact .p ((hr 0 _ u rfl hu).p_inv.cv h1)
   |1,hs=>cases hs;exact .p ((hr 1 _ u rfl hu).p_inv.cv h2)
   |2,hs=>cases hs;exact .p ((hr 2 _ u rfl hu).p_inv.cv h3)
   |3,hs=>cases hs;exact .p ((hr 3 _ u rfl hu).p_inv.cv h4)
def FinC (T:TT) (rs:List ResultVar) (r:SV) (own':List (Nat×Box)) (e:SEx) (st:St):Prop:=(e=.normal\/e=.ret)/\∃st' s ρ r0,Wk st st'/\resC T st' rs=some s/\s.mapR ρ=some r0/\CvS r0 r/\ownR ρ st'.own ρ=some own'/\renOk ρ=true
theorem qz {P:Program} {T:TT} (hT:zm P T) {f:FuncId} {fn:Func} {c:Code} {args:List SV} {own:List (Nat×Box)} {r:SV} {own':List (Nat×Box)} {rs:List ResultVar} (hf:P.funcs[f]?=some fn) (hname:(fn.name== "runtime.NumGoroutine")=false) (hb:fn.body=some c)
 (hres:fn.results=rs.toArray) (hn0:(Nat.ble args.length fn.ntmps&&Nat.ble fn.ntmps 900)=true) (h:SW P c (FinC T rs r own') ⟨fn.ntmps,argFrS 0 args,own⟩):HoldsW P f args own r own':=by
 have hn:args.length<=fn.ntmps/\fn.ntmps<=900:=by
  rw[Yp]at hn0;exact⟨Y8 hn0.1,Y8 hn0.2⟩
 refine⟨⟨fn,hf,hname,by rw[hb];rfl⟩,fun w Sx γ vs hh hl hr=>?_⟩;refine calls_of_wp hf hb ?_;have hget:∀t,t<args.length->(vs.toArray++Array.replicate (fn.ntmps-vs.toArray.size) undef).getD t undef=vs[t]?.getD undef:=fun t ht=>by
  have:t<vs.length:=by omega
  have h2:(vs.toArray++Array.replicate (fn.ntmps-vs.toArray.size) undef)[t]?=vs[t]?:=by
   rw[Array.getElem?_append_left (by simpa using this)];simp
  rw[Array.getD_eq_getD_getElem?,h2]
 have hI:Sim (wV w γ own) Sx γ ⟨fn.ntmps,argFrS 0 args,own⟩ ⟨vs.toArray++Array.replicate (fn.ntmps-vs.toArray.size) undef,[]⟩ w:=by
  refine⟨⟨Below.refl _ w,fun _ _=>rfl⟩,⟨by simp;omega,hn.2⟩,rfl,fun t s ht=>?_,hh⟩;obtain⟨_,hx⟩:=argFrS_get ht;simp only[Nat.sub_zero]at hx;have hlt:t<args.length:=(Yq.1 hx).1;have hv:vs[t]?=some (vs[t]'DP):=Yj DP
  show RelS _ _ _ _ ((vs.toArray++Array.replicate (fn.ntmps-vs.toArray.size) undef).getD t undef);rw[hget t hlt,hv];exact hr t s _ hx hv
 refine h _ Sx _ _ w _ hI fun e st2 γ' a' w' hI' hq=>?_
 obtain⟨he,st',s,ρ,r0,hwk,hs,hm,hcv,ho,hρ⟩:=hq;obtain⟨γ'',hI''⟩:=hwk _ Sx γ' a' w' hI';obtain⟨γ3,k1,k2⟩:=heap_mapR hI''.heap ho hρ;obtain⟨v,k3,k4⟩:=resC_ok hT hI'' hs hres;have fin:a'.defers=[]/\∃v,(results fn a'.tmps).run P w'=.ok v w'/\∃v' γ2 r1 own1,(r1=r/\own1=own')/\Ending.returned v=.returned v'/\BelowB (wV w γ own) w'/\HeapOk (wV w γ own) Sx γ2 own1 w'/\RelS (okO Sx γ2 own1) (hp γ2 own1) w' r1 v':=
  ⟨hI''.defers,v,k3,v,γ3,r,own',⟨rfl,rfl⟩,rfl,hI''.below,k1,(k2 s v r0 k4 hm).cvs hcv⟩
 rcases he with rfl|rfl
 · exact fin
 · exact fin
theorem idxV_h (l:List Val) (v:Val) (hn:l.length<=1000000):Holds prog 321 [valsP l,.agg v.pv] (.p (pI (if l.findIdx (wO v)<l.length then(l.findIdx (wO v):Int)else-1))) []:=by
 refine qo (ts:=[4]) func321 DG rfl rfl rfl ?_;refine KH ?_;refine uZ [0,3,7,8] [(3,3)] ?_;refine qG (fun n s=>∃(k:Nat) (kk:Int),k<=l.length/\n=l.length-k/\kk=k/\(∀x∈l.take k,wO v x=false)/\s=⟨19,[(0,.p (valsP l)),(3,.ptr 3 0),(7,.p (pI (l.map Val.pv).length)),(8,.p (pI kk))],[(3,.cells (v.pv.map .p))]⟩) l.length ⟨0,0,Yl _,rfl,rfl,by simp,rfl⟩ ?_;rintro n s ⟨k,_,hk,rfl,rfl,ha,rfl⟩;refine uA ?_;refine uC (fun hlt=>?_) (fun hlt=>?_)
 · refine qh ?_;simp only[Yb,Yf]at hlt;have hlt':k<l.length:=by omega
   refine Kz ?_;refine uD [] [1,3,5,7,9,11] ?_;refine X3 ?_;rw[qw hlt'];refine uT ?_;refine LF ?_;refine uC (fun hp=>?_) (fun hp=>?_)
   · have hp':wO v l[k]=true:=by simpa [wO,jS,and_assoc]using hp
     refine KC ?_;have e:l.findIdx (wO v)=k:=(Xx hlt').2 ⟨hp',fun j hj=>ha _ (List.mem_take_iff_getElem.2 ⟨j,by omega,rfl⟩)⟩;rw[e,Yi hlt']
   · have hp':wO v l[k]=false:=by simpa [wO,jS,and_assoc]using hp
     refine Kw ?_;refine⟨_,_,?_,qj [0,3,7,8] [(3,3)] rfl rfl,k+1,_,hlt',rfl,qq hlt' DP,?_,rfl⟩
     · omega
     · intro g hg;rw[Ym hlt',YL,YA]at hg;rcases hg with hg|rfl
       · exact ha g hg
       · exact hp'
 · refine qC ?_;simp only[Yb,Yh]at hlt;have hkk:k=l.length:=by omega
   subst hkk;refine KC ?_;rw[Yu]at ha;rw[Yc];have:=Xg ha;omega
theorem contains_h (l:List Val) (v:Val) (hn:l.length<=1000000):Holds prog 312 [valsP l,.agg v.pv] (.p (pB (hasV l v))) []:=by
 refine qo (ts:=[4]) func312 DG rfl rfl rfl ?_;refine Kq ?_;refine uK (idxV_h l v hn) ?_;refine KD ?_;refine VI ?_;unfold hasV;by_cases h:l.findIdx (wO v)<l.length
 · rw[Yi h];have:l.any (wO v)=true:=List.any_eq_true.2 ⟨_,Yn h,List.findIdx_getElem (w:=h)⟩
   rw[show(l.any fun x=>wO v x)=true from this];simp
 · rw[Yc h];have h2:∀x∈l,wO v x=false:=List.findIdx_eq_length.1 (Nat.le_antisymm List.findIdx_le_length DP);rw[show(l.any fun x=>wO v x)=false from List.any_eq_false.2 fun x hx=>by simp[h2 x hx]];rfl
theorem has_h (l:List Val) (v:Val) (hn:l.length<=1000000):Holds prog 299 [valsP l,.agg v.pv] (.p (pB (hasV l v))) []:=by
 refine qo (ts:=[4]) func299 DG rfl rfl rfl ?_;refine Kq ?_;refine uK (contains_h l v hn) ?_;refine KD ?_;exact Ur
theorem is_h (x:Itm) (n:Int):Holds prog 219 [.agg x.pv,pI n] (.p (pB (x.is n))) []:=by
 refine qo (ts:=[4]) func219 DG rfl rfl rfl ?_;refine LM ?_;refine LV ?_;refine Lg ?_;unfold Itm.is isT;rw[YO];simp only[wO,jS,Xp,Yp,beq_iff_eq,Yf,and_assoc,and_true]
theorem operands_h (op:Int):Holds prog 265 [pI op] (.p (pI (jg op))) []:=by
 unfold jg;refine qo (ts:=[2]) func265 DG rfl rfl rfl ?_;refine K2 ?_;refine uC (fun h1=>?_) (fun h1=>?_)
 · have e1:op=1:=by simpa using h1
   subst e1;refine qh ?_;refine uC (fun h2=>?_) (fun h2=>?_)
   · exact KK
   · cases h2
 · have n1:¬op=1:=by simpa using h1
   refine uA ?_;refine uC (fun h2=>?_) (fun h2=>?_)
   · have e1:op=2:=by simpa using h2
     subst e1;exact KK
   · have n2:¬op=2:=by simpa using h2
     refine uA ?_;refine uC (fun h3=>?_) (fun h3=>?_)
     · have e1:op=3:=by simpa using h3
       subst e1;refine qh ?_;refine uC (fun h4=>?_) (fun h4=>?_)
       · exact KK
       · cases h4
     · have n3:¬op=3:=by simpa using h3
       refine uA ?_;refine uC (fun h4=>?_) (fun h4=>?_)
       · have e1:op=4:=by simpa using h4
         subst e1;refine qh ?_;refine uC (fun h5=>?_) (fun h5=>?_)
         · exact KK
         · cases h5
       · have n4:¬op=4:=by simpa using h4
         refine uA ?_;refine uC (fun h5=>?_) (fun h5=>?_)
         · have e1:op=11:=by simpa using h5
           subst e1;exact KK
         · have n5:¬op=11:=by simpa using h5
           refine KA ?_;exact qZ rfl (by rw[Yc DP,Yc DP];rfl)
theorem truth_h (b:Bool):Holds prog 298 [pB b] (.p (.agg (itmT b).pv)) []:=by
 refine .ofW ?_;refine qz (T:=TTab) qc func298 DG rfl rfl rfl ?_;refine LN ?_;cases b with
 |true=>
  refine uC (fun h=>?_) (fun h=>?_)
  · refine KX ?_;exact MP
  · cases h
 |false=>
  refine uC (fun h=>?_) (fun h=>?_)
  · cases h
  · refine KA ?_;exact MP
def wn (S:List Itm):List (Nat×Box):=[(1000000,.row 310 5 (S.map Itm.pv))]
theorem zI {S:List Itm} {lo i:Nat} {x:Itm} (h:(S.drop lo)[i]?=some x):(S.map Itm.pv).getD (lo+i) []=x.pv:=by
 rw[YV]at h;rw[List.getD_eq_getElem?_getD,YH,h];rfl
theorem errS_at:∀{l:List Itm} {k:Nat} (hk:k<l.length),errS (l.take k)=0->l[k].e≠0->errS l=l[k].e
 |x::r,0,_,_,h=>by simp only[Xu]at h⊢;rw[errS,Yc h]
 |x::r,k+1,hk,h0,h=>by
  rw[Y4,errS]at h0;by_cases hx:x.e=0
  · rw[Yi hx]at h0;rw[errS,Yi hx];exact errS_at Dn h0 DA
  · rw[Yc hx]at h0;exact absurd h0 hx
theorem qal:∀{l:List Itm} {k:Nat} (hk:k<l.length),errS (l.take k)=0->l[k].e=0->errS (l.take (k+1))=0
 |x::r,0,_,_,h=>by simp only[Xu]at h;rw[Xk,Y4,List.take_zero,errS,Yi h];rfl
 |x::r,k+1,hk,h0,h=>by
  rw[Y4,errS]at h0;by_cases hx:x.e=0
  · rw[Yi hx]at h0;rw[Y4,errS,Yi hx];exact qal Dn h0 DA
  · rw[Yc hx]at h0;exact absurd h0 hx
theorem node_lit (val:Val) (attr:Atr) (S:List Itm) (lo:Nat) (g:List Giv):HoldsW prog 266 [.p (.agg (Nod.mk 1 val attr).pv),.view 1000000 5 lo S.length,.p (js g)] (wn S) (.p (.agg (qaM (Nod.mk 1 val attr) (S.drop lo) g).pv)) (wn S):=by
 have e:qaM (Nod.mk 1 val attr) (S.drop lo) g=⟨[],val,0⟩:=rfl;rw[e];refine LW ?_;refine uC (fun h1=>?_) (fun h1=>?_)
 · exact LI
 · cases h1
theorem node_attr (val:Val) (attr:Atr) (S:List Itm) (lo:Nat) (g:List Giv) (hn:g.length<=1000000) (hb:∀x∈g,x.bag.length<=1000000):HoldsW prog 266 [.p (.agg (Nod.mk 2 val attr).pv),.view 1000000 5 lo S.length,.p (js g)] (wn S) (.p (.agg (qaM (Nod.mk 2 val attr) (S.drop lo) g).pv)) (wn S):=by
 have e:qaM (Nod.mk 2 val attr) (S.drop lo) g=⟨(getS attr g).1,noVal,(getS attr g).2⟩:=rfl;rw[e];refine LW ?_;refine uC (fun h1=>?_) (fun h1=>?_)
 · cases h1
 · refine uA ?_;refine uC (fun h2=>?_) (fun h2=>?_)
   · refine uR ?_;refine uO (get_h attr g hn hb) ?_;refine qe ?_;exact Ej
   · cases h2
theorem drop_one {S:List Itm} {lo:Nat} (h:lo+1=S.length):∃x,S.drop lo=[x]:=List.length_eq_one_iff.1 (by rw[List.length_drop];omega)
theorem drop_two {S:List Itm} {lo:Nat} (h:lo+2=S.length):∃x y,S.drop lo=[x,y]:=by
 have:(S.drop lo).length=2:=by rw[Yo];omega
 match hd:S.drop lo,this with
 |[x,y],_=>exact⟨x,y,rfl⟩
theorem qaj {op:Int} {val:Val} {attr:Atr} {l:List Itm} {g:List Giv} (h1:¬op=1) (h2:¬op=2) (hd:decS op l=false):qaM (Nod.mk op val attr) l g=if errS l≠0 then⟨[],noVal,errS l⟩else lastS op l:=by
 unfold qaM;simp only;rw[Yc h1,Yc h2,hd,Yc DQ]
theorem node_one_h (val:Val) (attr:Atr) (S:List Itm) (lo:Nat) (g:List Giv) (hlo:lo+1=S.length) (hl:S.length<=1000000):HoldsW prog 266 [.p (.agg (Nod.mk 3 val attr).pv),.view 1000000 5 lo S.length,.p (js g)] (wn S) (.p (.agg (qaM (Nod.mk 3 val attr) (S.drop lo) g).pv)) (wn S):=by
 have hN:=qaj (val:=val) (attr:=attr) (g:=g) (op:=3) (l:=S.drop lo) DP DP rfl;refine LW ?_;refine uC (fun h1=>?_) (fun h1=>?_)
 · cases h1
 · refine uA ?_;refine uC (fun h2=>?_) (fun h2=>?_)
   · cases h2
   · refine uA ?_;refine uC (fun h3=>?_) (fun h3=>?_)
     · cases h3
     · refine uA ?_;refine uC (fun h4=>?_) (fun h4=>?_)
       · cases h4
       · refine qh ?_;refine UI ?_;refine KH ?_;refine G8 ?_;refine V0 ?_;refine qG (fun m s=>∃(k:Nat) (kk:Int),k<=(S.drop lo).length/\m=(S.drop lo).length-k/\kk=k/\errS ((S.drop lo).take k)=0/\s=⟨122,[(1,.view 1000000 5 lo S.length),(3,.ptr 3 0),(6,.ptr 6 0),(10,.row 0),(55,.view 1000000 5 lo S.length),(56,.p (pI ((S.length-lo:Nat):Int))),(57,.p (pI kk))],[(1000000,.row 310 5 (S.map Itm.pv)),(3,.cells ((Nod.mk 3 val attr).pv.map .p)),(6,.cells (([.v (.slice none 0 0),pI 0,pI 0,pS ⟨#[]⟩,pI 0]:List PV).map .p)),(0,.row 44 3 ((((S.drop lo).take k).map Itm.v).map Val.pv))]⟩) (S.drop lo).length ⟨0,0,Yl _,rfl,rfl,rfl,rfl⟩ ?_;rintro m s ⟨k,_,hk,rfl,rfl,he0,rfl⟩;refine uA ?_;refine uC (fun hlt=>?_) (fun hlt=>?_)
         · refine qh ?_;have hlt':k<(S.drop lo).length:=by rw[Yo];simpa using hlt
           have hk2:k<S.length-lo:=by rwa [Yo]at hlt'
           have hget:(S.drop lo)[k]?=some (S.drop lo)[k]:=Yj hlt'
           refine Kx ?_;refine Vw ?_;refine uS ?_;refine X6 ?_;refine Ku ?_;refine uC (fun hne=>?_) (fun hne=>?_)
           · have hne':(S.drop lo)[k].e≠0:=by simpa using hne
             have e1:=errS_at hlt' he0 hne';exact Ei
           · have hne':(S.drop lo)[k].e=0:=by simpa using hne
             refine Kv ?_;refine XZ ?_;refine Ku ?_;refine⟨_,_,?_,qj [1,3,6,10,55,56,57] [(1000000,1000000),(3,3),(6,6),(71,0)] rfl rfl,k+1,_,hlt',rfl,qq hlt' Ds,qal hlt' he0 hne',?_⟩
             · omega
             · rw[Ym hlt',Yr,Yr];rfl
         · refine qC ?_;have hkk:k=(S.drop lo).length:=by
            have:¬(k:Int)<((S.length-lo:Nat):Int):=by simpa using hlt
            rw[Yo]at hk⊢;omega
           subst hkk;rw[Yu]at he0⊢;rw[hN,Yc DJ];clear hN
           refine uA ?_;obtain⟨x,hx⟩:=drop_one hlo;have h0:(S.drop lo)[0]?=some x:=by rw[hx];rfl
           rw[hx];refine Kz ?_;refine uC (fun h5=>?_) (fun h5=>?_)
           · refine uR ?_;refine Vw ?_;refine uS ?_;refine Up ?_;refine Ko ?_;refine uC (fun h6=>?_) (fun h6=>?_)
             · have h7:¬x.bag.length=1:=by
                intro h7;simp at h6;omega
               have e2:lastS 3 [x]=⟨[],noVal,4⟩:=by unfold lastS;rw[Yi rfl];exact Yc h7
               rw[e2];exact LI
             · have h7:x.bag.length=1:=by
                have:((x.bag.map Val.pv).length:Int)=1:=by simpa using h6
                rw[Yb]at this;omega
               obtain⟨v,hv⟩:=List.length_eq_one_iff.1 h7;have e2:lastS 3 [x]=⟨[],v,0⟩:=by
                unfold lastS;rw[Yi rfl];show(if x.bag.length=1 then _ else _)=_;rw[Yi h7];show Itm.mk [] (x.bag.getD 0 noVal) 0=_;rw[hv];rfl
               rw[e2];refine Kv ?_;refine Vw ?_;refine uS ?_;refine Up ?_;refine uS ?_;refine qm qc rfl rfl (by rw[Yb,h7];omega) rfl ?_;rw[show(x.bag.map Val.pv).getD (Int.toNat 0) []=v.pv by rw[hv];rfl];refine Ks ?_;exact XP
           · cases h5
theorem node_size_h (val:Val) (attr:Atr) (S:List Itm) (lo:Nat) (g:List Giv) (hlo:lo+1=S.length) (hl:S.length<=1000000):HoldsW prog 266 [.p (.agg (Nod.mk 4 val attr).pv),.view 1000000 5 lo S.length,.p (js g)] (wn S) (.p (.agg (qaM (Nod.mk 4 val attr) (S.drop lo) g).pv)) (wn S):=by
 have hN:=qaj (val:=val) (attr:=attr) (g:=g) (op:=4) (l:=S.drop lo) DP DP rfl;refine LW ?_;refine uC (fun h1=>?_) (fun h1=>?_)
 · cases h1
 · refine uA ?_;refine uC (fun h2=>?_) (fun h2=>?_)
   · cases h2
   · refine uA ?_;refine uC (fun h3=>?_) (fun h3=>?_)
     · cases h3
     · refine uA ?_;refine uC (fun h4=>?_) (fun h4=>?_)
       · cases h4
       · refine qh ?_;refine UI ?_;refine KH ?_;refine G8 ?_;refine V0 ?_;refine qG (fun m s=>∃(k:Nat) (kk:Int),k<=(S.drop lo).length/\m=(S.drop lo).length-k/\kk=k/\errS ((S.drop lo).take k)=0/\s=⟨122,[(1,.view 1000000 5 lo S.length),(3,.ptr 3 0),(6,.ptr 6 0),(10,.row 0),(55,.view 1000000 5 lo S.length),(56,.p (pI ((S.length-lo:Nat):Int))),(57,.p (pI kk))],[(1000000,.row 310 5 (S.map Itm.pv)),(3,.cells ((Nod.mk 4 val attr).pv.map .p)),(6,.cells (([.v (.slice none 0 0),pI 0,pI 0,pS ⟨#[]⟩,pI 0]:List PV).map .p)),(0,.row 44 3 ((((S.drop lo).take k).map Itm.v).map Val.pv))]⟩) (S.drop lo).length ⟨0,0,Yl _,rfl,rfl,rfl,rfl⟩ ?_;rintro m s ⟨k,_,hk,rfl,rfl,he0,rfl⟩;refine uA ?_;refine uC (fun hlt=>?_) (fun hlt=>?_)
         · refine qh ?_;have hlt':k<(S.drop lo).length:=by rw[Yo];simpa using hlt
           have hk2:k<S.length-lo:=by rwa [Yo]at hlt'
           have hget:(S.drop lo)[k]?=some (S.drop lo)[k]:=Yj hlt'
           refine Kx ?_;refine Vw ?_;refine uS ?_;refine X6 ?_;refine Ku ?_;refine uC (fun hne=>?_) (fun hne=>?_)
           · have hne':(S.drop lo)[k].e≠0:=by simpa using hne
             have e1:=errS_at hlt' he0 hne';exact Ei
           · have hne':(S.drop lo)[k].e=0:=by simpa using hne
             refine Kv ?_;refine XZ ?_;refine Ku ?_;refine⟨_,_,?_,qj [1,3,6,10,55,56,57] [(1000000,1000000),(3,3),(6,6),(71,0)] rfl rfl,k+1,_,hlt',rfl,qq hlt' Ds,qal hlt' he0 hne',?_⟩
             · omega
             · rw[Ym hlt',Yr,Yr];rfl
         · refine qC ?_;have hkk:k=(S.drop lo).length:=by
            have:¬(k:Int)<((S.length-lo:Nat):Int):=by simpa using hlt
            rw[Yo]at hk⊢;omega
           subst hkk;rw[Yu]at he0⊢;rw[hN,Yc DJ];clear hN
           refine uA ?_;obtain⟨x,hx⟩:=drop_one hlo;have h0:(S.drop lo)[0]?=some x:=by rw[hx];rfl
           rw[hx];refine Kz ?_;refine uC (fun h5=>?_) (fun h5=>?_)
           · cases h5
           · refine uA ?_;refine uC (fun h6=>?_) (fun h6=>?_)
             · have e2:lastS 4 [x]=⟨[],⟨2,x.bag.length,⟨#[]⟩⟩,0⟩:=rfl;rw[e2];refine uR ?_;refine Vw ?_;refine uS ?_;refine Up ?_;refine uS ?_;rw[Yb];refine KD ?_;exact XP
             · cases h6
theorem node_has_h (val:Val) (attr:Atr) (S:List Itm) (lo:Nat) (g:List Giv) (hlo:lo+2=S.length) (hl:S.length<=1000000) (hS:∀x∈S,x.Fit):HoldsW prog 266 [.p (.agg (Nod.mk 5 val attr).pv),.view 1000000 5 lo S.length,.p (js g)] (wn S) (.p (.agg (qaM (Nod.mk 5 val attr) (S.drop lo) g).pv)) (wn S):=by
 have hN:=qaj (val:=val) (attr:=attr) (g:=g) (op:=5) (l:=S.drop lo) DP DP rfl;refine LW ?_;refine uC (fun h1=>?_) (fun h1=>?_)
 · cases h1
 · refine uA ?_;refine uC (fun h2=>?_) (fun h2=>?_)
   · cases h2
   · refine uA ?_;refine uC (fun h3=>?_) (fun h3=>?_)
     · cases h3
     · refine uA ?_;refine uC (fun h4=>?_) (fun h4=>?_)
       · cases h4
       · refine qh ?_;refine UI ?_;refine KH ?_;refine G8 ?_;refine V0 ?_;refine qG (fun m s=>∃(k:Nat) (kk:Int),k<=(S.drop lo).length/\m=(S.drop lo).length-k/\kk=k/\errS ((S.drop lo).take k)=0/\s=⟨122,[(1,.view 1000000 5 lo S.length),(3,.ptr 3 0),(6,.ptr 6 0),(10,.row 0),(55,.view 1000000 5 lo S.length),(56,.p (pI ((S.length-lo:Nat):Int))),(57,.p (pI kk))],[(1000000,.row 310 5 (S.map Itm.pv)),(3,.cells ((Nod.mk 5 val attr).pv.map .p)),(6,.cells (([.v (.slice none 0 0),pI 0,pI 0,pS ⟨#[]⟩,pI 0]:List PV).map .p)),(0,.row 44 3 ((((S.drop lo).take k).map Itm.v).map Val.pv))]⟩) (S.drop lo).length ⟨0,0,Yl _,rfl,rfl,rfl,rfl⟩ ?_;rintro m s ⟨k,_,hk,rfl,rfl,he0,rfl⟩;refine uA ?_;refine uC (fun hlt=>?_) (fun hlt=>?_)
         · refine qh ?_;have hlt':k<(S.drop lo).length:=by rw[Yo];simpa using hlt
           have hk2:k<S.length-lo:=by rwa [Yo]at hlt'
           have hget:(S.drop lo)[k]?=some (S.drop lo)[k]:=Yj hlt'
           refine Kx ?_;refine Vw ?_;refine uS ?_;refine X6 ?_;refine Ku ?_;refine uC (fun hne=>?_) (fun hne=>?_)
           · have hne':(S.drop lo)[k].e≠0:=by simpa using hne
             have e1:=errS_at hlt' he0 hne';exact Ei
           · have hne':(S.drop lo)[k].e=0:=by simpa using hne
             refine Kv ?_;refine XZ ?_;refine Ku ?_;refine⟨_,_,?_,qj [1,3,6,10,55,56,57] [(1000000,1000000),(3,3),(6,6),(71,0)] rfl rfl,k+1,_,hlt',rfl,qq hlt' Ds,qal hlt' he0 hne',?_⟩
             · omega
             · rw[Ym hlt',Yr,Yr];rfl
         · refine qC ?_;have hkk:k=(S.drop lo).length:=by
            have:¬(k:Int)<((S.length-lo:Nat):Int):=by simpa using hlt
            rw[Yo]at hk⊢;omega
           subst hkk;rw[Yu]at he0⊢;rw[hN,Yc DJ];clear hN
           refine uA ?_;obtain⟨x,y,hx⟩:=drop_two hlo;have h0:(S.drop lo)[0]?=some x:=by rw[hx];rfl
           have h1':(S.drop lo)[1]?=some y:=by rw[hx];rfl
           have hxl:x.bag.length<=1000000:=(hS x (YX (i:=lo) (by rw[hx];simp))).len;rw[hx];refine Kz ?_;refine uC (fun h5=>?_) (fun h5=>?_)
           · cases h5
           · refine uA ?_;refine uC (fun h6=>?_) (fun h6=>?_)
             · cases h6
             · refine uA ?_;refine uC (fun h7=>?_) (fun h7=>?_)
               · have e2:lastS 5 [x,y]=itmT (hasV x.bag y.v):=rfl;rw[e2];refine uD [6] [1,3,5,7,9,11,13,15,16,18,20] ?_;refine qJ qc rfl rfl rfl DP rfl ?_;refine uT ?_;refine qJ qc rfl rfl (zC rfl rfl rfl rfl rfl (show(S.map Itm.pv).getD (lo+Int.toNat 0) []=x.pv from zI h0) rfl) Dt rfl ?_;refine uT ?_;refine qJ qc rfl rfl rfl DP rfl ?_;refine uT ?_;refine qJ qc rfl rfl (zC rfl rfl rfl rfl rfl (show(S.map Itm.pv).getD (lo+Int.toNat 1) []=y.pv from zI h1') rfl) (by rw[Yb];show lo+1<_;omega) rfl ?_;refine uT ?_;refine uk (has_h x.bag y.v hxl) ?_;refine uo (truth_h (hasV x.bag y.v)) ?_;refine qT ?_;refine uQ ?_;exact XG
               · cases h7
theorem wt (op:Int) (hop:6<=op/\op<=11) (val:Val) (attr:Atr) (S:List Itm) (lo:Nat) (g:List Giv) (hl:S.length<=1000000) (hlo:lo<=S.length) (hS:∀x∈S,x.Fit):HoldsW prog 266 [.p (.agg (Nod.mk op val attr).pv),.view 1000000 5 lo S.length,.p (js g)] (wn S) (.p (.agg (qaM (Nod.mk op val attr) (S.drop lo) g).pv)) (wn S):=by
 have no:∀{k:Int},(op==k)=true->k<6\/11<k->False:=fun{k} h h2=>by
  have e:op=k:=by simpa using h
  omega
 have hN:=qaj (val:=val) (attr:=attr) (g:=g) (op:=op) (l:=S.drop lo) DP DP (by
  unfold decS;rw[show decide (op=12)=false from YB DP,show decide (op=13)=false from YB DP];rfl)
 refine LW ?_;refine uC (fun h1=>?_) (fun h1=>?_)
 · exact(no h1 DP).elim
 · refine uA ?_;refine uC (fun h2=>?_) (fun h2=>?_)
   · exact(no h2 DP).elim
   · refine uA ?_;refine uC (fun h3=>?_) (fun h3=>?_)
     · exact(no h3 DP).elim
     · refine uA ?_;refine uC (fun h4=>?_) (fun h4=>?_)
       · exact(no h4 DP).elim
       · refine qh ?_;refine UI ?_;refine KH ?_;refine G8 ?_;refine V0 ?_;refine qG (fun m s=>∃(k:Nat) (kk:Int),k<=(S.drop lo).length/\m=(S.drop lo).length-k/\kk=k/\errS ((S.drop lo).take k)=0/\s=⟨122,[(1,.view 1000000 5 lo S.length),(3,.ptr 3 0),(6,.ptr 6 0),(10,.row 0),(55,.view 1000000 5 lo S.length),(56,.p (pI ((S.length-lo:Nat):Int))),(57,.p (pI kk))],[(1000000,.row 310 5 (S.map Itm.pv)),(3,.cells ((Nod.mk op val attr).pv.map .p)),(6,.cells (([.v (.slice none 0 0),pI 0,pI 0,pS ⟨#[]⟩,pI 0]:List PV).map .p)),(0,.row 44 3 ((((S.drop lo).take k).map Itm.v).map Val.pv))]⟩) (S.drop lo).length ⟨0,0,Yl _,rfl,rfl,rfl,rfl⟩ ?_;rintro m s ⟨k,_,hk,rfl,rfl,he0,rfl⟩;refine uA ?_;refine uC (fun hlt=>?_) (fun hlt=>?_)
         · refine qh ?_;have hlt':k<(S.drop lo).length:=by rw[Yo];simpa using hlt
           have hk2:k<S.length-lo:=by rwa [Yo]at hlt'
           have hget:(S.drop lo)[k]?=some (S.drop lo)[k]:=Yj hlt'
           refine Kx ?_;refine Vw ?_;refine uS ?_;refine X6 ?_;refine Ku ?_;refine uC (fun hne=>?_) (fun hne=>?_)
           · have hne':(S.drop lo)[k].e≠0:=by simpa using hne
             have e1:=errS_at hlt' he0 hne';exact Ei
           · have hne':(S.drop lo)[k].e=0:=by simpa using hne
             refine Kv ?_;refine XZ ?_;refine Ku ?_;refine⟨_,_,?_,qj [1,3,6,10,55,56,57] [(1000000,1000000),(3,3),(6,6),(71,0)] rfl rfl,k+1,_,hlt',rfl,qq hlt' Ds,qal hlt' he0 hne',?_⟩
             · omega
             · rw[Ym hlt',Yr,Yr];rfl
         · refine qC ?_;have hkk:k=(S.drop lo).length:=by
            have:¬(k:Int)<((S.length-lo:Nat):Int):=by simpa using hlt
            rw[Yo]at hk⊢;omega
           subst hkk;rw[Yu]at he0⊢;rw[hN,Yc DJ];clear hN
           refine uA ?_;refine Kz ?_;refine uC (fun h5=>?_) (fun h5=>?_)
           · exact(no h5 DP).elim
           · refine uA ?_;refine uC (fun h6=>?_) (fun h6=>?_)
             · exact(no h6 DP).elim
             · refine uA ?_;refine uC (fun h7=>?_) (fun h7=>?_)
               · exact(no h7 DP).elim
               · refine qh ?_;have e2:lastS op (S.drop lo)=⟨[],(jr op ((S.drop lo).map Itm.v)).1,(jr op ((S.drop lo).map Itm.v)).2⟩:=by
                  unfold lastS;rw[Yc DP,Yc DP,Yc DP]
                 rw[e2];refine uR ?_;refine uK (call_h op ((S.drop lo).map Itm.v) (fun v hv=>by obtain⟨x,hx,rfl⟩:=Y1.1 hv;exact(hS x (YX hx)).v)) ?_;refine qe ?_;generalize jr op ((S.drop lo).map Itm.v)=r;exact LI
theorem node_12_h (val:Val) (attr:Atr) (S:List Itm) (lo:Nat) (g:List Giv) (hl:S.length<=1000000) (hlo:lo+2=S.length) (hS:∀x∈S,x.Fit):HoldsW prog 266 [.p (.agg (Nod.mk 12 val attr).pv),.view 1000000 5 lo S.length,.p (js g)] (wn S) (.p (.agg (qaM (Nod.mk 12 val attr) (S.drop lo) g).pv)) (wn S):=by
 obtain⟨x,y,hx⟩:=drop_two hlo;have h0:(S.drop lo)[0]?=some x:=by rw[hx];rfl
 have h1':(S.drop lo)[1]?=some y:=by rw[hx];rfl
 have hd0:decS 12 (S.drop lo)=(x.is 0||y.is 0):=by rw[hx];rfl
 cases hdec:(x.is 0||y.is 0)with
 |true=>
  have e:qaM (Nod.mk 12 val attr) (S.drop lo) g=itmT false:=by
   unfold qaM;simp only;rw[Yc DP,Yc DP,hd0,hdec,Yi rfl];rfl
  rw[e];refine LW ?_;refine uC (fun h1=>?_) (fun h1=>?_)
  · cases h1
  · refine uA ?_;refine uC (fun h2=>?_) (fun h2=>?_)
    · cases h2
    · refine uA ?_;refine uC (fun h3=>?_) (fun h3=>?_);rotate_left
      · cases h3
      refine qh ?_;refine uC (fun h4=>?_) (fun h4=>?_);rotate_left
      · cases h4
      refine LM ?_;refine GK ?_;refine VU ?_;refine Xz ?_;refine M8 ?_;refine Xz ?_;refine GK ?_;refine VD ?_;refine Xz ?_;refine M9 ?_;refine Ky ?_;refine uC (fun h9=>?_) (fun h9=>?_)
      · refine uR ?_;refine uO (truth_h false) ?_;refine KD ?_;exact XG
      · have h9':(x.is 0||y.is 0)=false:=by
         rw[<-h9];show _=(bif x.is 0 then true else y.is 0);cases x.is 0<;>rfl
        rw[hdec]at h9';cases h9'
 |false=>
  have hN:=qaj (val:=val) (attr:=attr) (g:=g) (op:=12) (l:=S.drop lo) DP DP (hd0.trans hdec);refine LW ?_;refine uC (fun h1=>?_) (fun h1=>?_)
  · cases h1
  · refine uA ?_;refine uC (fun h2=>?_) (fun h2=>?_)
    · cases h2
    · refine uA ?_;refine uC (fun h3=>?_) (fun h3=>?_);rotate_left
      · cases h3
      refine qh ?_;refine uC (fun h4=>?_) (fun h4=>?_);rotate_left
      · cases h4
      refine LM ?_;refine GK ?_;refine VU ?_;refine Xz ?_;refine M8 ?_;refine Xz ?_;refine GK ?_;refine VD ?_;refine Xz ?_;refine M9 ?_;refine Ky ?_;refine uC (fun h9=>?_) (fun h9=>?_)
      · have h9':(x.is 0||y.is 0)=true:=by
         rw[<-h9];show _=(bif x.is 0 then true else y.is 0);cases x.is 0<;>rfl
        rw[hdec]at h9';cases h9'
      · refine qh ?_;clear h0 h1' hx
        refine UI ?_;refine KH ?_;refine G8 ?_;refine V0 ?_;refine qG (fun m s=>∃(k:Nat) (kk:Int),k<=(S.drop lo).length/\m=(S.drop lo).length-k/\kk=k/\errS ((S.drop lo).take k)=0/\s=⟨122,[(1,.view 1000000 5 lo S.length),(3,.ptr 3 0),(6,.ptr 6 0),(10,.row 0),(55,.view 1000000 5 lo S.length),(56,.p (pI ((S.length-lo:Nat):Int))),(57,.p (pI kk))],[(1000000,.row 310 5 (S.map Itm.pv)),(3,.cells ((Nod.mk 12 val attr).pv.map .p)),(6,.cells (([.v (.slice none 0 0),pI 0,pI 0,pS ⟨#[]⟩,pI 0]:List PV).map .p)),(0,.row 44 3 ((((S.drop lo).take k).map Itm.v).map Val.pv))]⟩) (S.drop lo).length ⟨0,0,Yl _,rfl,rfl,rfl,rfl⟩ ?_;rintro m s ⟨k,_,hk,rfl,rfl,he0,rfl⟩;refine uA ?_;refine uC (fun hlt=>?_) (fun hlt=>?_)
        · refine qh ?_;have hlt':k<(S.drop lo).length:=by rw[Yo];simpa using hlt
          have hk2:k<S.length-lo:=by rwa [Yo]at hlt'
          have hget:(S.drop lo)[k]?=some (S.drop lo)[k]:=Yj hlt'
          refine Kx ?_;refine Vw ?_;refine uS ?_;refine X6 ?_;refine Ku ?_;refine uC (fun hne=>?_) (fun hne=>?_)
          · have hne':(S.drop lo)[k].e≠0:=by simpa using hne
            have e1:=errS_at hlt' he0 hne';exact Ei
          · have hne':(S.drop lo)[k].e=0:=by simpa using hne
            refine Kv ?_;refine XZ ?_;refine Ku ?_;refine⟨_,_,?_,qj [1,3,6,10,55,56,57] [(1000000,1000000),(3,3),(6,6),(71,0)] rfl rfl,k+1,_,hlt',rfl,qq hlt' Ds,qal hlt' he0 hne',?_⟩
            · omega
            · rw[Ym hlt',Yr,Yr];rfl
        · refine qC ?_;have hkk:k=(S.drop lo).length:=by
           have:¬(k:Int)<((S.length-lo:Nat):Int):=by simpa using hlt
           rw[Yo]at hk⊢;omega
          subst hkk;rw[Yu]at he0⊢;rw[hN,Yc DJ];clear hN
          refine uA ?_;refine Kz ?_;refine uC (fun h5=>?_) (fun h5=>?_)
          · cases h5
          · refine uA ?_;refine uC (fun h6=>?_) (fun h6=>?_)
            · cases h6
            · refine uA ?_;refine uC (fun h7=>?_) (fun h7=>?_)
              · cases h7
              · refine qh ?_;have e2:lastS 12 (S.drop lo)=⟨[],(jr 12 ((S.drop lo).map Itm.v)).1,(jr 12 ((S.drop lo).map Itm.v)).2⟩:=rfl;rw[e2];refine uR ?_;refine uK (call_h 12 ((S.drop lo).map Itm.v) (fun v hv=>by obtain⟨x,hx,rfl⟩:=Y1.1 hv;exact(hS x (YX hx)).v)) ?_;refine qe ?_;generalize jr 12 ((S.drop lo).map Itm.v)=r;exact LI
theorem node_13_h (val:Val) (attr:Atr) (S:List Itm) (lo:Nat) (g:List Giv) (hl:S.length<=1000000) (hlo:lo+2=S.length) (hS:∀x∈S,x.Fit):HoldsW prog 266 [.p (.agg (Nod.mk 13 val attr).pv),.view 1000000 5 lo S.length,.p (js g)] (wn S) (.p (.agg (qaM (Nod.mk 13 val attr) (S.drop lo) g).pv)) (wn S):=by
 obtain⟨x,y,hx⟩:=drop_two hlo;have h0:(S.drop lo)[0]?=some x:=by rw[hx];rfl
 have h1':(S.drop lo)[1]?=some y:=by rw[hx];rfl
 have hd0:decS 13 (S.drop lo)=(x.is 1||y.is 1):=by rw[hx];rfl
 cases hdec:(x.is 1||y.is 1)with
 |true=>
  have e:qaM (Nod.mk 13 val attr) (S.drop lo) g=itmT true:=by
   unfold qaM;simp only;rw[Yc DP,Yc DP,hd0,hdec,Yi rfl];rfl
  rw[e];refine LW ?_;refine uC (fun h1=>?_) (fun h1=>?_)
  · cases h1
  · refine uA ?_;refine uC (fun h2=>?_) (fun h2=>?_)
    · cases h2
    · refine uA ?_;refine uC (fun h3=>?_) (fun h3=>?_)
      · cases h3
      refine uA ?_;refine uC (fun h4=>?_) (fun h4=>?_);rotate_left
      · cases h4
      refine LM ?_;refine GK ?_;refine VU ?_;refine Xz ?_;refine M8 ?_;refine Xz ?_;refine GK ?_;refine VD ?_;refine Xz ?_;refine M9 ?_;refine Ky ?_;refine uC (fun h9=>?_) (fun h9=>?_)
      · refine uR ?_;refine uO (truth_h true) ?_;refine KD ?_;exact XG
      · have h9':(x.is 1||y.is 1)=false:=by
         rw[<-h9];show _=(bif x.is 1 then true else y.is 1);cases x.is 1<;>rfl
        rw[hdec]at h9';cases h9'
 |false=>
  have hN:=qaj (val:=val) (attr:=attr) (g:=g) (op:=13) (l:=S.drop lo) DP DP (hd0.trans hdec);refine LW ?_;refine uC (fun h1=>?_) (fun h1=>?_)
  · cases h1
  · refine uA ?_;refine uC (fun h2=>?_) (fun h2=>?_)
    · cases h2
    · refine uA ?_;refine uC (fun h3=>?_) (fun h3=>?_)
      · cases h3
      refine uA ?_;refine uC (fun h4=>?_) (fun h4=>?_);rotate_left
      · cases h4
      refine LM ?_;refine GK ?_;refine VU ?_;refine Xz ?_;refine M8 ?_;refine Xz ?_;refine GK ?_;refine VD ?_;refine Xz ?_;refine M9 ?_;refine Ky ?_;refine uC (fun h9=>?_) (fun h9=>?_)
      · have h9':(x.is 1||y.is 1)=true:=by
         rw[<-h9];show _=(bif x.is 1 then true else y.is 1);cases x.is 1<;>rfl
        rw[hdec]at h9';cases h9'
      · refine qh ?_;clear h0 h1' hx
        refine UI ?_;refine KH ?_;refine G8 ?_;refine V0 ?_;refine qG (fun m s=>∃(k:Nat) (kk:Int),k<=(S.drop lo).length/\m=(S.drop lo).length-k/\kk=k/\errS ((S.drop lo).take k)=0/\s=⟨122,[(1,.view 1000000 5 lo S.length),(3,.ptr 3 0),(6,.ptr 6 0),(10,.row 0),(55,.view 1000000 5 lo S.length),(56,.p (pI ((S.length-lo:Nat):Int))),(57,.p (pI kk))],[(1000000,.row 310 5 (S.map Itm.pv)),(3,.cells ((Nod.mk 13 val attr).pv.map .p)),(6,.cells (([.v (.slice none 0 0),pI 0,pI 0,pS ⟨#[]⟩,pI 0]:List PV).map .p)),(0,.row 44 3 ((((S.drop lo).take k).map Itm.v).map Val.pv))]⟩) (S.drop lo).length ⟨0,0,Yl _,rfl,rfl,rfl,rfl⟩ ?_;rintro m s ⟨k,_,hk,rfl,rfl,he0,rfl⟩;refine uA ?_;refine uC (fun hlt=>?_) (fun hlt=>?_)
        · refine qh ?_;have hlt':k<(S.drop lo).length:=by rw[Yo];simpa using hlt
          have hk2:k<S.length-lo:=by rwa [Yo]at hlt'
          have hget:(S.drop lo)[k]?=some (S.drop lo)[k]:=Yj hlt'
          refine Kx ?_;refine Vw ?_;refine uS ?_;refine X6 ?_;refine Ku ?_;refine uC (fun hne=>?_) (fun hne=>?_)
          · have hne':(S.drop lo)[k].e≠0:=by simpa using hne
            have e1:=errS_at hlt' he0 hne';exact Ei
          · have hne':(S.drop lo)[k].e=0:=by simpa using hne
            refine Kv ?_;refine XZ ?_;refine Ku ?_;refine⟨_,_,?_,qj [1,3,6,10,55,56,57] [(1000000,1000000),(3,3),(6,6),(71,0)] rfl rfl,k+1,_,hlt',rfl,qq hlt' Ds,qal hlt' he0 hne',?_⟩
            · omega
            · rw[Ym hlt',Yr,Yr];rfl
        · refine qC ?_;have hkk:k=(S.drop lo).length:=by
           have:¬(k:Int)<((S.length-lo:Nat):Int):=by simpa using hlt
           rw[Yo]at hk⊢;omega
          subst hkk;rw[Yu]at he0⊢;rw[hN,Yc DJ];clear hN
          refine uA ?_;refine Kz ?_;refine uC (fun h5=>?_) (fun h5=>?_)
          · cases h5
          · refine uA ?_;refine uC (fun h6=>?_) (fun h6=>?_)
            · cases h6
            · refine uA ?_;refine uC (fun h7=>?_) (fun h7=>?_)
              · cases h7
              · refine qh ?_;have e2:lastS 13 (S.drop lo)=⟨[],(jr 13 ((S.drop lo).map Itm.v)).1,(jr 13 ((S.drop lo).map Itm.v)).2⟩:=rfl;rw[e2];refine uR ?_;refine uK (call_h 13 ((S.drop lo).map Itm.v) (fun v hv=>by obtain⟨x,hx,rfl⟩:=Y1.1 hv;exact(hS x (YX hx)).v)) ?_;refine qe ?_;generalize jr 13 ((S.drop lo).map Itm.v)=r;exact LI
def stepR:Option (List Bool)->SV
 |some _=>.tup [.row 0,.p (pB true)]
 |none=>.tup [.p (.v (.slice none 0 0)),.p (pB false)]
def stepO:Option (List Bool)->List (Nat×Box)
 |some l=>[(0,.row 4 1 (wv l))]
 |none=>[]
theorem step_h (l:List Bool) (hl:l.length<=1000000) (n:Nod) (hn:n.Fit):HoldsW prog 262 [.row 1000000,.p (.agg n.pv)] [(1000000,.row 4 1 (wv l))] (stepR (qaf l n)) (stepO (qaf l n)):=by
 have H1:=wants_h n.op;cases hw:jP n.op with
 |none=>
  rw[hw]at H1;simp only[Option.getD_none,Option.isSome_none]at H1;have e:qaf l n=none:=by simp[qaf,hw]
  rw[e];refine qE (ts:=[4,5]) func262 DG rfl rfl rfl ?_;refine Kq ?_;refine uO H1 ?_;refine qe ?_;refine KM ?_;refine qV rfl rfl rfl rfl (fields_h n hn) rfl rfl ?_;refine Ky ?_;refine uC (fun h=>?_) (fun h=>?_)
  · exact KI
  · simp at h
 |some w=>
  rw[hw]at H1;simp only[Option.getD_some,Option.isSome_some]at H1;have hwl:w.length<=2:=by
   unfold jP at hw
   repeat' split at hw
   all_goals(cases hw;try simp)
  refine qE (ts:=[4,5]) func262 DG rfl rfl rfl ?_;refine Kq ?_;refine uO H1 ?_;refine qe ?_;refine KM ?_;refine qV rfl rfl rfl rfl (fields_h n hn) rfl rfl ?_;refine Ky ?_;have ll:(wv l).length=l.length:=by simp[wv]
  have lw:(wv w).length=w.length:=by simp[wv]
  refine uC (fun h=>?_) (fun h=>?_)
  · have e:qaf l n=none:=by
     simp only[qaf,hw];rw[Yc];intro⟨h1,h2,_⟩;simp[h1,ll,lw]at h;omega
    rw[e];exact KI
  · have hf:fieldsS n=true:=by
     cases hq:fieldsS n with
     |true=>rfl
     |false=>simp[hq]at h
    have hle:w.length<=l.length:=by
     simp[hf,ll,lw]at h;omega
    obtain⟨left,hleft⟩:∃left:Nat,left=l.length-w.length:=⟨_,rfl⟩;refine qh ?_;refine KH ?_;refine uZ [0,3,8,36,37,38] [(1000000,1000000),(3,3)] ?_;refine qG (fun m s=>∃(k:Nat) (kk L:Int),k<=w.length/\m=w.length-k/\kk=k/\L=left/\(l.drop left).take k=w.take k/\s=⟨60,[(0,.row 1000000),(3,.ptr 3 0),(8,.p (pI L)),(36,.p (.sl 1 (wv w))),(37,.p (pI (wv w).length)),(38,.p (pI kk))],[(1000000,.row 4 1 (wv l)),(3,.cells (n.pv.map .p))]⟩) w.length ⟨0,0,_,Yl _,rfl,rfl,?_,by simp,rfl⟩ ?_
    · show IntKind.i64.wrap (((wv l).length:Int)-(wv w).length)=_;rw[ll,lw,YD _ DP];omega
    rintro m s ⟨k,_,_,hk,rfl,rfl,rfl,ha,rfl⟩;refine uA ?_;refine uC (fun hlt=>?_) (fun hlt=>?_)
    · refine qh ?_;rw[lw]at hlt;simp only[Yf]at hlt;have hlt':k<w.length:=by omega
      have hk2:left+k<l.length:=by omega
      refine Kx ?_;refine qm qc rfl rfl (by rw[lw];omega) rfl ?_;rw[show(wv w).getD (Int.toNat (k:Int)) []=[pB w[k]]from qw hlt'];refine Kt ?_;have ew:IntKind.i64.wrap ((left:Int)+k)=((left+k:Nat):Int):=by rw[YD _ DP];omega
      rw[ew];refine Ux ?_;refine uS ?_;refine qm qc rfl (zC rfl rfl rfl rfl rfl (show(wv l).getD (Int.toNat ((left+k:Nat):Int)) []=[pB l[left+k]]from qw hk2) rfl) (by rw[ll];simp;omega) rfl ?_;refine Ko ?_;refine uC (fun hp=>?_) (fun hp=>?_)
      · have e:qaf l n=none:=by
         simp only[qaf,hw];rw[Yc];intro⟨_,_,h3⟩;rw[<-hleft]at h3;have h4:w[k]=l[left+k]:=by
          have:=congrArg (fun x=>x[k]?) h3
          simp only[YV]at this;rw[Yj hk2,Yj hlt']at this;exact(YS this).symm
         rw[h4]at hp;simp at hp
        rw[e];exact KI
      · refine Kw ?_;refine⟨_,_,?_,qj [0,3,8,36,37,38] [(1000000,1000000),(3,3)] rfl rfl,k+1,_,_,hlt',rfl,qq hlt' DP,rfl,?_,rfl⟩
        · omega
        · have h4:l[left+k]=w[k]:=by simpa using hp
          rw[Ym hlt',Ym DE,ha,List.getElem_drop,h4]
    · refine qC ?_;rw[lw]at hlt;simp only[Yh]at hlt;have hkk:k=w.length:=by omega
      subst hkk;have hd:l.drop left=w:=by
       rw[Yu]at ha;rw[<-ha,YN DE]
      have e:qaf l n=some (l.take left++[decide (n.op=2)]):=by
       simp only[qaf,hw];rw[Yi ⟨hf,hle,by rw[<-hleft];exact hd⟩,hleft]
      rw[e];refine uD [1000000] [1,3,5,7,9,11,12,14,17,19] ?_;refine qJ qc rfl rfl rfl Du rfl ?_;refine uT ?_;refine swm_act rfl rfl rfl (ActOk.shrink 54 999 rfl rfl rfl rfl (qp qc rfl rfl rfl rfl rfl rfl rfl rfl rfl rfl rfl rfl rfl rfl rfl rfl (by simp[reachBytes,wv];omega) (by simp[wv];omega) ?_));refine KG ?_;refine uQ ?_;have e2:List.take (Int.toNat (left:Int)) (wv l)++[[pB (n.op==2)]]=wv (l.take left++[decide (n.op=2)]):=by
       have:(n.op==2)=decide (n.op=2):=by rw[YO];simp
       rw[this];simp[wv,List.map_take]
      refine⟨Or.inr rfl,_,_,[(59,0)],Wk.refl _,rfl,rfl,?_,rfl⟩;show some [(0,Box.row 4 1 (List.take (Int.toNat (left:Int)) (wv l)++[[pB (n.op==2)]]))]=_;rw[e2];rfl
theorem stepsS_some:∀{l:List Nod} {a m:List Bool} {k:Nat} (hk:k<l.length),jI a (l.take k)=some m->jI a (l.take (k+1))=qaf m l[k]
 |n::r,a,m,0,_,h=>by
  simp[jI]at h;subst h;simp only[Xk,Y4,List.take_zero,jI,Xu];cases qaf a n<;>rfl
 |n::r,a,m,k+1,hk,h=>by
  rw[Y4,jI]at h⊢;cases hs:qaf a n with
  |none=>rw[hs]at h;cases h
  |some b=>
   rw[hs]at h;simp only at h⊢;rw[stepsS_some Dn h];rfl
theorem stepsS_none:∀{l:List Nod} {a:List Bool} (k:Nat),jI a (l.take k)=none->jI a l=none
 |[],a,k,h=>by simp[jI]at h
 |n::r,a,0,h=>by simp[jI]at h
 |n::r,a,k+1,h=>by
  rw[Y4,jI]at h;rw[jI];cases hs:qaf a n with
  |none=>rfl
  |some b=>rw[hs]at h;simp only at h⊢;exact stepsS_none k h
theorem stepS_len {l l':List Bool} {n:Nod} (h:qaf l n=some l'):l'.length<=l.length+1:=by
 unfold qaf at h;split at h
 · cases h
 · split at h
   · cases h;simp
   · cases h
theorem expr_h (l:List Nod) (hf:∀x∈l,x.Fit):Holds prog 216 [nodsP l] (.p (pI (exprS l))) []:=by
 refine qo (ts:=[2]) func216 DG rfl rfl rfl ?_;refine sw_len (t:=0) (z:=7) (l:=l.map Nod.pv) rfl fun hlen=>?_
 rw[Yb]at hlen;unfold reachBytes at hlen;have lm:(l.map Nod.pv).length=l.length:=by simp
 refine Kr ?_;rw[lm];refine uC (fun h=>?_) (fun h=>?_)
 · refine KC ?_;have h0:32<l.length:=by simp at h;omega
   simp[exprS,h0]
 · have h0:¬32<l.length:=by simp at h;omega
   refine qh ?_;refine Lr ?_;refine SW.wk (zw 3 900 4 1 rfl rfl) ?_;refine uZ [0,3,10,11,12] [(900,0)] ?_;refine qG (fun m s=>∃(k:Nat) (kk:Int) (made:List Bool),k<=l.length/\m=l.length-k/\kk=k/\jI [] (l.take k)=some made/\made.length<=k/\s=⟨38,[(0,.p (nodsP l)),(3,.row 0),(10,.p (nodsP l)),(11,.p (pI l.length)),(12,.p (pI kk))],[(0,.row 4 1 (wv made))]⟩) l.length ⟨0,0,[],Yl _,rfl,rfl,by simp[jI],Yk _,by rw[<-lm];rfl⟩ ?_;rintro m s ⟨k,_,made,hk,rfl,rfl,ha,hml,rfl⟩;refine uA ?_;refine uC (fun hlt=>?_) (fun hlt=>?_)
   · refine qh ?_;simp only[Yf]at hlt;have hlt':k<l.length:=by omega
     have hst:=stepsS_some hlt' ha;refine Kx ?_;refine GH ?_;rw[qw hlt'];refine Ko ?_;have H:=step_h made DP l[k] (hf _ (Yn hlt'));cases hs:qaf made l[k]with
     |none=>
      rw[hs]at H;refine uR ?_;refine uW [(0,1000000)] H ?_;refine KF ?_;refine uC (fun h=>?_) (fun h=>?_)
      · refine KC ?_;rw[exprS,Yc h0,stepsS_none (k+1) (by rw[hst,hs])]
      · cases h
     |some l'=>
      rw[hs]at H;refine uR ?_;refine uW [(0,1000000)] H ?_;refine KF ?_;refine uC (fun h=>?_) (fun h=>?_)
      · cases h
      · refine Kw ?_;refine⟨_,_,?_,qj [0,3,10,11,12] [(20000,0)] rfl rfl,k+1,_,l',hlt',rfl,qq hlt' DP,by rw[hst,hs],?_,rfl⟩
        · omega
        · have:=stepS_len hs;omega
   · refine qC ?_;simp only[Yh]at hlt;have hkk:k=l.length:=by omega
     subst hkk;rw[Yu]at ha;have ex:exprS l=if l=[]\/made=[false]then 0 else 1:=by rw[exprS,Yc h0,ha]
     cases l with
     |nil=>
      refine uA ?_;refine uC (fun h=>?_) (fun h=>?_)
      · cases h
      · refine KA ?_;exact qZ rfl (by rw[ex];rfl)
     |cons n r=>
      refine uR ?_;rw[show decide ((((n::r).map Nod.pv).length:Int)>0)=true by simp];refine uS ?_;by_cases h1:made.length=1
      · obtain⟨b,rfl⟩:∃b,made=[b]:=List.length_eq_one_iff.1 h1;refine uS ?_;refine qm qc rfl rfl (by simp[wv]) rfl ?_;refine uS ?_;refine qm qc rfl rfl (by simp[wv]) rfl ?_;refine Ko ?_;refine uC (fun h=>?_) (fun h=>?_)
        · have hb:b=true:=by simpa [wv]using h
          refine Kp ?_;exact qZ rfl (by rw[ex,hb];rfl)
        · have hb:b=false:=by simpa [wv]using h
          refine KA ?_;exact qZ rfl (by rw[ex,hb];rfl)
      · rw[show(((wv made).length:Int)!=1)=true by simp[wv];omega];refine Ko ?_;refine uC (fun h=>?_) (fun h=>?_)
        · refine Kp ?_;exact qZ rfl (by rw[ex,Yc (by rintro(h|rfl);cases h;exact h1 rfl)])
        · cases h
theorem node_h (n:Nod) (S:List Itm) (lo:Nat) (g:List Giv) (hlo:lo+jg n.op=S.length) (hl:S.length<=1000000) (hS:∀x∈S,x.Fit) (hgn:g.length<=1000000) (hb:∀x∈g,x.bag.length<=1000000) (hop:1<=n.op/\n.op<=13):
 HoldsW prog 266 [.p (.agg n.pv),.view 1000000 5 lo S.length,.p (js g)] (wn S) (.p (.agg (qaM n (S.drop lo) g).pv)) (wn S):=by
 obtain⟨op,val,attr⟩:=n;simp only at hop hlo;rcases(show op=1\/op=2\/op=3\/op=4\/op=5\/op=6\/op=7\/op=8\/op=9\/op=10\/op=11\/op=12\/op=13 by omega)with rfl|rfl|rfl|rfl|rfl|rfl|rfl|rfl|rfl|rfl|rfl|rfl|rfl
 · exact node_lit val attr S lo g
 · exact node_attr val attr S lo g hgn hb
 · exact node_one_h val attr S lo g hlo hl
 · exact node_size_h val attr S lo g hlo hl
 · exact node_has_h val attr S lo g hlo hl hS
 · exact wt 6 DP val attr S lo g hl DP hS
 · exact wt 7 DP val attr S lo g hl DP hS
 · exact wt 8 DP val attr S lo g hl DP hS
 · exact wt 9 DP val attr S lo g hl DP hS
 · exact wt 10 DP val attr S lo g hl DP hS
 · exact wt 11 DP val attr S lo g hl DP hS
 · exact node_12_h val attr S lo g hl hlo hS
 · exact node_13_h val attr S lo g hl hlo hS
theorem stepS_op {l l':List Bool} {n:Nod} (h:qaf l n=some l'):(1<=n.op/\n.op<=13)/\jg n.op<=l.length:=by
 unfold qaf at h;split at h
 · cases h
 · rename_i w hw;split at h
   · rename_i hc;have:=operandsS_wants hw;refine⟨?_,by omega⟩;unfold jP at hw
     repeat' split at hw
     all_goals first|omega|cases hw
   · cases h
theorem value_h (l:List Nod) (g:List Giv) (hf:∀x∈l,x.Fit) (hgf:∀x∈g,x.Fit) (hgn:g.length<=1000000) (hb:∀x∈g,x.bag.length<=1000000):Holds prog 218 [nodsP l,js g] (.tup [.p (.agg (valueS l g).1.pv),.p (pI (valueS l g).2)]) []:=by
 refine .ofW ?_;by_cases hl0:l=[]
 · subst hl0;have e:valueS [] g=(noVal,1):=rfl;rw[e];refine qz (T:=TTab) qc func218 DG rfl rfl rfl ?_;refine Kr ?_;refine uC (fun h=>?_) (fun h=>?_)
   · refine Kp ?_;exact XC
   · cases h
 · have lm:(l.map Nod.pv).length=l.length:=by simp
   have hpos:0<l.length:=List.length_pos_iff.2 hl0;refine qz (T:=TTab) qc func218 DG rfl rfl rfl ?_;refine Kq ?_;rw[show(((l.map Nod.pv).length:Int)==0)=false by rw[lm];simp;exact hl0];refine uS ?_;refine uK (expr_h l hf) ?_;refine qe ?_;refine uC (fun h=>?_) (fun h=>?_)
   · have h0:exprS l≠0:=by simpa using h
     have e:valueS l g=(noVal,1):=by unfold valueS;rw[Yi (.inr h0)]
     rw[e];refine Kp ?_;exact XC
   · have h0:exprS l=0:=by simpa using h
     obtain⟨hst,hl32⟩:=eExpr_made h0 hl0;refine qh ?_;refine KH ?_;refine SW.wk (zw 6 900 310 5 rfl rfl) ?_;refine uZ [1,4,5,6,19,20,21] [(4,4),(900,0)] ?_;refine qG (fun m s=>∃(k:Nat) (kk:Int) (S:List Itm) (made:List Bool),k<=l.length/\m=l.length-k/\kk=k/\S=evalI g (l.take k)/\jI [] (l.take k)=some made/\S.length=made.length/\made.length<=k/\(∀x∈S,x.Fit)/\s=⟨51,[(1,.p (js g)),(4,.ptr 4 0),(5,.p (pI 0)),(6,.row 0),(19,.p (nodsP l)),(20,.p (pI (l.map Nod.pv).length)),(21,.p (pI kk))],[(4,.cells (noVal.pv.map .p)),(0,.row 310 5 (S.map Itm.pv))]⟩) l.length ⟨0,0,[],[],Yl _,rfl,rfl,rfl,by simp[jI],rfl,Yk _,by simp,rfl⟩ ?_;rintro m s ⟨k,_,S,made,hk,rfl,rfl,hSe,ha,hSl,hml,hS,rfl⟩;refine uA ?_;refine uC (fun hlt=>?_) (fun hlt=>?_)
     · refine qh ?_;rw[lm]at hlt;simp only[Yf]at hlt;have hlt':k<l.length:=by omega
       have hst2:=stepsS_some hlt' ha;cases hs:qaf made l[k]with
       |none=>
        rw[hs]at hst2;rw[stepsS_none (k+1) hst2]at hst;cases hst
       |some made'=>
        rw[hs]at hst2;obtain⟨hop,hopl⟩:=stepS_op hs;obtain⟨hSl',_⟩:=stepI_len (g:=g) hSl hs;have lmS:(S.map Itm.pv).length=S.length:=by simp
        obtain⟨left,hleft⟩:∃left:Nat,left+jg l[k].op=S.length:=⟨S.length-jg l[k].op,by omega⟩;have hml':=stepS_len hs;refine Kx ?_;refine GH ?_;rw[qw hlt'];refine Kt ?_;refine uK (operands_h l[k].op) ?_;rw[show IntKind.i64.wrap (((S.map Itm.pv).length:Int)-(jg l[k].op:Int))=(left:Int)by rw[lmS,YD _ DP];omega];refine qe ?_;refine uD [0] [1,3,5,7,9,11,13,15,16,18,20,23] ?_;refine qJ qc rfl rfl rfl (by rw[lmS];omega) rfl ?_;refine uT ?_;refine qJ qc rfl rfl rfl (by rw[lmS];omega) rfl ?_;rw[lmS];refine uT ?_;refine uw [(0,1000000)] (node_h l[k] S left g hleft DP hS hgn hb hop) ?_;refine swm_act rfl rfl rfl (ActOk.shrink 33 999 rfl rfl rfl rfl (qp qc rfl rfl rfl rfl rfl rfl rfl rfl rfl rfl rfl rfl rfl rfl rfl rfl (by simp only[Ya,Yd,Yb];unfold reachBytes;simp;omega) (by simp only[Ya,Yd,Yb];simp;omega) ?_));refine KG ?_;refine uA ?_;have hdrop:S.length-jg l[k].op=left:=by omega
        refine⟨_,_,?_,qj [1,4,5,6,19,20,21] [(4,4),(41,0)] rfl rfl,k+1,_,stepI g S l[k],made',hlt',rfl,qq hlt' DP,?_,hst2,hSl',by omega,?_,?_⟩
        · omega
        · rw[hSe];exact(foldl_take_succ (stepI g) [] l k hlt').symm
        · intro x hx;unfold stepI at hx;rcases YL.1 hx with hx|hx
          · exact hS x (Xd hx)
          · rw[YA]at hx;subst hx;exact nodeS_fit (hf _ (Yn hlt')) (fun x hx=>hS x (YX hx)) hgf hb
        · have e3:(stepI g S l[k]).map Itm.pv=(S.map Itm.pv).take left++[(qaM l[k] (S.drop left) g).pv]:=by
           unfold stepI;rw[hdrop,Yr,List.map_take];rfl
          rw[e3];rfl
     · refine qC ?_;rw[lm]at hlt;simp only[Yh]at hlt;have hkk:k=l.length:=by omega
       subst hkk;rw[Yu]at hSe;obtain⟨x,hx⟩:=evalI_one (g:=g) h0 hl0;rw[hx]at hSe;subst hSe;rw[valueS_one h0 hl0 hx];refine uD [4] [1,3,5,7,9,11,13,15,16,19] ?_;refine qJ qc rfl rfl rfl DQ rfl ?_;refine uT ?_;refine GR ?_;refine uT ?_;refine qJ qc rfl rfl rfl DQ rfl ?_;refine uT ?_;refine GR ?_;refine KG ?_;refine uQ ?_;exact XC
theorem cond_h (l:List Nod) (g:List Giv) (hf:∀x∈l,x.Fit) (hgf:∀x∈g,x.Fit) (hgn:g.length<=1000000) (hb:∀x∈g,x.bag.length<=1000000):Holds prog 160 [nodsP l,js g] (.p (pI (condS l g))) []:=by
 by_cases hl0:l=[]
 · subst hl0;refine qo (ts:=[4]) func160 DG rfl rfl rfl ?_;refine Kr ?_;refine uC (fun h=>?_) (fun h=>?_)
   · exact KK
   · cases h
 · have lm:(l.map Nod.pv).length=l.length:=by simp
   have e:condS l g=condV (valueS l g):=by unfold condS;rw[Yc hl0]
   have H:=value_h l g hf hgf hgn hb;rw[e];generalize valueS l g=r at*;refine qo (ts:=[4]) func160 DG rfl rfl rfl ?_;refine Kq ?_;rw[show(((l.map Nod.pv).length:Int)==0)=false by rw[lm];simp;exact hl0];refine Ko ?_;refine uC (fun h=>?_) (fun h=>?_)
   · cases h
   · refine Kv ?_;refine uK H ?_;refine KF ?_;refine Kx ?_;refine uK ((is_h ⟨[],r.1,r.2⟩ 1).cv (.cons (CvL.agg (.cons (.nil 3) (.refl _))) (.refl _))) ?_;refine qe ?_;refine uC (fun h1=>?_) (fun h1=>?_)
     · refine Kp ?_;exact qZ rfl (by unfold condV;rw[h1];rfl)
     · refine uR ?_;refine uK ((is_h ⟨[],r.1,r.2⟩ 0).cv (.cons (CvL.agg (.cons (.nil 3) (.refl _))) (.refl _))) ?_;refine qe ?_;refine uC (fun h2=>?_) (fun h2=>?_)
       · refine Kp ?_;exact qZ rfl (by unfold condV;rw[h1,h2];rfl)
       · refine KA ?_;exact qZ rfl (by unfold condV;rw[h1,h2];rfl)
end
section
def Wlk.le (w v:Wlk):Prop:=(∀s,hasS w.met s=true->hasS v.met s=true)/\w.rules<=v.rules
theorem Wlk.le_refl (w:Wlk):w.le w:=⟨fun _ h=>h,Int.le_refl _⟩
theorem hasS_snoc (m:List DT) (s t:DT):hasS (m++[s]) t=(hasS m t||decide (t=s)):=by simp[hasS]
theorem Wlk.le_snoc {w v:Wlk} (h:w.le v) (s:DT) {a b:Int} (hab:a<=b):Wlk.le ⟨w.met++[s],a⟩ ⟨v.met++[s],b⟩:=by
 refine⟨fun t ht=>?_,hab⟩;simp only[hasS_snoc,Xm]at ht⊢;exact ht.imp (h.1 t) id
theorem nameOk_le {w v:Wlk} (h:w.le v) {s:DT} (hs:wH v.met s=true):wH w.met s=true:=by
 unfold wH at hs⊢;simp only[Yp,Xo]at hs⊢;refine⟨?_,hs.2⟩;cases hw:hasS w.met s with
 |false=>rfl
 |true=>rw[h.1 s hw]at hs;cases hs.1
theorem ruleS_le {w v:Wlk} (h:w.le v) {r:Rul} (h0:(jy v r).1=0):(jy w r).1=0/\(jy w r).2.le (jy v r).2:=by
 unfold jy at h0⊢;by_cases hv:wH v.met r.id=true
 · have hw:=nameOk_le h hv;rw[Yi hv]at h0⊢;rw[Yi hw];have h2:=h.2;simp only at h0⊢;by_cases h64:64<v.rules+1
   · rw[Yi h64]at h0;cases h0
   · rw[Yc h64]at h0;rw[Yc DP];exact⟨h0,Wlk.le_snoc h r.id DP⟩
 · rw[Yc hv]at h0;cases h0
theorem headS_le {w v:Wlk} (h:w.le v) {p:Pol} (h0:(jZ v p).1=0):(jZ w p).1=0/\(jZ w p).2.le (jZ v p).2:=by
 unfold jZ at h0⊢;by_cases hv:wH v.met p.id=true
 · have hw:=nameOk_le h hv;simp only[hv,hw,Bool.true_and,nameM,if_true]at h0⊢;exact⟨h0,Wlk.le_snoc h p.id h.2⟩
 · simp[hv]at h0
theorem seqS_le {α:Type} {f f':Wlk->α->Int×Wlk} (hf:∀w v x,w.le v->(f v x).1=0->(f' w x).1=0/\(f' w x).2.le (f v x).2):∀{l:List α} {w v:Wlk},w.le v->(seqS f v l).1=0->(seqS f' w l).1=0/\(seqS f' w l).2.le (seqS f v l).2
 |[],w,v,h,_=>⟨rfl,h⟩
 |x::r,w,v,h,h0=>by
  rw[seqS]at h0⊢;rw[seqS];by_cases hx:(f v x).1=0
  · rw[Yi hx]at h0⊢;obtain⟨h1,h2⟩:=hf w v x h hx;rw[Yi h1];exact seqS_le hf h2 h0
  · rw[Yc hx]at h0;exact absurd h0 hx
theorem seqS_each {α:Type} {f:Wlk->α->Int×Wlk} {Q:α->Prop} (hf:∀w x,(f w x).1=0->Q x):∀{l:List α} {w:Wlk},(seqS f w l).1=0->∀x∈l,Q x
 |[],w,_,x,hx=>by simp at hx
 |y::r,w,h0,x,hx=>by
  rw[seqS]at h0;by_cases hy:(f w y).1=0
  · rw[Yi hy]at h0;rcases Y0.1 hx with rfl|hx
    · exact hf w _ hy
    · exact seqS_each hf h0 x hx
  · rw[Yc hy]at h0;exact absurd h0 hy
theorem ruleS_lim {w:Wlk} {r:Rul} (hw:0<=w.rules/\w.rules<=64) (h:(jy w r).1=0):0<=(jy w r).2.rules/\(jy w r).2.rules<=64:=by
 unfold jy at h⊢;split at h
 · rename_i hn;rw[Yi hn];simp only at h⊢;split at h
   · cases h
   · omega
 · cases h
theorem qbe {α:Type} {f:Wlk->α->Int×Wlk} {P:Wlk->Prop} (hf:∀w x,P w->(f w x).1=0->P (f w x).2):∀{l:List α} {w:Wlk},P w->(seqS f w l).1=0->P (seqS f w l).2
 |[],w,hw,_=>hw
 |x::r,w,hw,h=>by
  rw[seqS]at h⊢;by_cases h0:(f w x).1=0
  · rw[Yi h0]at h⊢;exact qbe hf (hf w x hw h0) h
  · rw[Yc h0]at h;exact absurd h h0
abbrev lim (w:Wlk):Prop:=0<=w.rules/\w.rules<=64
theorem polS_lim:∀(n:Nat) (w:Wlk) (p:Pol),lim w->(polS n w p).1=0->lim (polS n w p).2
 |0,w,p,_,h=>by cases h
 |n+1,w,p,hw,h=>by
  have h1:lim (jZ w p).2:=hw;rw[polS]at h⊢;split at h
  · rename_i h2;rw[Yi h2];split at h
    · rename_i h3;rw[Yi h3];exact qbe (P:=lim) (fun w x hw h=>polS_lim n w x hw h) (qbe (P:=lim) (fun w x hw h=>ruleS_lim hw h) h1 h3) h
    · rename_i h3;exact absurd h h3
  · rename_i h2;exact absurd h h2
end
section
open Go.RowKit
mutual
def Pol.nr:Pol->Nat
 | .mk _ _ _ _ rs ks _=>rs.length+Pol.nrs ks
def Pol.nrs:List Pol->Nat
 |[]=>0
 |k::ks=>k.nr+Pol.nrs ks
end
theorem Pol.nrs_eq:∀l:List Pol,Pol.nrs l=qQ Pol.nr l
 |[]=>rfl
 |k::ks=>by simp[Pol.nrs,qQ,Pol.nrs_eq ks]
theorem Pol.nr_eq (p:Pol):p.nr=p.rules.length+qQ Pol.nr p.kids:=by
 cases p;rw[<-Pol.nrs_eq];rfl
theorem seqS_count {α:Type} {f:Wlk->α->Int×Wlk} {c:α->Nat} (hf:∀w x,(f w x).1=0->(f w x).2.rules=w.rules+c x):∀{l:List α} {w:Wlk},(seqS f w l).1=0->(seqS f w l).2.rules=w.rules+qQ c l
 |[],w,_=>by simp[seqS,qQ]
 |x::r,w,h=>by
  rw[seqS]at h⊢;by_cases h0:(f w x).1=0
  · rw[Yi h0]at h⊢;rw[seqS_count hf h,hf w x h0];simp[qQ];omega
  · rw[Yc h0]at h;exact absurd h h0
theorem ruleS_count (w:Wlk) (r:Rul) (h:(jy w r).1=0):(jy w r).2.rules=w.rules+(1:Nat):=by
 unfold jy at h⊢;split at h
 · rename_i hn;rw[Yi hn];rfl
 · cases h
theorem sumBy_one {α:Type}:∀l:List α,qQ (fun _=>1) l=l.length
 |[]=>rfl
 |x::r=>by have:=sumBy_one r;unfold qQ at this⊢;simp;omega
theorem sumBy_take {α:Type} (f:α->Nat) (l:List α) (k:Nat):qQ f (l.take k)<=qQ f l:=by
 have h:qQ f (l.take k++l.drop k)=qQ f (l.take k)+qQ f (l.drop k):=by simp only[qQ,Yr,List.sum_append]
 rw[Xq]at h;omega
theorem polS_count:∀(n:Nat) (w:Wlk) (p:Pol),(polS n w p).1=0->(polS n w p).2.rules=w.rules+p.nr
 |0,w,p,h=>by cases h
 |n+1,w,p,h=>by
  have h1:(jZ w p).2.rules=w.rules:=rfl;rw[polS]at h⊢;rw[Pol.nr_eq];split at h
  · rename_i h2;rw[Yi h2];split at h
    · rename_i h3;rw[Yi h3,seqS_count (c:=Pol.nr) (fun w x h=>polS_count n w x h) h,seqS_count (c:=fun _=>1) ruleS_count h3,h1,sumBy_one];omega
    · rename_i h3;exact absurd h h3
  · rename_i h2;exact absurd h h2
def Dp:Nat->Pol->Prop
 |0,_=>False
 |n+1,p=>∀k∈p.kids,Dp n k
theorem polS_kids {n:Nat} {w:Wlk} {p:Pol} (h:(polS (n+1) w p).1=0):(jZ w p).1=0/\(seqS jy (jZ w p).2 p.rules).1=0/\(seqS (polS n) (seqS jy (jZ w p).2 p.rules).2 p.kids).1=0:=by
 rw[polS]at h;split at h
 · rename_i h2;split at h
   · rename_i h3;exact⟨h2,h3,h⟩
   · rename_i h3;exact absurd h h3
 · rename_i h2;exact absurd h h2
theorem polS_dp:∀(n:Nat) {w:Wlk} {p:Pol},(polS n w p).1=0->Dp n p
 |0,w,p,h=>by cases h
 |n+1,w,p,h=>seqS_each (fun w x h=>polS_dp n h) (polS_kids h).2.2
theorem hasS_ruleS {s:DT} {w:Wlk} {r:Rul} (h:hasS w.met s=true):hasS (jy w r).2.met s=true:=by
 unfold jy;split
 · show hasS (w.met++[r.id]) s=true;rw[hasS_snoc,h];rfl
 · exact h
theorem hasS_headS {s:DT} {w:Wlk} {p:Pol} (h:hasS w.met s=true):hasS (jZ w p).2.met s=true:=by
 unfold jZ nameM;simp only;split
 · rw[hasS_snoc,h];rfl
 · exact h
theorem hasS_polS {s:DT}:∀(n:Nat) {w:Wlk} {p:Pol},hasS w.met s=true->(polS n w p).1=0->hasS (polS n w p).2.met s=true
 |0,w,p,_,h=>by cases h
 |n+1,w,p,hw,h=>by
  obtain⟨h1,h2,h3⟩:=polS_kids h;rw[polS,Yi h1,Yi h2];exact qbe (P:=fun w=>hasS w.met s=true) (fun w x hw h=>hasS_polS n hw h) (qbe (P:=fun w=>hasS w.met s=true) (fun w x hw _=>hasS_ruleS hw) (hasS_headS hw) h2) h3
def Pol.putKids (p:Pol) (l:List Pol):Pol:=.mk p.id p.set p.alg p.target p.rules l p.obls
theorem decideS_dp (g:List Giv):∀{n:Nat} {p:Pol},Dp n p->∀{m:Nat},n<=m->qX g m p=qX g n p
 |n+1,p,h,m+1,hm=>by
  have e:p.kids.map (qX g m)=p.kids.map (qX g n):=List.map_congr_left fun k hk=>decideS_dp g (h k hk) DP
  rw[qX,qX,e]
theorem right_dp {p:Pol} (h:zW p=0):Dp 4 p:=polS_dp 4 h
def ents (m:List DT):List (Value×PV):=m.map fun s=>(.string s,.agg [])
def wlkO (w:Wlk):List (Nat×Box):=[(1000000,.cells [.row 1000001,.p (pI w.rules)]),(1000001,.mp (ents w.met))]
abbrev wlkR:List (Nat×Nat):=[(1000000,1000000),(1000001,1000001)]
theorem ents_ok:∀m:List DT,(ents m).all (fun x=>kdOk .str x.1)=true
 |[]=>rfl
 |s::m=>by
  have:=ents_ok m;simp only[ents,Y2,List.all_cons,Yp]at this⊢;exact⟨rfl,this⟩
theorem mfind_ents (s:DT):∀m:List DT,mfind (.string s) (ents m)=if hasS m s then some (.agg [])else none
 |[]=>rfl
 |t::m=>by
  have ih:=mfind_ents s m;show(bif keyEq (.string s) (.string t)then some (PV.agg [])else mfind (.string s) (ents m))=_;rw[ih];by_cases e:s=t
  · subst e;simp[keyEq,hasS]
  · have e':∀i:Decidable (s=t),@decide (s=t) i=false:=fun i=>by
     cases i with
     |isTrue h=>exact absurd h e
     |isFalse h=>rfl
    rw[show keyEq (.string s) (.string t)=false from e' _];unfold hasS;rw[List.any_cons,e',cond_false,Bool.false_or]
theorem ents_snoc (m:List DT) (s:DT):ents m++[(.string s,.agg [])]=ents (m++[s]):=by simp[ents]
theorem wname_h (m:List DT) (n:Int) (s:DT) (hs:s.size<=reachBytes):HoldsW prog 213 [.ptr 1000000 0,.p (pS s)] (wlkO ⟨m,n⟩) (.p (pB (wH m s))) (wlkO ⟨nameM m s,n⟩):=by
 by_cases hm:hasS m s=true
 · have e1:wH m s=false:=by simp[wH,hm]
   have e2:nameM m s=m:=by simp[nameM,e1]
   rw[e1,e2];refine qE (ts:=[4]) func213 DG rfl rfl rfl ?_;refine Kq ?_;refine qm qc rfl rfl (ents_ok m) rfl ?_;rw[mfind_ents,Yi hm];refine Ko ?_;refine KM ?_;refine qV rfl rfl rfl rfl (name_h s hs) rfl rfl ?_;refine Ky ?_;refine uC (fun h=>?_) (fun h=>?_)
   · exact KZ
   · cases h
 · refine qE (ts:=[4]) func213 DG rfl rfl rfl ?_;refine Kq ?_;refine qm qc rfl rfl (ents_ok m) rfl ?_;rw[mfind_ents,Yc hm];refine Ko ?_;refine KM ?_;refine qV rfl rfl rfl rfl (name_h s hs) rfl rfl ?_;refine Ky ?_;refine uC (fun h=>?_) (fun h=>?_)
   · have e0:qad s=false:=by simpa using h
     have e1:wH m s=false:=by simp[wH,e0]
     have e2:nameM m s=m:=by simp[nameM,e1]
     rw[e1,e2];exact KZ
   · have e0:qad s=true:=by simpa using h
     have e1:wH m s=true:=by simp[wH,e0,hm]
     have e2:nameM m s=m++[s]:=by simp[nameM,e1]
     rw[e1,e2];refine Kv ?_;refine qy rfl (act_mapUpdate qc rfl rfl rfl rfl rfl rfl rfl rfl rfl (ents_ok m) (by rw[mfind_ents,Yc hm]) rfl ?_);rw[ents_snoc];refine KU ?_;exact XU
def TarFit (t:Tar):Prop:=∀x∈t,∀y∈x,∀m∈y,m.Fit
structure RulFit (r:Rul):Prop where
 id:r.id.size<=reachBytes
 tgt:TarFit r.target
 cond:∀n∈r.cond,n.Fit
 obls:∀o∈r.obls,o.Fit
theorem wrule_h (w:Wlk) (hw:0<=w.rules/\w.rules<=64) (r:Rul) (hr:RulFit r):HoldsW prog 157 [.ptr 1000000 0,.p (.agg (zo r))] (wlkO w) (.p (pI (jy w r).1)) (wlkO (jy w r).2):=by
 have H:=wname_h w.met w.rules r.id hr.id;cases hn:wH w.met r.id with
 |false=>
  have e:jy w r=(1,w):=by simp[jy,hn]
  have e2:nameM w.met r.id=w.met:=by simp[nameM,hn]
  rw[hn,e2]at H;rw[e];refine qE (ts:=[4]) func157 DG rfl rfl rfl ?_;refine Kq ?_;refine uW wlkR H ?_;refine qe ?_;refine uC (fun h=>?_) (fun h=>?_)
  · exact KZ
  · cases h
 |true=>
  have e2:nameM w.met r.id=w.met++[r.id]:=by simp[nameM,hn]
  rw[hn,e2]at H;have e:jy w r=(if 64<w.rules+1 then 6 else ruleE r,⟨w.met++[r.id],w.rules+1⟩):=by simp[jy,hn]
  rw[e];refine qE (ts:=[4]) func157 DG rfl rfl rfl ?_;refine Kq ?_;refine uW wlkR H ?_;refine qe ?_;refine uC (fun h=>?_) (fun h=>?_)
  · cases h
  · refine Kw ?_;rw[show IntKind.i64.wrap (w.rules+1)=w.rules+1 from YD _ DP];refine uA ?_;refine uC (fun h=>?_) (fun h=>?_)
    · have h1:64<w.rules+1:=by simp at h;omega
      rw[Yi h1];exact KZ
    · have h1:¬64<w.rules+1:=by simp at h;omega
      rw[Yc h1];unfold ruleE;refine Kv ?_;refine uK (target_h r.target hr.tgt) ?_;refine KF ?_;refine uC (fun h=>?_) (fun h=>?_)
      · have h2:¬wR r.target=0:=by simpa using h
        rw[Yc h2];exact KZ
      · have h2:wR r.target=0:=by simpa using h
        rw[Yi h2];refine Kv ?_;refine uK (expr_h r.cond hr.cond) ?_;refine KF ?_;refine uC (fun h=>?_) (fun h=>?_)
        · have h3:¬exprS r.cond=0:=by simpa using h
          rw[Yc h3];exact KZ
        · have h3:exprS r.cond=0:=by simpa using h
          rw[Yi h3];refine Kv ?_;refine uK (obls_h r.obls hr.obls) ?_;refine KD ?_;exact XU
mutual
def polP:Pol->List PV
 | .mk id set alg target rules kids obls=>[pS id,pB set,pI alg,tgtP target,.sl 5 (rules.map zo),.sl 7 (polPs kids),zh obls]
def polPs:List Pol->List (List PV)
 |[]=>[]
 |k::r=>polP k::polPs r
end
theorem polPs_eq:∀l:List Pol,polPs l=l.map polP
 |[]=>rfl
 |k::r=>by rw[polPs,polPs_eq r];rfl
theorem qY (p:Pol):polP p=[pS p.id,pB p.set,pI p.alg,tgtP p.target,.sl 5 (p.rules.map zo),.sl 7 (p.kids.map polP),zh p.obls]:=by
 cases p;rw[polP,polPs_eq];rfl
structure HeadFit (p:Pol):Prop where
 id:p.id.size<=reachBytes
 tgt:TarFit p.target
 rules:∀r∈p.rules,RulFit r
 obls:∀o∈p.obls,o.Fit
 nr:p.rules.length<=reachBytes
 nk:p.kids.length<=reachBytes
theorem whead_h (w:Wlk) (p:Pol) (hp:HeadFit p):HoldsW prog 156 [.ptr 1000000 0,.p (.agg (polP p))] (wlkO w) (.p (pI (jZ w p).1)) (wlkO (jZ w p).2):=by
 have H:=wname_h w.met w.rules p.id hp.id;have l1:((p.rules.map zo).length)=p.rules.length:=by simp
 have l2:((p.kids.map polP).length)=p.kids.length:=by simp
 rw[qY];unfold jZ;cases hn:wH w.met p.id with
 |false=>
  rw[hn]at H;simp only[Bool.false_and,YC,if_false];refine qE (ts:=[4]) func156 DG rfl rfl rfl ?_;refine Kq ?_;refine uW wlkR H ?_;refine qe ?_;refine uC (fun h=>?_) (fun h=>?_)
  · exact KZ
  · cases h
 |true=>
  rw[hn]at H;refine qE (ts:=[4]) func156 DG rfl rfl rfl ?_;refine Kq ?_;refine uW wlkR H ?_;by_cases h1:p.alg<1
  · rw[show decide (p.alg<1)=true from Yz h1];refine Ko ?_;refine uC (fun h=>?_) (fun h=>?_)
    · rw[Yc DE];exact KZ
    · cases h
  · rw[show decide (p.alg<1)=false from YB h1];refine Ko ?_;refine uC (fun h=>?_) (fun h=>?_)
    · have h2:6<p.alg:=by simpa using h
      rw[Yc DE];exact KZ
    · have h2:¬6<p.alg:=by simpa using h
      rw[Yi DE];unfold headE;refine qh ?_;refine KB ?_;rw[l1,l2];refine uC (fun h=>?_) (fun h=>?_)
      · rw[Yi (by revert h;cases p.set<;>simp)];exact KZ
      · rw[Yc (by revert h;cases p.set<;>simp)];refine Kv ?_;refine uK (target_h p.target hp.tgt) ?_;refine KF ?_;refine uC (fun h=>?_) (fun h=>?_)
        · have h3:¬wR p.target=0:=by simpa using h
          rw[Yc h3];exact KZ
        · have h3:wR p.target=0:=by simpa using h
          rw[Yi h3];refine Kv ?_;refine uK (obls_h p.obls hp.obls) ?_;refine KF ?_;refine uC (fun h=>?_) (fun h=>?_)
          · have h4:¬oblsS p.obls=0:=by simpa using h
            rw[Yc h4];exact KZ
          · have h4:oblsS p.obls=0:=by simpa using h
            rw[Yi h4];refine qh ?_;refine KB ?_;rw[l1,l2];refine uC (fun h=>?_) (fun h=>?_)
            · rw[Yi Dd];exact KZ
            · rw[Yc Dd];refine KA ?_;exact XU
def PolFit:Nat->Pol->Prop
 |0,_=>True
 |n+1,p=>HeadFit p/\∀k∈p.kids,PolFit n k
theorem wpol_h:∀(n:Nat) (hn:n<=4) (w:Wlk) (p:Pol),lim w->PolFit n p->HoldsW prog 99 [.ptr 1000000 0,.p (.agg (polP p)),.p (pI (5-n))] (wlkO w) (.p (pI (polS n w p).1)) (wlkO (polS n w p).2)
 |0,_,w,p,_,_=>by
  rw[qY];refine qE (ts:=[6]) func99 DG rfl rfl rfl ?_;refine Kr ?_;refine uC (fun h=>?_) (fun h=>?_)
  · exact KZ
  · cases h
 |n+1,hn,w,p,hw,hf=>by
  have H:=whead_h w p hf.1;have IH:=fun w k hw hk=>wpol_h n DP w k hw hk
  have l1:((p.rules.map zo).length)=p.rules.length:=by simp
  have l2:((p.kids.map polP).length)=p.kids.length:=by simp
  rw[qY]at H⊢;rw[polS];have hlen:=hf.1.nr;have hlen2:=hf.1.nk;unfold reachBytes at hlen hlen2;refine qE (ts:=[6]) func99 DG rfl rfl rfl ?_;refine Kr ?_;refine uC (fun h=>?_) (fun h=>?_)
  · exfalso;simp at h;omega
  · refine Kv ?_;refine uW wlkR H ?_;refine KF ?_;refine uC (fun h=>?_) (fun h=>?_)
    · have h1:¬(jZ w p).1=0:=by simpa using h
      rw[Yc h1];exact KZ
    · have h1:(jZ w p).1=0:=by simpa using h
      rw[Yi h1];have hw1:lim (jZ w p).2:=hw;generalize (jZ w p).2=w1 at*;refine LO ?_;refine uZ [0,2,4,23,24,25] [(1000000,1000000),(1000001,1000001),(4,4)] ?_
      refine qG (fun m s=>∃(k:Nat) (kk:Int) (wk:Wlk),k<=p.rules.length/\m=p.rules.length-k/\kk=k/\(seqS jy w1 (p.rules.take k)).1=0/\wk=(seqS jy w1 (p.rules.take k)).2/\
       s=⟨52,[(0,.ptr 1000000 0),(2,.p (pI (5-(n+1:Nat)))),(4,.ptr 4 0),(23,.p (.sl 5 (p.rules.map zo))),(24,.p (pI p.rules.length)),(25,.p (pI kk))],wlkO wk++[(4,.cells ([pS p.id,pB p.set,pI p.alg,tgtP p.target,.sl 5 (p.rules.map zo),.sl 7 (p.kids.map polP),zh p.obls].map .p))]⟩) p.rules.length ⟨0,0,w1,Yl _,rfl,rfl,rfl,rfl,by rw[<-l1];rfl⟩ ?_
      rintro m s ⟨k,_,wk,hk,rfl,rfl,ha,hwk,rfl⟩;have hlk:lim wk:=by rw[hwk];exact qbe (P:=lim) (fun w x hw h=>ruleS_lim hw h) hw1 ha
      refine uA ?_;refine uC (fun hlt=>?_) (fun hlt=>?_)
      · refine qh ?_;simp only[Yf]at hlt;have hlt':k<p.rules.length:=by omega
        have hst:=seqS_some hlt' ha;rw[<-hwk]at hst;refine Kx ?_;refine qm qc rfl rfl Dv rfl ?_;rw[qw hlt'];refine Ko ?_;have H2:=wrule_h wk hlk p.rules[k] (hf.1.rules _ (Yn hlt'));refine uR ?_;refine uW wlkR H2 ?_;refine KF ?_;refine uC (fun h=>?_) (fun h=>?_)
        · have h2:¬(jy wk p.rules[k]).1=0:=by simpa using h
          have e:seqS jy w1 p.rules=jy wk p.rules[k]:=by rw[seqS_stop (k+1) (by rw[hst];exact h2),hst]
          rw[e,Yc h2];exact KZ
        · have h2:(jy wk p.rules[k]).1=0:=by simpa using h
          refine Kw ?_;refine⟨_,_,?_,qj [0,2,4,23,24,25] [(1000000,1000000),(1000001,1000001),(4,4)] rfl rfl,k+1,_,_,hlt',rfl,qq hlt' DP,by rw[hst];exact h2,by rw[hst],rfl⟩;omega
      · refine qC ?_;simp only[Yh]at hlt;have hkk:k=p.rules.length:=by omega
        subst hkk;rw[Yu]at ha hwk;rw[Yi ha,<-hwk];clear hwk
        refine KJ ?_;refine uZ [0,2,37,38,39] [(1000000,1000000),(1000001,1000001)] ?_
        refine qG (fun m s=>∃(k:Nat) (kk:Int) (w2:Wlk),k<=p.kids.length/\m=p.kids.length-k/\kk=k/\(seqS (polS n) wk (p.kids.take k)).1=0/\w2=(seqS (polS n) wk (p.kids.take k)).2/\
         s=⟨52,[(0,.ptr 1000000 0),(2,.p (pI (5-(n+1:Nat)))),(37,.p (.sl 7 (p.kids.map polP))),(38,.p (pI p.kids.length)),(39,.p (pI kk))],wlkO w2⟩) p.kids.length ⟨0,0,wk,Yl _,rfl,rfl,rfl,rfl,by rw[<-l2];rfl⟩ ?_
        rintro m s ⟨k,_,w2,hk,rfl,rfl,ha,hwk,rfl⟩;have hl2:lim w2:=by rw[hwk];exact qbe (P:=lim) (fun w x hw h=>polS_lim n w x hw h) hlk ha
        refine uA ?_;refine uC (fun hlt=>?_) (fun hlt=>?_)
        · refine qh ?_;simp only[Yf]at hlt;have hlt':k<p.kids.length:=by omega
          have hst:=seqS_some hlt' ha;rw[<-hwk]at hst;refine Kx ?_;refine Rh ?_;rw[qw hlt',qY];refine Ko ?_;have H2:=IH w2 p.kids[k] hl2 (hf.2 _ (Yn hlt'));rw[qY]at H2;refine uR ?_;rw[show IntKind.i64.wrap ((5:Int)-(n+1:Nat)+1)=5-(n:Int)by rw[YD _ DP];omega];refine uW wlkR H2 ?_;refine KF ?_;refine uC (fun h=>?_) (fun h=>?_)
          · have h2:¬(polS n w2 p.kids[k]).1=0:=by simpa using h
            have e:seqS (polS n) wk p.kids=polS n w2 p.kids[k]:=by rw[seqS_stop (k+1) (by rw[hst];exact h2),hst]
            rw[e];exact KZ
          · have h2:(polS n w2 p.kids[k]).1=0:=by simpa using h
            refine Kw ?_;refine⟨_,_,?_,qj [0,2,37,38,39] [(1000000,1000000),(1000001,1000001)] rfl rfl,k+1,_,_,hlt',rfl,qq hlt' DP,by rw[hst];exact h2,by rw[hst],rfl⟩;omega
        · refine qC ?_;simp only[Yh]at hlt;have hkk:k=p.kids.length:=by omega
          subst hkk;rw[Yu]at ha hwk;rw[ha,<-hwk];exact KZ
theorem right_h (p:Pol) (hf:PolFit 4 p):Holds prog 51 [.agg (polP p)] (.p (pI (zW p))) []:=by
 have H:=wpol_h 4 (Yk _) ⟨[],0⟩ p ⟨Int.le_refl _,by decide⟩ hf;rw[qY]at H⊢;refine qo (ts:=[2]) func51 DG rfl rfl rfl ?_;refine uA ?_;refine Kq ?_;refine uW [(6,1000000),(4,1000001)] H ?_;exact Lv
theorem opens_tstr:Opens prog 9 1 rStr:=opens_str underlying9 DG
theorem SlV.rel {α:Type} {R:Rp α} {f:α->List PV} {z:Nat} {w:World} {v:Value} {l:List α} (h:SlV R z w v l) (hz:∀x,(f x).length=z/\(f x).all oneP=true) (hf:∀x∈l,∀cs,R w cs x->rPV (fun _=>True) w cs (f x)):RelP (fun _=>True) w (.sl z (l.map f)) v:=by
 obtain⟨A,c,rfl,h1,h2,h3⟩:=h;exact rel_sl h3 h1 h2 hz hf
theorem SlV.fit {α:Type} {R:Rp α} {size:Nat} {w:World} {v:Value} {l:List α} {F:α->Prop} (h:SlV R size w v l) (hR:∀cs x,R w cs x->F x):(∀x∈l,F x)/\l.length<=reachBytes:=by
 obtain⟨A,c,rfl,h1,h2,h3⟩:=h;exact⟨h3.fit hR,h2.1⟩
def PolF:Nat->Pol->Prop
 |0,_=>False
 |n+1,p=>HeadFit p/\R64 p.alg/\∀k∈p.kids,PolF n k
theorem polF_fit:∀(m:Nat) {n:Nat} {p:Pol},PolF n p->PolFit m p
 |0,_,_,_=>True.intro
 |m+1,n+1,p,h=>⟨h.1,fun k hk=>polF_fit m (h.2.2 k hk)⟩
theorem SWT.wk {P:Program} {ops l:List Oper} {Q:St->Prop} {st st':St} (h:Wk st st') (h':SWT P ops l Q st'):SWT P ops l Q st:=fun w0 Sx γ a w QQ hI hQ=>by
 obtain⟨γ',hI'⟩:=h w0 Sx γ a w hI;exact h' w0 Sx γ' a w QQ hI' hQ
theorem xsz_le {t:Tar} {x:List (List Mat)} (h:x∈t):xsz x<=tsz t:=by
 have:=sumBy_le (f:=xsz) h;unfold tsz;omega
theorem len_sumBy {α:Type} (f:α->Nat) (h:∀x,1<=f x):∀l:List α,l.length<=qQ f l
 |[]=>Yl _
 |x::r=>by
  have h1:=len_sumBy f h r;have h2:=h x;simp only[qQ,Y2,List.sum_cons,Yg]at h1⊢;omega
def SWB (P:Program) (ops:List Oper) (κ:Kap) (ls:Array Bool) (fuel:Nat) (Q:St->Prop) (st:St):Prop:=∀(w0:Base) (Sx:Nat->Prop) (γ:Nat->Value) (a:Act) (w:World) (QQ:Exit->Act->World->Prop),Sim w0 Sx γ st a w->
 (∀st' γ' a' w',Sim w0 Sx γ' st' a' w'->Q st'->QQ .normal a' w')->wpAnyP P ops.toArray (NoPanic QQ) fuel (pendOf γ st.own w κ) ls a w
def SWBo (P:Program) (ops:List Oper) (κ:Kap) (ls:Array Bool) (fuel:Nat) (Q:St->Prop) (st:St) (i:Nat):Prop:=∀(w0:Base) (Sx:Nat->Prop) (γ:Nat->Value) (a:Act) (w:World) (QQ:Exit->Act->World->Prop),Sim w0 Sx γ st a w->
 (∀st' γ' a' w',Sim w0 Sx γ' st' a' w'->Q st'->QQ .normal a' w')->wpOp P ops.toArray (NoPanic QQ) i (fun a' w'=>(∀p∈alive ops.toArray i (pendOf γ st.own w κ),p.2 w')/\wpAnyP P ops.toArray (NoPanic QQ) fuel (alive ops.toArray i (pendOf γ st.own w κ)) (ls.setIfInBounds i true) a' w') a w
section
variable {P:Program} {ops:List Oper} {κ:Kap} {ls:Array Bool} {fuel:Nat} {st:St} {Q:St->Prop} {i j:Nat} {o:Oper}
theorem qF (hr:Region.ready .any ops.toArray ls=[]) (h:Q st):SWB P ops κ ls fuel Q st:=fun _ _ γ a w _ hI hQ=>by
 cases fuel with
 |zero=>exact⟨hr,hQ st γ a w hI h⟩
 |succ f=>exact⟨fun _=>hQ st γ a w hI h,fun i hi=>by rw[hr]at hi;cases hi⟩
theorem qg (i:Nat) (hr:Region.ready .any ops.toArray ls=[i]) (h:SWBo P ops κ ls fuel Q st i):SWB P ops κ ls (fuel+1) Q st:=fun w0 Sx γ a w QQ hI hQ=>
 ⟨fun h0=>EW,fun k hk=>by
  rw[hr]at hk;obtain rfl:k=i:=by simpa using hk
  exact h w0 Sx γ a w QQ hI hQ⟩
theorem zd (i j:Nat) (hr:Region.ready .any ops.toArray ls=[i,j]) (h:SWBo P ops κ ls fuel Q st i) (h2:SWBo P ops κ ls fuel Q st j):SWB P ops κ ls (fuel+1) Q st:=fun w0 Sx γ a w QQ hI hQ=>
 ⟨fun h0=>EW,fun k hk=>by
  rw[hr]at hk;have hk:k=i\/k=j:=by simpa using hk
  rcases hk with rfl|rfl
  · exact h w0 Sx γ a w QQ hI hQ
  · exact h2 w0 Sx γ a w QQ hI hQ⟩
theorem swb_fork3 (i j k:Nat) (hr:Region.ready .any ops.toArray ls=[i,j,k]) (h:SWBo P ops κ ls fuel Q st i) (h2:SWBo P ops κ ls fuel Q st j) (h3:SWBo P ops κ ls fuel Q st k):SWB P ops κ ls (fuel+1) Q st:=fun w0 Sx γ a w QQ hI hQ=>
 ⟨fun h0=>EW,fun m hk=>by
  rw[hr]at hk;have hk:m=i\/m=j\/m=k:=by simpa using hk
  rcases hk with rfl|rfl|rfl
  · exact h w0 Sx γ a w QQ hI hQ
  · exact h2 w0 Sx γ a w QQ hI hQ
  · exact h3 w0 Sx γ a w QQ hI hQ⟩
theorem swb_fork4 (i j k l:Nat) (hr:Region.ready .any ops.toArray ls=[i,j,k,l]) (h:SWBo P ops κ ls fuel Q st i) (h2:SWBo P ops κ ls fuel Q st j) (h3:SWBo P ops κ ls fuel Q st k) (h4:SWBo P ops κ ls fuel Q st l):SWB P ops κ ls (fuel+1) Q st:=fun w0 Sx γ a w QQ hI hQ=>
 ⟨fun h0=>EW,fun m hk=>by
  rw[hr]at hk;have hk:m=i\/m=j\/m=k\/m=l:=by simpa using hk
  rcases hk with rfl|rfl|rfl|rfl
  · exact h w0 Sx γ a w QQ hI hQ
  · exact h2 w0 Sx γ a w QQ hI hQ
  · exact h3 w0 Sx γ a w QQ hI hQ
  · exact h4 w0 Sx γ a w QQ hI hQ⟩
theorem qi {K:List Nat} {s:SV} (hB:(Region.free .any ops.toArray ls i&&(Region.ready .any ops.toArray ls).contains i)=true) (hs:Region.noSelect ops.toArray=true) (hi:nthO ops i=some o) (hw:wl ops st o=some true) (hr:RdO P K st o s) (hd:jW st o.dst=true)
 (h:SWB P ops ((i,K)::κ) (ls.setIfInBounds i true) fuel Q (st.put o.dst s)):SWB P ops κ ls (fuel+1) Q st:=fun w0 Sx γ a w QQ hI hQ=>by
 obtain⟨v,h1,h2⟩:=hr w0 Sx γ a w hI;have hrest:=h w0 Sx γ _ w QQ (hI.put (dst:=o.dst) hd h1) hQ;simp only[qaE]at hrest;rw[Yp]at hB;have hio:=(jB ops i).trans hi;exact wpAnyP_first hio (Region.noSelect_spec hs) (fun _ _ _ h=>h) fuel _ ls a w (Region.free_spec hio hB.1) (by simpa using hB.2) (Or.inl ⟨wC hI hw,h2⟩) (SameOn.refl _ _) pendOf_at hrest
theorem qd {Ws:List Nat} (hi:nthO ops i=some o) (hw:wl ops st o=some true) (hK:(kapB o κ).all (fun p=>Ws.all fun j=>p.2.contains j)=true) (h:ActOk P Ws o st (SWB P ops (kapB o κ) (ls.setIfInBounds i true) fuel Q)):SWBo P ops κ ls fuel Q st i:=fun w0 Sx γ a w QQ hI hQ=>by
 have hsub:∀p∈kapB o κ,∀j∈Ws,j∈p.2:=fun p hp j hj=>by simpa using YE.1 (YE.1 hK p hp) j hj
 have hio:=(jB ops i).trans hi;unfold wpOp;rw[hio];simp only[wC hI hw,if_true];refine Or.inl ?_;have:=h w0 Sx γ a w (NoPanic QQ) hI
 have mono:∀{a' w'},(∃γ' st',SWB P ops (kapB o κ) (ls.setIfInBounds i true) fuel Q st'/\Sim w0 Sx γ' st' a' w'/\SameOn (vis Ws γ st.own) w w'/\∀K:List Nat,(∀i∈Ws,i∈K)->∀b,b<w.heap.size->vis K γ st.own b->vis K γ' st'.own b)->
  (∀p∈alive ops.toArray i (pendOf γ st.own w κ),p.2 w')/\wpAnyP P ops.toArray (NoPanic QQ) fuel (alive ops.toArray i (pendOf γ st.own w κ)) (ls.setIfInBounds i true) a' w':=fun{a' w'} ⟨γ',st',h1,h2,h3,h4⟩=>by
  have hc:Covers (alive ops.toArray i (pendOf γ st.own w κ)) (pendOf γ' st'.own w' (kapB o κ)):=fun p hp=>by
   obtain⟨hp1,hp2⟩:=mem_alive.1 hp;obtain⟨q,hq,rfl⟩:=Y1.1 hp1;have hq':q∈kapB o κ:=List.mem_filter.2 ⟨hq,by rw[hp2 o hio];rfl⟩;have hs:=hsub q hq';refine .inr ⟨_,Y1.2 ⟨q,hq',rfl⟩,rfl,fun x hx=>⟨Xj h3.size hx.size,fun b hb hv=>?_⟩⟩;have e1:=h3.block b hb (fun j bx hj hjW hjb=>hv j bx hj (by simpa using hs j (by simpa using hjW)) hjb);have e2:=hx.block b (Xs hb h3.size) (h4 q.2 hs b hb hv);exact e2.trans e1
  exact⟨hc.at pendOf_at,wpAnyP_weak _ hc _ _ _ (h1 w0 Sx γ' a' w' QQ h2 hQ)⟩
 unfold Oper.wp at this⊢;generalize (execOp a.eval o).run P w=res at*;cases res with
 |ok n w'=>
  cases n<;>simp only[Oper.upon]at this⊢<;>first
   |exact mono this
   |exact this
   |exact Calls.mono this (fun e w'' he=>by cases e<;>first|exact mono he|exact he)
   |exact Rows.mono this (fun _ _ he=>mono he)
 |halt x w'=>cases x<;>simp only[Oper.upon]at this⊢<;>exact this
theorem qD {id:Nat} {l:List Oper} {QS:SEx->St->Prop} (n:Nat) (hn:l.length=n) (hm:P.follows .mixedOrders=true) (h:SWB P l [] (Array.replicate n false) n (QS .normal) st):SW P (.region id l.toArray true) QS st:=fun w0 Sx γ a w QQ hI hQ=>by
 refine wp_region_noPanic (wp_region_any hm (wpAny_of_pend _ [] _ _ _ ?_));have h1:=h w0 Sx γ a w.drew QQ hI.drew fun s' γ' a' w' hI' hq=>hQ .normal s' γ' a' w' hI' hq
 have e:l.toArray.size=n:=by simpa using hn
 rw[e];exact h1
end
def rsP (x:Rs):List PV:=[mkP x.m,zh x.obls]
def rssP (l:List Rs):PV:=.sl 2 (l.map rsP)
theorem dutiesS_take {l:List Obli} {m:Mk} {k:Nat} (h:k<l.length):qap (l.take (k+1)) m=if dutyS m l[k]then qap (l.take k) m++[l[k]]else qap (l.take k) m:=by
 unfold qap;rw[Ym h,List.filter_append];cases hd:dutyS m l[k]<;>simp[hd]
theorem qau (l:List Obli) (m:Mk):(qap l m).length<=l.length:=List.length_filter_le _ _
theorem duties_h (l:List Obli) (hn:l.length<=1000000) (m:Mk) (hm:m∈mks):Holds prog 163 [zh l,mkP m] (.p (zh (qap l m))) []:=by
 have lm:(l.map Obli.pv).length=l.length:=by simp
 refine .ofW ?_;refine qz (T:=TTab) qc func163 DG rfl rfl rfl ?_;refine Lr ?_;refine SW.wk (zw 5 900 64 3 rfl rfl) ?_;refine uZ [1,5,8,9,10] [(900,0)] ?_;refine qG (fun n s=>∃(k:Nat) (kk:Int) (L:List Obli),k<=l.length/\n=l.length-k/\kk=k/\L=qap (l.take k) m/\s=⟨36,[(1,.p (mkP m)),(5,.row 0),(8,.p (zh l)),(9,.p (pI (l.map Obli.pv).length)),(10,.p (pI kk))],[(0,.row 64 3 (L.map Obli.pv))]⟩) l.length ⟨0,0,[],Yl _,rfl,rfl,rfl,rfl⟩ ?_;rintro n s ⟨k,_,L,hk,rfl,rfl,hL,rfl⟩;refine uA ?_;refine uC (fun hlt=>?_) (fun hlt=>?_)
 · refine qh ?_;rw[lm]at hlt;simp only[Yf]at hlt;have hlt':k<l.length:=by omega
   have hs:=dutiesS_take (m:=m) hlt';have hLl:L.length<=k:=by rw[hL];have:=qau (l.take k) m;simp at this;omega
   refine Kx ?_;refine GH ?_;rw[qw hlt'];refine Ko ?_;have hd:dutyS m l[k]=bif (l[k].on==1)&&mkE m (2,0)then true else(l[k].on==2)&&mkE m (0,2):=by
    rw[zt hm DH,zt hm DH];unfold dutyS;rw[YO];simp
   refine KB ?_;refine uC (fun hc=>?_) (fun hc=>?_)
   · have hd':dutyS m l[k]=true:=by
      rw[hd];revert hc
      unfold mkE;cases(l[k].on==1)<;>cases(l[k].on==2)<;>simp[hb]
     rw[hd',Yi rfl]at hs;refine uR ?_;refine XA ?_;refine Ku ?_;refine⟨_,_,?_,qj [1,5,8,9,10] [(33,0)] rfl rfl,k+1,_,qap (l.take (k+1)) m,hlt',rfl,qq hlt' DP,rfl,?_⟩
     · omega
     · rw[hs,<-hL,Yr];rfl
   · have hd':dutyS m l[k]=false:=by
      rw[hd];revert hc
      unfold mkE;cases(l[k].on==1)<;>cases(l[k].on==2)<;>simp[hb]
     rw[hd',Yc DQ]at hs;refine Kw ?_;refine⟨_,_,?_,qj [1,5,8,9,10] [(0,0)] rfl rfl,k+1,_,L,hlt',rfl,qq hlt' DP,by rw[hs];exact hL,rfl⟩;omega
 · refine qC ?_;rw[lm]at hlt;simp only[Yh]at hlt;have hkk:k=l.length:=by omega
   subst hkk;rw[Yu]at hL;subst hL;refine Kp ?_;exact⟨Or.inr rfl,_,_,[],_,qu (k:=0) rfl,rfl,rfl,.refl _,rfl,rfl⟩
theorem effect_h (r:Rul) (t c:Int) (ho:r.obls.length<=1000000):Holds prog 159 [.agg (zo r),pI t,pI c] (.p (.agg (rsP (effectS r t c)))) []:=by
 obtain⟨id,deny,tg,cond,obls⟩:=r;unfold effectS effM;simp only at ho⊢;refine .ofW ?_;cases deny with
 |true=>
  rw[Yi rfl];refine qz (T:=TTab) qc func159 DG rfl rfl rfl ?_;refine LN ?_;refine uC (fun hd=>?_) (fun hd=>?_)
  · refine KJ ?_;refine KB ?_;refine uC (fun h0=>?_) (fun h0=>?_)
    · have h0':t=0\/(t=2/\c=0):=by
       revert h0
       by_cases a:t=0<;>by_cases b:t=2<;>by_cases d:c=0<;>simp[a,b,d]
      rw[Yi h0'];refine Kp ?_;exact Ve
    · have h0':¬(t=0\/(t=2/\c=0)):=by
       revert h0
       by_cases a:t=0<;>by_cases b:t=2<;>by_cases d:c=0<;>simp[a,b,d]
      rw[Yc h0'];refine KB ?_;refine uC (fun h1=>?_) (fun h1=>?_)
      · have h1':t=1\/c=1:=by
         revert h1
         by_cases a:t=1<;>by_cases d:c=1<;>simp[a,d]
        rw[Yi h1'];refine uR ?_;refine uK (mkIndet_h (0,2) DH) ?_;refine KD ?_;exact Ve
      · have h1':¬(t=1\/c=1):=by
         revert h1
         by_cases a:t=1<;>by_cases d:c=1<;>simp[a,d]
        rw[Yc h1'];refine Kv ?_;refine uO (duties_h obls ho (0,2) DH) ?_;refine KD ?_;exact XC
  · cases hd
 |false=>
  simp only[YC,if_false];refine qz (T:=TTab) qc func159 DG rfl rfl rfl ?_;refine LN ?_;refine uC (fun hd=>?_) (fun hd=>?_)
  · cases hd
  · refine Lh ?_;refine KB ?_;refine uC (fun h0=>?_) (fun h0=>?_)
    · have h0':t=0\/(t=2/\c=0):=by
       revert h0
       by_cases a:t=0<;>by_cases b:t=2<;>by_cases d:c=0<;>simp[a,b,d]
      rw[Yi h0'];refine Kp ?_;exact Ve
    · have h0':¬(t=0\/(t=2/\c=0)):=by
       revert h0
       by_cases a:t=0<;>by_cases b:t=2<;>by_cases d:c=0<;>simp[a,b,d]
      rw[Yc h0'];refine KB ?_;refine uC (fun h1=>?_) (fun h1=>?_)
      · have h1':t=1\/c=1:=by
         revert h1
         by_cases a:t=1<;>by_cases d:c=1<;>simp[a,d]
        rw[Yi h1'];refine uR ?_;refine uK (mkIndet_h (2,0) DH) ?_;refine KD ?_;exact Ve
      · have h1':¬(t=1\/c=1):=by
         revert h1
         by_cases a:t=1<;>by_cases d:c=1<;>simp[a,d]
        rw[Yc h1'];refine Kv ?_;refine uO (duties_h obls ho (2,0) DH) ?_;refine KD ?_;exact XC
theorem ruleR_h (r:Rul) (g:List Giv) (hr:RulFit r) (ht:TarSm r.target) (ho:r.obls.length<=1000000) (hf:∀x∈g,x.Fit) (hn:g.length<=1000000) (hb:∀x∈g,x.bag.length<=1000000):Holds prog 101 [.agg (zo r),js g] (.p (.agg (rsP (ruleR g r)))) []:=by
 have H1:=metT_h r.target g hr.tgt ht hf hn hb;have H2:=cond_h r.cond g hr.cond hf hn hb;have H3:=effect_h r (metT r.target g) (condS r.cond g) ho;obtain⟨id,deny,tg,cond,obls⟩:=r;unfold ruleR;simp only at H1 H2 H3⊢;generalize metT tg g=t at*;generalize condS cond g=c at*;refine .ofW ?_;refine qz (T:=TTab) qc func101 DG rfl rfl rfl ?_;refine uA ?_;refine uD [4] [1,3,5,7,11,13,15,8,16,18,20] ?_;refine uk H1 ?_;refine uk H2 ?_;refine uo H3 ?_;refine qT ?_;refine uQ ?_;exact XC
theorem wk_nilc {st:St} (j i d:Nat) (e:TypeId) (z:Nat) {cs:List SV} (hj:lk j st.own=some (.cells cs)) (hi:cs[i]?=some (.p (.v (.slice none 0 0)))) (hd:lk d st.own=none) (hdl:Nat.blt d 1000000=true:=by rfl):
 Wk st ⟨st.n,st.fr,setB j (.cells (cs.set i (.row d))) ((d,.row e z [])::st.own)⟩:=fun w0 Sx γ a w hI=>by
 have hbx:BoxOk w0 Sx (upd γ d (.slice none 0 0)) ((d,.row e z [])::st.own) w d (.row e z []):=by
  refine .row ?_ DQ (Yl _) (fun b hb=>by simp[upd,zg]at hb);rw[show upd γ d (.slice none 0 0) d=.slice none 0 0 from Yi rfl];exact rowO_nil
 obtain⟨h1,h2,h3,_⟩:=hI.heap.add (Below.refl _ w) hd (by simpa [Nat.blt,YJ]using hdl) (g:=.slice none 0 0) (fun b hb=>by cases hb) hbx;have hdj:j≠d:=fun h=>by subst h;rw[hj]at hd;cases hd
 have hI1:Sim w0 Sx (upd γ d (.slice none 0 0)) ⟨st.n,st.fr,(d,.row e z [])::st.own⟩ a w:=by
  refine⟨hI.below,hI.size,hI.defers,fun k s hk=>?_,h1⟩;have hr:=hI.fr k s hk;refine hr.keep2 (Yk _) (fun b hb hok=>⟨rfl,h2 b hb hok⟩) fun i hi=>h3 i fun e=>?_
  subst e;rw[hr.live (jO hd)]at hi;cases hi
 have hj1:lk j ((d,Box.row e z [])::st.own)=some (.cells cs):=by rw[qL,Yc hdj];exact hj
 cases hI1.heap.box j _ hj1 with
 |@cells _ us ty b hg hB hh hl h hone=>
  have:=hI1.setBox (bx':=.cells (cs.set i (.row d))) hj1 (b:=b) DD (Below.refl 0 w) (fun _ _=>rfl) (fun own' e1 e2 e3=>.cells (us:=us) hg hB hh Dk (fun k s u hs hu=>by
   by_cases hk:k=i
   · subst hk;have hkl:k<cs.length:=(Yq.1 hi).1;rw[List.getElem?_set_self hkl]at hs;cases hs;have h0:=(h k _ u hi hu).v_inv;rw[h0];exact e3 (.row EO)
   · rw[List.getElem?_set_ne (Ne.symm hk)]at hs;exact e3 (h k s u hs hu)) hone)
  exact⟨_,this.1⟩
def oblN (l:List Rs):Nat:=qQ (fun x=>x.obls.length) l
theorem oblN_take {l:List Rs} {k:Nat} (h:k<l.length):oblN (l.take (k+1))=oblN (l.take k)+l[k].obls.length:=sumBy_step h
theorem oblN_le (l:List Rs) (k:Nat):oblN (l.take k)<=oblN l:=sumBy_take _ l k
theorem rs_app (M:Mk) (a b:List Obli):rsP ⟨M,a++b⟩=[mkP M,.sl 3 (a.map Obli.pv++b.map Obli.pv)]:=by
 unfold rsP;simp only;rw[show zh (a++b)=.sl 3 ((a++b).map Obli.pv)from rfl,Yr]
def joinXe (alg:Int) (obls:List Obli) (M:Mk) (t:Int) (parts:List Rs):Rs:=
 if t=0 then⟨(0,0),[]⟩else if t=1 then⟨indetM M,[]⟩
 else if M≠(2,0)/\M≠(0,2)then⟨M,[]⟩else⟨M,qaC alg M parts++qap obls M⟩
theorem join_h (p:Pol) (t:Int) (parts:List Rs) (hn:parts.length<=1000000) (hm:∀x∈parts,x.m∈mks) (ho:oblN parts<=500000) (hp:p.obls.length<=500000):Holds prog 102 [.agg (polP p),pI t,rssP parts] (.p (.agg (rsP (joinR p t parts)))) []:=by
 obtain⟨id,set,alg,tg,rules,kids,obls⟩:=p;have lp:(parts.map rsP).length=parts.length:=by simp
 replace hp:obls.length<=500000:=hp
 have hM:allM alg (parts.map Rs.m)∈mks:=allM_mem fun m h=>by
  obtain⟨x,hx,rfl⟩:=Y1.1 h;exact hm x hx
 have HC:=combAll_h alg (parts.map Rs.m) (by simpa using hn) (fun m h=>by
  obtain⟨x,hx,rfl⟩:=Y1.1 h;exact hm x hx)
 rw[show joinR (.mk id set alg tg rules kids obls) t parts=joinXe alg obls (allM alg (parts.map Rs.m)) t parts from rfl,qY];simp only[Pol.id,Pol.set,Pol.alg,Pol.target,Pol.rules,Pol.kids,Pol.obls];obtain⟨M,hMe⟩:∃M,M=allM alg (parts.map Rs.m):=⟨_,rfl⟩;rw[<-hMe]at hM HC⊢;clear hMe
 unfold joinXe;refine .ofW ?_;refine qz (T:=TTab) qc func102 DG rfl rfl rfl ?_;refine Lr ?_;refine SW.wk (zw 7 900 55 1 rfl rfl) ?_;refine uZ [1,2,3,6,7,15,16,17] [(3,3),(6,6),(900,0)] ?_;refine qG (fun n s=>∃(k:Nat) (kk:Int),k<=parts.length/\n=parts.length-k/\kk=k/\s=⟨84,[(1,.p (pI t)),(2,.p (rssP parts)),(3,.ptr 3 0),(6,.ptr 6 0),(7,.row 0),(15,.p (rssP parts)),(16,.p (pI (parts.map rsP).length)),(17,.p (pI kk))],[(3,.cells [.p (pS id),.p (pB set),.p (pI alg),.p (tgtP tg),.p (.sl 5 (rules.map zo)),.p (.sl 7 (kids.map polP)),.p (zh obls)]),(6,.cells [.p (.v (.complex .f64 0 0)),.p nilV]),(0,.row 55 1 (((parts.take k).map Rs.m).map fun m=>[mkP m]))]⟩) parts.length ⟨0,0,Yl _,rfl,rfl,rfl⟩ ?_;rintro n s ⟨k,_,hk,rfl,rfl,rfl⟩;refine uA ?_;refine uC (fun hlt=>?_) (fun hlt=>?_)
 · refine qh ?_;rw[lp]at hlt;simp only[Yf]at hlt;have hlt':k<parts.length:=by omega
   obtain⟨x,hx⟩:∃x,x=parts[k]:=⟨_,rfl⟩;refine Kx ?_;refine qm qc rfl rfl (by rw[lp];omega) rfl ?_;refine V1 ?_;refine Kt ?_;refine XA ?_;refine Ku ?_;refine⟨_,_,?_,qj [1,2,3,6,7,15,16,17] [(3,3),(6,6),(25,0)] rfl rfl,k+1,_,hlt',rfl,qq hlt' DP,?_⟩
   · omega
   · rw[Ym hlt',<-hx,Yr,Yr];rfl
 · refine qC ?_;rw[lp]at hlt;simp only[Yh]at hlt;have hkk:k=parts.length:=by omega
   subst hkk;rw[Yu];refine uR ?_;refine uK HC ?_;refine qe ?_;refine Kz ?_;refine uC (fun c0=>?_) (fun c0=>?_)
   · have e:t=0:=by simpa using c0
     rw[Yi e];refine Kp ?_;exact Ve
   have n0:¬t=0:=by simpa using c0
   rw[Yc n0];refine uA ?_;refine uC (fun c1=>?_) (fun c1=>?_)
   · have e:t=1:=by simpa using c1
     rw[Yi e];refine uR ?_;refine uK (mkIndet_h M hM) ?_;refine KD ?_;exact Ve
   have n1:¬t=1:=by simpa using c1
   rw[Yc n1];have hP:mkE M (2,0)=decide (M=(2,0)):=zt hM DH;have hD:mkE M (0,2)=decide (M=(0,2)):=zt hM DH;refine KB ?_;refine uC (fun c2=>?_) (fun c2=>?_)
   · have e:M≠(2,0)/\M≠(0,2):=by
      change(bif !mkE M (2,0)then !mkE M (0,2)else false)=true at c2;rw[hP,hD]at c2;revert c2
      by_cases a:M=(2,0)<;>by_cases b:M=(0,2)<;>simp[a,b]
     rw[Yi e];refine Kp ?_;exact Ve
   have e:¬(M≠(2,0)/\M≠(0,2)):=by
    change(bif !mkE M (2,0)then !mkE M (0,2)else false)=false at c2;rw[hP,hD]at c2;revert c2
    by_cases a:M=(2,0)<;>by_cases b:M=(0,2)<;>simp[a,b]
   rw[Yc e];refine qh ?_;refine KH ?_;refine SW.wk (wk_nilc 12 1 900 64 3 rfl rfl rfl) ?_;refine uZ [3,6,10,12,55,56,57] [(3,3),(6,6),(12,12),(900,0)] ?_;refine qG (fun n s=>∃(k:Nat) (kk:Int) (acc:List Obli),k<=parts.length/\n=parts.length-k/\kk=k/\acc.length<=oblN (parts.take k)/\qaC alg M parts=acc++qaC alg M (parts.drop k)/\s=⟨84,[(3,.ptr 3 0),(6,.ptr 6 0),(10,.p (mkP M)),(12,.ptr 12 0),(55,.p (rssP parts)),(56,.p (pI (parts.map rsP).length)),(57,.p (pI kk))],[(3,.cells [.p (pS id),.p (pB set),.p (pI alg),.p (tgtP tg),.p (.sl 5 (rules.map zo)),.p (.sl 7 (kids.map polP)),.p (zh obls)]),(6,.cells [.p (.v (.complex .f64 0 0)),.p nilV]),(12,.cells [.p (mkP M),.row 0]),(0,.row 64 3 (acc.map Obli.pv))]⟩) parts.length ⟨0,0,[],Yl _,rfl,rfl,Yl _,rfl,rfl⟩ ?_;rintro n s ⟨k,_,acc,hk,rfl,rfl,hacc,hfin,rfl⟩;have htk:=oblN_le parts k;refine uA ?_;refine uC (fun hlt=>?_) (fun hlt=>?_)
   · refine qh ?_;rw[lp]at hlt;simp only[Yf]at hlt;have hlt':k<parts.length:=by omega
     have hs:=oblN_take hlt';have htk2:=oblN_le parts (k+1);have hxm:=hm _ (Yn hlt');rw[Xf hlt',qaC]at hfin;refine Kx ?_;refine qm qc rfl rfl (by rw[lp];omega) rfl ?_;rw[qw hlt'];refine Ko ?_;generalize parts[k]=x at*;have hE:mkE x.m M=decide (x.m=M):=zt hxm hM;refine uA ?_;refine uC (fun cx=>?_) (fun cx=>?_)
     · have e:¬x.m=M:=by
        change(!mkE x.m M)=true at cx;rw[hE]at cx;simpa using cx
       rw[Yc e]at hfin;refine Ls ?_;refine⟨_,_,?_,qj [3,6,10,12,55,56,57] [(3,3),(6,6),(12,12),(0,0)] rfl rfl,k+1,_,acc,hlt',rfl,qq hlt' DP,by omega,hfin,rfl⟩;omega
     · have e:x.m=M:=by
        change(!mkE x.m M)=false at cx;rw[hE]at cx;simpa using cx
       rw[Yi e]at hfin;refine Kv ?_;refine XA ?_;refine Ku ?_;refine uC (fun c3=>?_) (fun c3=>?_)
       · have e3:alg=3:=by simpa using c3
         rw[Yi e3]at hfin;refine qC ?_;obtain⟨acc2,ha2⟩:∃acc2,acc2=acc++x.obls:=⟨_,rfl⟩;have hl2:acc2.length=acc.length+x.obls.length:=by rw[ha2,Ya]
         rw[<-ha2]at hfin;refine uZ [3,6,10,12] [(3,3),(6,6),(12,12),(69,69)] ?_;have eL:acc.map Obli.pv++x.obls.map Obli.pv=acc2.map Obli.pv:=by rw[ha2,Yr]
         change SW _ _ _ ⟨84,[(3,.ptr 3 0),(6,.ptr 6 0),(10,.p (mkP M)),(12,.ptr 12 0)],[(3,.cells [.p (pS id),.p (pB set),.p (pI alg),.p (tgtP tg),.p (.sl 5 (rules.map zo)),.p (.sl 7 (kids.map polP)),.p (zh obls)]),(6,.cells [.p (.v (.complex .f64 0 0)),.p nilV]),(12,.cells [.p (mkP M),.row 69]),(69,.row 64 3 (acc.map Obli.pv++x.obls.map Obli.pv))]⟩;rw[eL];have hacc2:acc2.length<=1000000:=by omega
         have hdl:=qau obls M;refine R7 ?_;refine qi (i:=0) (K:=[12,69]) DG DG rfl rfl (qf qc rfl De) rfl ?_;refine XR ?_;refine qi (i:=2) (K:=[12,69]) DG DG rfl rfl (qf qc rfl De) rfl ?_;refine qi (i:=3) (K:=[12,69]) DG DG rfl rfl (qf qc rfl De) rfl ?_;refine qi (i:=4) (K:=[12,69]) DG DG rfl rfl (qf qc rfl De) rfl ?_;refine Vo ?_;refine qd rfl rfl rfl (qt rfl rfl rfl rfl ((duties_h obls DP M hM)) rfl rfl rfl ?_);refine G9 ?_;refine XI ?_;refine qi (i:=7) (K:=[12,69]) DG DG rfl rfl (qf qc rfl De) rfl ?_;refine Un ?_;refine Lz ?_;refine SW.wk (qj [3,6,12] [(3,3),(6,6),(12,12),(81,81)] rfl rfl) ?_;refine ?fk22_185;rotate_left;refine Kp ?_;rw[hfin,rs_app];exact⟨Or.inr rfl,_,_,[],_,qu (k:=81) rfl,rfl,rfl,.refl _,rfl,rfl⟩
       · have e3:¬alg=3:=by simpa using c3
         rw[Yc e3]at hfin;refine Kw ?_;refine⟨_,_,?_,qj [3,6,10,12,55,56,57] [(3,3),(6,6),(12,12),(69,0)] rfl rfl,k+1,_,acc++x.obls,hlt',rfl,qq hlt' DP,by rw[Ya];omega,by rw[YU];exact hfin,?_⟩
         · omega
         · rw[Yr];rfl
   · refine qC ?_;rw[lp]at hlt;simp only[Yh]at hlt;have hkk:k=parts.length:=by omega
     subst hkk;rw[List.drop_length,qaC,Y9]at hfin;obtain⟨acc2,ha2⟩:∃acc2,acc2=acc:=⟨_,rfl⟩;rw[<-ha2]at hfin hacc⊢;have hacc2:acc2.length<=1000000:=by omega
     have hdl:=qau obls M;refine R7 ?_;refine qi (i:=0) (K:=[12,0]) DG DG rfl rfl (qf qc rfl De) rfl ?_;refine XR ?_;refine qi (i:=2) (K:=[12,0]) DG DG rfl rfl (qf qc rfl De) rfl ?_;refine qi (i:=3) (K:=[12,0]) DG DG rfl rfl (qf qc rfl De) rfl ?_;refine qi (i:=4) (K:=[12,0]) DG DG rfl rfl (qf qc rfl De) rfl ?_;refine Vo ?_;refine qd rfl rfl rfl (qt rfl rfl rfl rfl ((duties_h obls DP M hM)) rfl rfl rfl ?_);refine G9 ?_;refine XI ?_;refine qi (i:=7) (K:=[12,0]) DG DG rfl rfl (qf qc rfl De) rfl ?_;refine Un ?_;refine Lz ?_;refine SW.wk (qj [3,6,12] [(3,3),(6,6),(12,12),(81,81)] rfl rfl) ?_;refine ?fk22_223;rotate_left;refine Kp ?_;rw[hfin,rs_app];exact⟨Or.inr rfl,_,_,[],_,qu (k:=81) rfl,rfl,rfl,.refl _,rfl,rfl⟩
theorem partsO_len (alg:Int) (m:Mk):∀l:List Rs,(qaC alg m l).length<=oblN l
 |[]=>Yk _
 |x::l=>by
  have ih:=partsO_len alg m l;have e:oblN (x::l)=x.obls.length+oblN l:=by unfold oblN qQ;rw[Y2,List.sum_cons]
  rw[qaC,e];split
  · split
    · omega
    · rw[Ya];omega
  · omega
theorem oblN_append (a b:List Rs):oblN (a++b)=oblN a+oblN b:=by unfold oblN qQ;rw[List.map_append,List.sum_append]
theorem oblN_map {α:Type} {f:α->Rs} {c:α->Nat} (h:∀x,(f x).obls.length<=c x):∀l:List α,oblN (l.map f)<=qQ c l
 |[]=>Yk _
 |x::l=>by
  have ih:=oblN_map h l;have h1:=h x;unfold oblN qQ at ih⊢;rw[Y2,Y2,List.sum_cons,Y2,List.sum_cons];omega
theorem effectS_len (r:Rul) (t c:Int):(effectS r t c).obls.length<=r.obls.length:=by
 unfold effectS
 repeat' split
 · exact Yl _
 · exact Yl _
 · exact qau _ _
theorem ruleR_len (g:List Giv) (r:Rul):(ruleR g r).obls.length<=rusz r:=by
 have h1:=effectS_len r (metT r.target g) (condS r.cond g);have h2:r.obls.length<=osz r.obls:=by unfold osz;omega
 have h3:rusz r=txt r.id+tsz r.target+r.cond.length+osz r.obls+qQ nsz r.cond:=rfl;unfold ruleR;omega
theorem parts_len (g:List Giv) (n:Nat) (h:∀p,(qX g n p).obls.length<=p.sz) (p:Pol):oblN (p.rules.map (ruleR g)++p.kids.map (qX g n))+p.obls.length<=p.sz:=by
 have h1:=Pol.sz_eq p;have h2:=oblN_map (ruleR_len g) p.rules;have h3:=oblN_map h p.kids;have h4:p.obls.length<=osz p.obls:=by unfold osz;omega
 rw[oblN_append];omega
theorem qbw (g:List Giv):∀(n:Nat) (p:Pol),(qX g n p).obls.length<=p.sz
 |0,p=>Yl _
 |n+1,p=>by
  have h1:=parts_len g n (qbw g n) p;rw[qX];split
  · exact Yl _
  · unfold joinR
    repeat' split
    · exact Yl _
    · exact Yl _
    · exact Yl _
    · have h2:=partsO_len p.alg (allM p.alg ((p.rules.map (ruleR g)++p.kids.map (qX g n)).map Rs.m)) (p.rules.map (ruleR g)++p.kids.map (qX g n));have h3:=qau p.obls (allM p.alg ((p.rules.map (ruleR g)++p.kids.map (qX g n)).map Rs.m));simp only[Ya];omega
theorem tarSm_sz {t:Tar} {n:Nat} (h:tsz t<=n) (hn:n<=500000):TarSm t:=by
 refine⟨by unfold tsz at h;omega,fun x hx=>?_⟩;have h1:=xsz_le hx;refine⟨by unfold xsz at h1;omega,fun y hy=>?_⟩;have h4:asz y<=xsz x:=by have:=sumBy_le (f:=asz) hy;unfold xsz;omega
 unfold asz at h4;omega
theorem sz_big {p:Pol} {n:Nat} (h:p.sz<=n) (hn:n<=500000):TarSm p.target/\p.rules.length<=500000/\p.kids.length<=500000/\p.obls.length<=500000/\(∀r∈p.rules,TarSm r.target/\r.cond.length<=500000/\r.obls.length<=500000)/\∀k∈p.kids,k.sz<=n:=by
 have h1:=Pol.sz_eq p;have h2:=len_sumBy Pol.sz (fun p=>by rw[Pol.sz_eq];omega) p.kids;have h3:p.obls.length<=osz p.obls:=by unfold osz;omega
 refine⟨tarSm_sz (n:=n) DP hn,by omega,by omega,by omega,fun r hr=>?_,fun k hk=>?_⟩
 · have h4:=sumBy_le (f:=rusz) hr;have h5:r.obls.length<=osz r.obls:=by unfold osz;omega
   have h6:rusz r=txt r.id+tsz r.target+r.cond.length+osz r.obls+qQ nsz r.cond:=rfl;exact⟨tarSm_sz (n:=n) DP hn,by omega,by omega⟩
 · have:=sumBy_le (f:=Pol.sz) hk;omega
def DecOk (g:List Giv) (n:Nat):Prop:=∀(p:Pol),PolF n p->p.sz<=500000->Holds prog 52 [.agg (polP p),js g] (.p (.agg (rsP (qX g n p)))) []
theorem dec_step {g:List Giv} (hg:GivOk g) (n:Nat) (IH:DecOk g n):DecOk g (n+1):=by
 intro p hf hsz;obtain⟨ht,hr,hk,ho,hru,hks⟩:=sz_big hsz (Yk _);have hpl:=parts_len g n (qbw g n) p;have HK:=fun k (hk:k∈p.kids)=>IH k (hf.2.2 k hk) (hks k hk)
 have HM:=metT_h p.target g hf.1.tgt ht hg.fit hg.len hg.bags;have HR:=fun r (hr:r∈p.rules)=>ruleR_h r g (hf.1.rules r hr) (hru r hr).1 (by have:=(hru r hr).2.2;omega) hg.fit hg.len hg.bags
 have HJ:=join_h p (metT p.target g) (p.rules.map (ruleR g)++p.kids.map (qX g n)) DE (fun x hx=>by
  rcases YL.1 hx with hx|hx
  · obtain⟨r,_,rfl⟩:=Y1.1 hx;exact effectS_mem _ _ _
  · obtain⟨k,_,rfl⟩:=Y1.1 hx;exact qak g n k) DP DP
 have eD:qX g (n+1) p=if metT p.target g=0 then noRs else joinR p (metT p.target g) (p.rules.map (ruleR g)++p.kids.map (qX g n)):=rfl
 rw[eD];clear eD
 rw[qY]at HJ⊢;generalize metT p.target g=t at*;obtain⟨id,set,alg,tg,rules,kids,obls⟩:=p;simp only[Pol.id,Pol.set,Pol.alg,Pol.target,Pol.rules,Pol.kids,Pol.obls]at*;have l1:((rules.map zo).length)=rules.length:=by simp
 have l2:((kids.map polP).length)=kids.length:=by simp
 refine .ofW ?_;refine qz (T:=TTab) qc func52 DG rfl rfl rfl ?_;refine Kq ?_;refine uK HM ?_;refine KF ?_;refine uC (fun h0=>?_) (fun h0=>?_)
 · have e:t=0:=by simpa using h0
   rw[Yi e];refine Kp ?_;exact Ve
 have n0:¬t=0:=by simpa using h0
 rw[Yc n0];refine qh ?_;refine KH ?_;refine SW.wk (zw 6 900 57 2 rfl rfl) ?_;refine uZ [1,2,4,5,6,19,20,21] [(2,2),(4,4),(900,0)] ?_;refine qG (fun m s=>∃(k:Nat) (kk:Int),k<=rules.length/\m=rules.length-k/\kk=k/\s=⟨50,[(1,.p (js g)),(2,.ptr 2 0),(4,.ptr 4 0),(5,.p (pI t)),(6,.row 0),(19,.p (.sl 5 (rules.map zo))),(20,.p (pI (rules.map zo).length)),(21,.p (pI kk))],[(2,.cells [.p (pS id),.p (pB set),.p (pI alg),.p (tgtP tg),.p (.sl 5 (rules.map zo)),.p (.sl 7 (kids.map polP)),.p (zh obls)]),(4,.cells [.p (.v (.complex .f64 0 0)),.p nilV]),(0,.row 57 2 (((rules.take k).map (ruleR g)).map rsP))]⟩) rules.length ⟨0,0,Yl _,rfl,rfl,rfl⟩ ?_;rintro m s ⟨k,_,hk',rfl,rfl,rfl⟩;refine uA ?_;refine uC (fun hlt=>?_) (fun hlt=>?_)
 · refine qh ?_;rw[l1]at hlt;simp only[Yf]at hlt;have hlt':k<rules.length:=by omega
   have H:=HR _ (Yn hlt');obtain⟨x,hx⟩:∃x,x=rules[k]:=⟨_,rfl⟩;rw[<-hx]at H;refine Kx ?_;refine qm qc rfl rfl Dv rfl ?_;refine V1 ?_;refine Kt ?_;refine uO H ?_;refine XA ?_;refine Ku ?_;refine⟨_,_,?_,qj [1,2,4,5,6,19,20,21] [(2,2),(4,4),(30,0)] rfl rfl,k+1,_,hlt',rfl,qq hlt' DP,?_⟩
   · omega
   · rw[Ym hlt',<-hx,Yr,Yr];rfl
 · refine qC ?_;rw[l1]at hlt;simp only[Yh]at hlt;have hkk:k=rules.length:=by omega
   subst hkk;rw[Yu];refine KJ ?_;refine uZ [1,2,4,5,6,33,34,35] [(2,2),(4,4),(0,0)] ?_;refine qG (fun m s=>∃(k:Nat) (kk:Int) (L:List Rs),k<=kids.length/\m=kids.length-k/\kk=k/\L=rules.map (ruleR g)++(kids.take k).map (qX g n)/\s=⟨50,[(1,.p (js g)),(2,.ptr 2 0),(4,.ptr 4 0),(5,.p (pI t)),(6,.row 0),(33,.p (.sl 7 (kids.map polP))),(34,.p (pI (kids.map polP).length)),(35,.p (pI kk))],[(2,.cells [.p (pS id),.p (pB set),.p (pI alg),.p (tgtP tg),.p (.sl 5 (rules.map zo)),.p (.sl 7 (kids.map polP)),.p (zh obls)]),(4,.cells [.p (.v (.complex .f64 0 0)),.p nilV]),(0,.row 57 2 (L.map rsP))]⟩) kids.length ⟨0,0,rules.map (ruleR g),Yl _,rfl,rfl,by simp,rfl⟩ ?_;rintro m s ⟨k,_,L,hk',rfl,rfl,hL,rfl⟩;have hLl:L.length=rules.length+min k kids.length:=by rw[hL];simp
   refine uA ?_;refine uC (fun hlt=>?_) (fun hlt=>?_)
   · refine qh ?_;rw[l2]at hlt;simp only[Yf]at hlt;have hlt':k<kids.length:=by omega
     have H:=HK _ (Yn hlt');obtain⟨x,hx⟩:∃x,x=kids[k]:=⟨_,rfl⟩;rw[<-hx,qY]at H;refine Kx ?_;refine Rh ?_;rw[qw hlt',<-hx,qY];refine Kt ?_;refine uO H ?_;refine XA ?_;refine Ku ?_;refine⟨_,_,?_,qj [1,2,4,5,6,33,34,35] [(2,2),(4,4),(44,0)] rfl rfl,k+1,_,L++[qX g n x],hlt',rfl,qq hlt' DP,?_,?_⟩
     · omega
     · rw[hL,YU,Ym hlt',Yr,<-hx];rfl
     · rw[Yr];rfl
   · refine qC ?_;rw[l2]at hlt;simp only[Yh]at hlt;have hkk:k=kids.length:=by omega
     subst hkk;rw[Yu]at hL;rw[<-hL]at HJ⊢;refine Uj ?_;refine uR ?_;refine uO HJ ?_;refine KD ?_;exact XC
theorem dec_all {g:List Giv} (hg:GivOk g):∀n,DecOk g n
 |0=>fun _ h=>h.elim
 |n+1=>dec_step hg n (dec_all hg n)
theorem polF_dp:∀{n:Nat} {p:Pol},PolF n p->Dp n p
 |n+1,p,h=>fun k hk=>polF_dp (h.2.2 k hk)
theorem decideS_any (g:List Giv) {n m:Nat} {p:Pol} (hn:Dp n p) (hm:Dp m p):qX g n p=qX g m p:=by
 rcases Nat.le_total n m with h|h
 · exact(decideS_dp g hn h).symm
 · exact decideS_dp g hm h
theorem evPol_h {n:Nat} (p:Pol) (hf:PolF n p) (hsz:p.sz<=500000) (g:List Giv) (hg:GivOk g):Holds prog 21 [.agg (polP p),js g] (.tup [.p (.agg (rsP (jp p g).1)),.p (pI (jp p g).2)]) []:=by
 have HR:=right_h p (polF_fit 4 hf);have HD:=dec_all hg n p hf hsz;unfold jp;by_cases h:zW p=0
 · rw[Yi h];rw[decideS_any g (polF_dp hf) (right_dp h)]at HD;rw[h]at HR;generalize qX g 4 p=x at*;rw[qY]at HR HD⊢;refine .ofW ?_;refine qz (T:=TTab) qc func21 DG rfl rfl rfl ?_;refine Kq ?_;refine uK HR ?_;refine qe ?_;refine uC (fun hc=>?_) (fun hc=>?_)
   · cases hc
   refine Kv ?_;refine uO HD ?_;refine KD ?_;exact XC
 · rw[Yc h];rw[qY]at HR⊢;refine .ofW ?_;refine qz (T:=TTab) qc func21 DG rfl rfl rfl ?_;refine Kq ?_;refine uK HR ?_;rw[show(zW p !=0)=true by simpa using h];refine qe ?_;refine uC (fun hc=>?_) (fun hc=>?_)
   · refine Kp ?_;exact GM
   · cases hc
end
section
abbrev Bs:=List UInt8
def za (c:UInt8):Bool:=decide (48<=c.toNat)&&decide (c.toNat<=57)
def jE (c:UInt8):Bool:=decide (97<=c.toNat)&&decide (c.toNat<=122)
def ja (c:UInt8):Bool:=jE c||za c||decide (c.toNat=95)
def jH (c:UInt8):Bool:=decide (32<=c.toNat)&&decide (c.toNat<=126)&&decide (c.toNat≠34)&&decide (c.toNat≠92)
def hexB (c:UInt8):Option Nat:=if za c then some (c.toNat-48)else if 97<=c.toNat/\c.toNat<=102 then some (c.toNat-87)else none
def markB (c:UInt8):Bool:=[123,125,40,41,46,44,59,61,60,62,33].contains c.toNat
def decV (l:Bs):Nat:=l.foldl (fun n c=>10*n+(c.toNat-48)) 0
def magL (l:Bs):Option (Nat×Nat):=
 if(l.takeWhile za).length=0\/(1<(l.takeWhile za).length/\(l.head?.map (·.toNat))=some 48)then none else some (decV (l.takeWhile za),(l.takeWhile za).length)
def wX:Bs->Option (Bs×Nat)
 |[]=>none
 |c::r=>
  if c.toNat=34 then some ([],1)
  else if jH c then(wX r).map fun p=>(c::p.1,p.2+1)
  else if c.toNat=92 then(match r with
   |h::l::r'=>match hexB h,hexB l with
    |some a,some b=>if jH (UInt8.ofNat (16*a+b))then none else(wX r').map fun p=>(UInt8.ofNat (16*a+b)::p.1,p.2+3)
    |_,_=>none
   |_=>none)
  else none
def oddT (r:Bs):Option (Bs×Nat):=match r with
 |h::l::r'=>(match hexB h,hexB l with
  |some a,some b=>if jH (UInt8.ofNat (16*a+b))then none else(wX r').map fun p=>(UInt8.ofNat (16*a+b)::p.1,p.2+3)
  |_,_=>none)
 |_=>none
theorem qah (c:UInt8) (r:Bs):wX (c::r)=if c.toNat=34 then some ([],1)else if jH c then(wX r).map (fun p=>(c::p.1,p.2+1))else if c.toNat=92 then oddT r else none:=by
 cases r with
 |nil=>simp[wX,oddT]
 |cons x r=>cases r with
  |nil=>simp[wX,oddT]
  |cons y r=>simp only[wX,oddT]
structure TokP where
 kind:Int
 n:Int
 s:Bs
 len:Nat
 deriving DecidableEq
def wP (l:Bs):Bs:=l.takeWhile ja
def nameL (l:Bs):Bool:=(match l with|[]=>false|c::_=>jE c)&&l.all ja&&decide (l.length<=16)
def tokL:Bs->Option TokP
 |[]=>none
 |c::r=>
  if jE c then(if(wP (c::r)).length<=16 then some ⟨1,0,wP (c::r),(wP (c::r)).length⟩else none)
  else if za c then(match magL (c::r)with|some (m,k)=>if m<9223372036854775808 then some ⟨2,m,[],k⟩else none|none=>none)
  else if c.toNat=45 then(match magL r with|some (m,k)=>if m≠0/\m<=9223372036854775808 then some ⟨2, -m,[],k+1⟩else none|none=>none)
  else if c.toNat=64 then(match magL r with|some (m,k)=>if m<=1099511627776 then some ⟨3,m,[],k+1⟩else none|none=>none)
  else if c.toNat=35 then(if nameL (wP r)then some ⟨4,0,wP r,(wP r).length+1⟩else none)
  else if c.toNat=34 then(match wX r with|some (t,k)=>if t.length<=64 then some ⟨5,0,t,k+1⟩else none|none=>none)
  else if markB c then some ⟨6,0,[c],1⟩else none
structure Tok where
 kind:Int
 at_:Nat
 n:Int
 s:Bs
 deriving DecidableEq
def TokP.at_ (t:TokP) (k:Nat):Tok:=⟨t.kind,k,t.n,t.s⟩
def blankB (c:UInt8):Bool:=decide (c.toNat=32)||decide (c.toNat=10)
def lexF:Nat->Nat->Bs->Except Nat (List Tok)
 |0,k,_=>.error k
 |_+1,k,[]=>.ok [⟨7,k,0,[]⟩]
 |f+1,k,c::r=>if blankB c then lexF f (k+1) r else match tokL (c::r)with
  |none=>.error k
  |some t=>match lexF f (k+t.len) ((c::r).drop t.len)with
   | .ok l=>.ok (t.at_ k::l)
   | .error e=>.error e
def lexL (l:Bs):Except Nat (List Tok):=lexF (l.length+1) 0 l
theorem jm {α:Type} (p:α->Bool):∀l:List α,(l.takeWhile p).length<=l.length
 |[]=>Yk _
 |x::l=>by
  rw[List.takeWhile_cons];split
  · have:=jm p l;simp;omega
  · simp
theorem magL_len {l:Bs} {m k:Nat} (h:magL l=some (m,k)):1<=k/\k<=l.length:=by
 unfold magL at h;split at h
 · cases h
 · rename_i hc;cases h;have:=jm za l;refine⟨?_,this⟩;have:¬(l.takeWhile za).length=0:=fun h=>hc (.inl h)
   omega
theorem textL_len:∀{l:Bs} {t:Bs} {k:Nat},wX l=some (t,k)->1<=k/\k<=l.length
 |[],t,k,h=>by cases h
 |c::r,t,k,h=>by
  rw[qah]at h;split at h
  · cases h;simp
  · split at h
    · cases hr:wX r with
      |none=>rw[hr]at h;cases h
      |some p=>
       rw[hr]at h;cases h;have:=textL_len (t:=p.1) (k:=p.2) hr;simp;omega
    · split at h
      · match r,h with
        |x::y::r',h=>
         rw[oddT]at h;split at h
         · split at h
           · cases h
           · cases hr:wX r' with
             |none=>rw[hr]at h;cases h
             |some p=>
              rw[hr]at h;cases h;have:=textL_len (t:=p.1) (k:=p.2) hr;simp;omega
         · cases h
      · cases h
theorem qae:∀{l:Bs} {t:TokP},tokL l=some t->1<=t.len/\t.len<=l.length
 |c::r,t,h=>by
  rw[tokL]at h;split at h
  · rename_i hc;split at h
    · cases h;refine⟨?_,jm _ _⟩;have:ja c=true:=by simp[ja,hc]
      simp[wP,List.takeWhile_cons,this]
    · cases h
  · split at h
    · split at h
      · rename_i m k hm;split at h
        · cases h;exact magL_len hm
        · cases h
      · cases h
    · split at h
      · split at h
        · rename_i m k hm;split at h
          · cases h;have:=magL_len hm;simp;omega
          · cases h
        · cases h
      · split at h
        · split at h
          · rename_i m k hm;split at h
            · cases h;have:=magL_len hm;simp;omega
            · cases h
          · cases h
        · split at h
          · split at h
            · cases h;have:=jm ja r;simp[wP];omega
            · cases h
          · split at h
            · split at h
              · rename_i m k hm;split at h
                · cases h;have:=textL_len hm;simp;omega
                · cases h
              · cases h
            · split at h
              · cases h;simp
              · cases h
theorem lexF_fuel:∀{f g k:Nat} {l:Bs},l.length<f->l.length<g->lexF f k l=lexF g k l
 |f+1,g+1,k,[],_,_=>rfl
 |f+1,g+1,k,c::r,hf,hg=>by
  simp only[Yg]at hf hg;rw[lexF,lexF];split
  · exact lexF_fuel DP DP
  · cases ht:tokL (c::r)with
    |none=>rfl
    |some t=>
     have h1:=qae ht;simp only[Yg]at h1;simp only;rw[lexF_fuel (f:=f) (g:=g) DE DE]
def Tok.shift (d:Nat) (t:Tok):Tok:=⟨t.kind,t.at_+d,t.n,t.s⟩
theorem lexF_ok_ne:∀{f k:Nat} {l:Bs} {a:List Tok},lexF f k l=.ok a->a≠[]
 |f+1,k,[],a,h=>by cases h;simp
 |f+1,k,c::r,a,h=>by
  rw[lexF]at h;split at h
  · exact lexF_ok_ne h
  · split at h
    · cases h
    · split at h
      · cases h;simp
      · cases h
theorem lexL_end:∀{f k:Nat} {l:Bs} {a:List Tok},lexF f k l=.ok a->a.getLast?=some ⟨7,k+l.length,0,[]⟩
 |f+1,k,[],a,h=>by cases h;rfl
 |f+1,k,c::r,a,h=>by
  rw[lexF]at h;split at h
  · rw[lexL_end h];simp;omega
  · cases ht:tokL (c::r)with
    |none=>rw[ht]at h;cases h
    |some t=>
     rw[ht]at h;have h1:=qae ht;simp only[Yg]at h h1⊢;cases hr:lexF f (k+t.len) ((c::r).drop t.len)with
     |error e=>rw[hr]at h;cases h
     |ok a'=>
      rw[hr]at h;simp only at h;cases h;have:=lexL_end hr;have hne:=lexF_ok_ne hr;rw[List.getLast?_cons,List.getLast?_eq_some_getLast hne]at*;simp only[Ye]at this;simp[this];omega
end
section
structure Prs where
 at_:Nat
 rules:Int
 bad:Int
 place:Int
def bs (s:Bs):DT:=⟨⟨s⟩⟩
def Prs.next (s:Prs):Prs:={s with at_:=s.at_+1}
section
variable (l:List Tok)
def ze (s:Prs):Tok:=l.getD s.at_ ⟨7,0,0,[]⟩
def jq (s:Prs) (e place:Int):Prs:=if s.bad=0 then{s with bad:=e,place:=place}else s
def synQ (s:Prs):Prs:=jq s 5 (ze l s).at_
def limQ (s:Prs) (more:Bool):Prs:=if more then jq s 6 (ze l s).at_ else s
def isQ (s:Prs) (w:Bs):Bool:=decide (s.bad=0)&&decide ((ze l s).s=w)&&(decide ((ze l s).kind=1)||decide ((ze l s).kind=6))
def qab (s:Prs) (w:Bs):Bool×Prs:=if isQ l s w then(true,s.next)else(false,s)
def zT (s:Prs) (w:Bs):Prs:=if isQ l s w then s.next else synQ l s
def zH (s:Prs):Bs×Prs:=
 let s1:=if(ze l s).kind=1 then s else synQ l s
 if s1.bad≠0 then([],s1)else((ze l s).s,s1.next)
def qO (s:Prs) (ws:List Bs):Int×Prs:=
 if(ze l s).kind=1/\(ze l s).s∈ws/\isQ l s (ze l s).s=true then((ws.findIdx fun w=>decide (w=(ze l s).s):Nat)+1,s.next)else(0,synQ l s)
def wCats:List Bs:=[[115,117,98,106,101,99,116],[97,99,116,105,111,110],[99,97,115,101],[101,110,118]]
def qaY (s:Prs):Atr×Prs:=
 let a:=qO l s wCats
 let n:=zH l (zT l a.2 [46])
 let m:=qab l n.2 [33]
 (⟨a.1,bs n.1,m.1⟩,m.2)
def noV:Val:=⟨0,0,⟨#[]⟩⟩
def wTrue:Bs:=[116,114,117,101]
def wFalse:Bs:=[102,97,108,115,101]
def valK (s:Prs):Option Val:=
 let t:=ze l s
 if t.kind=2 then some ⟨2,t.n,bs t.s⟩else if t.kind=3 then some ⟨4,t.n,bs t.s⟩else if t.kind=4 then some ⟨5,t.n,bs t.s⟩else if t.kind=5 then some ⟨3,t.n,bs t.s⟩
 else if isQ l s wTrue then some ⟨1,1,⟨#[]⟩⟩else if isQ l s wFalse then some ⟨1,0,⟨#[]⟩⟩else none
def valQ (s:Prs):Val×Prs:=match valK l s with
 |some v=>if s.bad≠0 then(noV,s)else(v,s.next)
 |none=>(noV,synQ l s)
def mopQ (s:Prs):Int×Prs:=if isQ l s [61]then(1,s.next)else if isQ l s [60]then(2,s.next)else if isQ l s [62]then(3,s.next)else(0,synQ l s)
def matQ (s:Prs):Mat×Prs:=
 let a:=qaY l s
 let o:=mopQ l a.2
 let v:=valQ l o.2
 (⟨a.1,o.1,v.1⟩,v.2)
def sepQ {β:Type} (w:Bs) (g:Prs->β×Prs):Nat->List β->Prs->List β×Prs
 |0,acc,s=>(acc,s)
 |n+1,acc,s=>if isQ l s w then sepQ w g n (acc++[(g s.next).1]) (limQ l (g s.next).2 (decide (8<acc.length+1)))else(acc,s)
def allQ (s:Prs):List Mat×Prs:=sepQ l [44] (matQ l) (l.length+1) [(matQ l s).1] (matQ l s).2
def wOr:Bs:=[111,114]
def wAnd:Bs:=[97,110,100]
def wWhen:Bs:=[119,104,101,110]
def anyQ (s:Prs):List (List Mat)×Prs:=
 let s1:=zT l s [40]
 let r:=sepQ l wOr (allQ l) (l.length+1) [(allQ l s1).1] (allQ l s1).2
 (r.1,zT l r.2 [41])
def tarQ (s:Prs):Tar×Prs:=if isQ l s wWhen then sepQ l wAnd (anyQ l) (l.length+1) [(anyQ l s.next).1] (anyQ l s.next).2 else([],s)
def je (op:Int):List Bool:=if op=3\/op=4 then [true]else if op=5 then [true,false]else if op=11 then [false]else [false,false]
def qaH:List Bs:=[[111,110,101],[115,105,122,101],[104,97,115],[101,113],[108,101,115,115],[97,100,100],[115,117,98],[109,117,108],[110,111,116],[97,110,100],[111,114]]
def opdQ (ex:List Nod->Prs->(List Nod×Bool)×Prs) (acc:List Nod) (s:Prs) (must:Bool):List Nod×Prs:=
 ((ex acc s).1.1,if(ex acc s).1.2=must then(ex acc s).2 else jq (ex acc s).2 5 (ze l s).at_)
def wS (ex:List Nod->Prs->(List Nod×Bool)×Prs):List Bool->List Nod->Prs->List Nod×Prs
 |[],acc,s=>(acc,s)
 |m::ms,acc,s=>if s.bad≠0 then(acc,s)else wS ex ms (opdQ l ex acc s m).1 (opdQ l ex acc s m).2
def funQ (ex:List Nod->Prs->(List Nod×Bool)×Prs) (acc:List Nod) (s:Prs):(List Nod×Nod)×Prs:=
 let a:=qO l s qaH
 let q:=wS l ex (je (2+a.1)) acc a.2
 ((q.1,⟨2+a.1,noV,noAtr⟩),zT l q.2 [41])
def nodQ (ex:List Nod->Prs->(List Nod×Bool)×Prs) (acc:List Nod) (s:Prs):(List Nod×Nod)×Prs:=
 if isQ l s [40]then funQ l ex acc s.next
 else if(ze l s).kind=1/\(ze l s).s≠wTrue/\(ze l s).s≠wFalse then((acc,⟨2,noV,(qaY l s).1⟩),(qaY l s).2)
 else((acc,⟨1,(valQ l s).1,noAtr⟩),(valQ l s).2)
def zr:Nat->List Nod->Prs->(List Nod×Bool)×Prs
 |0,acc,s=>((acc,false),s)
 |n+1,acc,s=>
  let r:=nodQ l (zr n) acc s
  ((r.1.1++[r.1.2],decide (r.1.2.op=2)),limQ l r.2 (decide (32<r.1.1.length+1)))
def wOn:Bs:=[111,110]
def wSides:List Bs:=[[112,101,114,109,105,116],[100,101,110,121]]
def wKinds:List Bs:=[[108,111,103],[114,101,100,97,99,116],[114,101,118,105,101,119],[110,111,116,105,102,121]]
def oblQ (s:Prs):Obli×Prs:=
 let o:=qO l s wSides
 let k:=qO l o.2 wKinds
 let n:=zH l k.2
 (⟨o.1,k.1,bs n.1⟩,n.2)
def dutQ (s:Prs):List Obli×Prs:=sepQ l wOn (oblQ l) (l.length+1) [] s
def wIf:Bs:=[105,102]
def rulQ (deny:Bool) (s:Prs):Rul×Prs:=
 let n:=zH l s
 let t:=tarQ l n.2
 let c:=if isQ l t.2 wIf then opdQ l (zr l (l.length+1)) [] t.2.next false else([],t.2)
 let o:=dutQ l c.2
 (⟨bs n.1,deny,t.1,c.1,o.1⟩,zT l o.2 [59])
def wPermit:Bs:=[112,101,114,109,105,116]
def qbo:Bs:=[100,101,110,121]
def jY:Nat->List Rul->Prs->List Rul×Prs
 |0,acc,s=>(acc,s)
 |n+1,acc,s=>
  if isQ l s wPermit||isQ l s qbo then
   let s1:=limQ l s (decide (acc.length=16)||decide (s.rules=64))
   if s1.bad≠0 then(acc,s1)
   else
    let r:=rulQ l (isQ l s1 qbo) {s1 with rules:=Go.IntKind.i64.wrap (s1.rules+1),at_:=s1.at_+1}
    jY n (acc++[r.1]) r.2
  else(acc,s)
def zx:Bs:=[112,111,108,105,99,121]
def wSet:Bs:=[115,101,116]
def wAlgs:List Bs:=[[100,101,110,121,111,118,101,114],[112,101,114,109,105,116,111,118,101,114],[102,105,114,115,116],[111,110,108,121],[100,101,110,121,117,110,108,101,115,115],[112,101,114,109,105,116,117,110,108,101,115,115]]
def ju (pk:Prs->Pol×Prs) (depth:Int):Nat->List Pol->Prs->List Pol×Prs
 |0,acc,s=>(acc,s)
 |n+1,acc,s=>
  if isQ l s zx||isQ l s wSet then
   let s1:=limQ l s (decide (acc.length=16)||decide (depth>4))
   if s1.bad≠0 then(acc,s1)else ju pk depth n (acc++[(pk s1).1]) (pk s1).2
  else(acc,s)
def polQ:Nat->Prs->Pol×Prs
 |0,s=>(.mk ⟨#[]⟩ false 0 [] [] [] [],s)
 |n+1,s=>
  let k:=qO l s [zx,wSet]
  let i:=zH l k.2
  let g:=qO l i.2 wAlgs
  let t:=tarQ l g.2
  let s1:=zT l t.2 [123]
  let ks:=if k.1=2 then ju l (polQ n) (6-n) (l.length+1) [] s1 else([],s1)
  let rs:=if k.1=2 then([],ks.2)else jY l (l.length+1) [] s1
  let o:=dutQ l (zT l rs.2 [125])
  (.mk (bs i.1) (decide (k.1=2)) g.1 t.1 rs.1 ks.1 o.1,o.2)
end
def noPol:Pol:=.mk ⟨#[]⟩ false 0 [] [] [] []
def zk (b:Bs):Pol×Int×Int:=
 if 4096<b.length then(noPol,6,4096)else
 match lexL b with
 | .error e=>(noPol,5,e)
 | .ok l=>
   let r:=polQ l 5 ⟨0,0,0,0⟩
   let s1:=if(ze l r.2).kind=7 then r.2 else synQ l r.2
   let s2:=if s1.bad=0/\zW r.1≠0 then jq s1 5 b.length else s1
   if s2.bad≠0 then(noPol,s2.bad,s2.place)else(r.1,0,0)
end
section
structure Opn where
 kind:Int
 subj:DT
 case_:DT
 field:DT
 to_:DT
 val:Val
 rev:Int
 text:DT
 reason:DT
 glass:Bool
structure Hap where
 tick:Int
 actor:DT
 what:DT
structure Fld where
 name:DT
 val:Val
structure Cas where
 id:DT
 owner:DT
 state:DT
 fields:List Fld
 log:List Hap
structure Rev where
 id:Int
 tick:Int
 subj:DT
 case_:DT
 act:DT
 reason:DT
 open_:Bool
structure Ntc where
 tick:Int
 case_:DT
 arg:DT
structure Rol where
 subj:DT
 role:DT
structure Sto where
 tick:Int
 cases:List Cas
 revs:List Rev
 ntcs:List Ntc
 roles:List Rol
 pol:Pol
 ver:Int
structure Rpl where
 err:Int
 mark:Mk
 glass:Bool
 val:Val
 hidden:Bool
 at_:Int
structure Dcd where
 op:Opn
 ver:Int
 mark:Mk
 glass:Bool
 obls:List Obli
def e0:DT:=⟨#[]⟩
def emB (s:DT):Bool:=decide (s=e0)
def emV (v:Val):Bool:=decide (v.kind=0)&&(decide (v.n=0)&&emB v.s)
def noOp:Opn:=⟨0,e0,e0,e0,e0,⟨0,0,e0⟩,0,e0,e0,false⟩
def noDcd:Dcd:=⟨noOp,0,(0,0),false,[]⟩
def wOpen:DT:=⟨#[111,112,101,110]⟩
def wWork:DT:=⟨#[119,111,114,107]⟩
def wDone:DT:=⟨#[100,111,110,101]⟩
def wClosed:DT:=⟨#[99,108,111,115,101,100]⟩
def wNew:DT:=⟨#[110,101,119]⟩
def wRead:DT:=⟨#[114,101,97,100]⟩
def wWrite:DT:=⟨#[119,114,105,116,101]⟩
def wMove:DT:=⟨#[109,111,118,101]⟩
def wClose:DT:=⟨#[99,108,111,115,101]⟩
def wRole:DT:=⟨#[114,111,108,101]⟩
def wPol:DT:=⟨#[112,111,108,105,99,121]⟩
def wTick:DT:=⟨#[116,105,99,107]⟩
def jw:DT:=⟨#[103,108,97,115,115]⟩
def jG (l:List Cas) (id:DT):Nat:=l.findIdx fun c=>!jx c.id id
def findB (l:List Cas) (id:DT):Bool:=match l[jG l id]? with
 |some c=>decide (c.id=id)
 |none=>false
def wa (l:List Cas) (id:DT):Option Cas:=match l[jG l id]? with
 |some c=>if c.id=id then some c else none
 |none=>none
def noCas:Cas:=⟨e0,e0,e0,[],[]⟩
def hasC (l:List Rol) (subj role:DT):Bool:=l.any fun r=>decide (r.subj=subj)&&decide (r.role=role)
def qao (c:Cas) (name:DT):Val:=match c.fields[c.fields.findIdx fun f=>decide (f.name=name)]? with
 |some f=>f.val
 |none=>noV
def follC (a b:DT):Bool:=
 if a=wOpen then decide (b=wWork)else if a=wWork then decide (b=wDone)else if a=wDone then decide (b=wWork)||decide (b=wClosed)else false
def actC (k:Int):DT:=
 if k=1 then wNew else if k=2 then wRead else if k=3 then wWrite else if k=4 then wMove else if k=5 then wClose else if k=6 then wRole else if k=7 then wPol else wTick
def onC (k:Int):Bool:=decide (1<=k)&&decide (k<=4)
def emptC (s:DT):Bool:=emB s||qad s
def reaC (o:Opn):Bool:=if o.glass then onC o.kind&&(!emB o.reason&&decide (o.reason.size<=64))else emB o.reason
def takC (o:Opn):Bool:=
 if o.kind=1 then !emB o.case_&&(emB o.field&&(emB o.to_&&(emV o.val&&(decide (o.rev=0)&&emB o.text))))
 else if o.kind=2\/o.kind=6 then(!emB o.case_&&!emB o.field)&&(emB o.to_&&(emV o.val&&(decide (o.rev=0)&&emB o.text)))
 else if o.kind=3 then(!emB o.case_&&(!emB o.field&&!emV o.val))&&(emB o.to_&&(decide (o.rev=0)&&emB o.text))
 else if o.kind=4 then(!emB o.case_&&!emB o.to_)&&(emB o.field&&(emV o.val&&(decide (o.rev=0)&&emB o.text)))
 else if o.kind=5 then decide (0<o.rev)&&(emB o.case_&&(emB o.field&&(emB o.to_&&(emV o.val&&emB o.text))))
 else if o.kind=7 then emB o.case_&&(emB o.field&&(emB o.to_&&(emV o.val&&decide (o.rev=0))))
 else if o.kind=8 then(decide (0<o.rev)&&decide (o.rev<=1099511627776))&&(emB o.case_&&(emB o.field&&(emB o.to_&&(emV o.val&&emB o.text))))
 else false
def wm (o:Opn):Bool:=qad o.subj&&(reaC o&&(decide (o.text.size<=4096)&&(emptC o.case_&&(emptC o.field&&(emptC o.to_&&((emV o.val||o.val.right)&&takC o))))))
def qbr (s:Sto) (o:Opn):Int:=match wa s.cases o.case_ with
 |none=>10
 |some c=>
  if o.kind=3/\16<=c.fields.length/\emV (qao c o.field)=true then 6
  else if o.kind≠2/\256<=c.log.length then 6
  else if(o.kind=3/\c.state=wClosed)\/(o.kind=4/\follC c.state o.to_=false)then 13
  else 0
def qac (s:Sto) (o:Opn):Int:=match s.revs[(o.rev-1).toNat]? with
 |none=>10
 |some r=>if r.open_=false then 10 else if r.subj=o.subj then 12 else 0
def rdyC (s:Sto) (o:Opn):Int:=
 if wm o=false then 1
 else if o.kind=1 then(if findB s.cases o.case_ then 11 else if 64<=s.cases.length then 6 else 0)
 else if o.kind=2\/o.kind=3\/o.kind=4 then qbr s o
 else if o.kind=5 then qac s o
 else if o.kind=6 then(if 64<=s.roles.length/\hasC s.roles o.case_ o.field=false then 6 else 0)
 else if o.kind=8 then(if Go.IntKind.i64.wrap (1099511627776-o.rev)<s.tick then 6 else 0)
 else 0
def idV (s:DT):Val:=⟨5,0,s⟩
def gv (cat:Int) (name:List UInt8) (bag:List Val):Giv:=⟨cat,⟨⟨name⟩⟩,bag⟩
def tookC (c:Cas) (subj:DT):Val:=⟨1,if c.log.any (fun h=>decide (h.actor=subj))then 1 else 0,e0⟩
def fldG (f:Fld):List Giv:=if f.name.size<=14 then [⟨3,⟨#[102,95]⟩++f.name,[f.val]⟩]else []
def lastG (c:Cas):List Giv:=match c.log.getLast? with
 |some h=>[gv 3 [108,97,115,116] [idV h.actor]]
 |none=>[]
def wb (c:Cas) (subj:DT):List Giv:=
 [gv 3 [105,100] [idV c.id],gv 3 [111,119,110,101,114] [idV c.owner],gv 3 [115,116,97,116,101] [idV c.state],gv 3 [101,118,101,110,116,115] [⟨2,c.log.length,e0⟩],gv 3 [116,111,111,107] [tookC c subj]]
  ++lastG c++c.fields.flatMap fldG
def rolesV (l:List Rol) (subj:DT):List Val:=((l.filter fun r=>decide (r.subj=subj)).take 16).map fun r=>idV r.role
def askC (s:Sto) (o:Opn):List Giv:=
 [gv 1 [105,100] [idV o.subj],gv 1 [114,111,108,101] (rolesV s.roles o.subj),gv 2 [110,97,109,101] [idV (actC o.kind)]]
  ++(if emB o.field then []else [gv 2 [102,105,101,108,100] [idV o.field]])
  ++(if emB o.to_ then []else [gv 2 [116,111] [idV o.to_]])
  ++[gv 4 [110,111,119] [⟨4,s.tick,e0⟩]]
  ++(match wa s.cases o.case_ with
   |some c=>if o.kind=6 then []else wb c o.subj
   |none=>[])
def wrtC (l:List Fld) (name:DT) (v:Val):List Fld:=
 match l[l.findIdx fun f=>!jx f.name name]? with
 |none=>l++[⟨name,v⟩]
 |some f=>if f.name=name then l.set (l.findIdx fun f=>!jx f.name name) ⟨f.name,v⟩else l.take (l.findIdx fun f=>!jx f.name name)++⟨name,v⟩::l.drop (l.findIdx fun f=>!jx f.name name)
def hapC (s:Sto) (c:Cas) (actor what:DT):Cas:={c with log:=c.log++[⟨s.tick,actor,what⟩]}
def onCase (s:Sto) (id:DT) (f:Cas->Cas):Sto:=match s.cases[jG s.cases id]? with
 |some c=>{s with cases:=s.cases.set (jG s.cases id) (f c)}
 |none=>s
def zl (s:Sto) (o:Opn):Sto:=
 if o.kind=1 then{s with cases:=s.cases.take (jG s.cases o.case_)++⟨o.case_,o.subj,wOpen,[],[⟨s.tick,o.subj,wNew⟩]⟩::s.cases.drop (jG s.cases o.case_)}
 else if o.kind=3 then onCase s o.case_ fun c=>hapC s {c with fields:=wrtC c.fields o.field o.val} o.subj wWrite
 else if o.kind=4 then onCase s o.case_ fun c=>hapC s {c with state:=o.to_} o.subj o.to_
 else if o.kind=5 then match s.revs[(o.rev-1).toNat]? with
  |some r=>{s with revs:=s.revs.set (o.rev-1).toNat {r with open_:=false}}
  |none=>s
 else if o.kind=6 then(if hasC s.roles o.case_ o.field then s else{s with roles:=s.roles++[⟨o.case_,o.field⟩]})
 else if o.kind=7 then(if(zk o.text.data.toList).2.1=0 then{s with pol:=(zk o.text.data.toList).1,ver:=Go.IntKind.i64.wrap (s.ver+1)}else s)
 else if o.kind=8 then{s with tick:=Go.IntKind.i64.wrap (s.tick+o.rev)}
 else s
def lateR (s:Sto) (r:Rev):Bool:=r.open_&&decide (100<=Go.IntKind.i64.wrap (s.tick-r.tick))
def lateC (s:Sto) (subj:DT):Bool:=s.revs.any fun r=>decide (r.subj=subj)&&lateR s r
def brkC (s:Sto) (o:Opn) (m:Mk):Bool:=o.glass&&((decide (m=(0,2))||decide (m=(0,0)))&&(hasC s.roles o.subj jw&&!lateC s o.subj))
def opnR (s:Sto) (o:Opn) (reason:DT):Sto:={s with revs:=s.revs++[⟨s.revs.length+1,s.tick,o.subj,o.case_,actC o.kind,reason,true⟩]}
def hidC (l:List Obli) (field:DT):Bool:=l.any fun x=>decide (x.kind=2)&&decide (x.arg=field)
def qR (l:List Cas) (id:DT):Nat:=l.findIdx fun c=>decide (c.id=id)
def logR (s:Sto) (o:Opn) (what:DT):Sto:=if o.kind=6 then s else match s.cases[qR s.cases o.case_]? with
 |some c=>{s with cases:=s.cases.set (qR s.cases o.case_) (hapC s c o.subj what)}
 |none=>s
def dutyR (o:Opn) (done:Bool) (s:Sto) (x:Obli):Sto:=
 if x.kind=1/\done=true then logR s o x.arg
 else if x.kind=3 then opnR s o x.arg
 else if x.kind=4 then{s with ntcs:=s.ntcs++[⟨s.tick,o.case_,x.arg⟩]}
 else s
def dutR (s:Sto) (o:Opn) (l:List Obli) (done:Bool):Sto:=l.foldl (dutyR o done) s
def overC (s:Sto):Bool:=decide (256<s.revs.length)||(decide (256<s.ntcs.length)||s.cases.any fun c=>decide (256<c.log.length))
def badR (e at_:Int):Rpl:=⟨e,(0,0),false,noV,false,at_⟩
def actR (s:Sto) (o:Opn) (r:Rs):Sto×Rpl×Dcd:=
 let g:=brkC s o r.m
 let s1:=if g then opnR s o o.reason else s
 let d:=decide (r.m=(2,0))||g
 let hid:=decide (o.kind=2)&&hidC r.obls o.field
 let v:=if d&&decide (o.kind=2)&&!hid then qao ((wa s.cases o.case_).getD noCas) o.field else noV
 (dutR (if d then zl s1 o else s1) o r.obls d,⟨if d then 0 else 12,r.m,g,v,d&&hid,0⟩,⟨o,s.ver,r.m,g,r.obls⟩)
def preC (s:Sto) (o:Opn):Int×Int:=
 if rdyC s o≠0 then(rdyC s o,0)else if o.kind=7 then((zk o.text.data.toList).2.1,(zk o.text.data.toList).2.2)else(0,0)
def gdC (s:Sto) (o:Opn):Sto×Rpl×Dcd×Int:=
 if(preC s o).1≠0 then(s,badR (preC s o).1 (preC s o).2,noDcd,(preC s o).1)
 else if(jp s.pol (askC s o)).2≠0 then(s,badR (jp s.pol (askC s o)).2 0,noDcd,(jp s.pol (askC s o)).2)
 else if overC (actR s o (jp s.pol (askC s o)).1).1 then(s,badR 6 0,noDcd,6)
 else((actR s o (jp s.pol (askC s o)).1).1,(actR s o (jp s.pol (askC s o)).1).2.1,(actR s o (jp s.pol (askC s o)).1).2.2,0)
end
section
open Go.RowKit
def Opn.pv (o:Opn):List PV:=[pI o.kind,pS o.subj,pS o.case_,pS o.field,pS o.to_,pI o.val.kind,pI o.val.n,pS o.val.s,pI o.rev,pS o.text,pS o.reason,pB o.glass]
def Hap.pv (x:Hap):List PV:=[pI x.tick,pS x.actor,pS x.what]
def Fld.pv (x:Fld):List PV:=[pS x.name,pI x.val.kind,pI x.val.n,pS x.val.s]
def hapsP (l:List Hap):PV:=.sl 3 (l.map Hap.pv)
def fldsP (l:List Fld):PV:=.sl 4 (l.map Fld.pv)
def Cas.pv (c:Cas):List PV:=[pS c.id,pS c.owner,pS c.state,fldsP c.fields,hapsP c.log]
def Rev.pv (x:Rev):List PV:=[pI x.id,pI x.tick,pS x.subj,pS x.case_,pS x.act,pS x.reason,pB x.open_]
def Ntc.pv (x:Ntc):List PV:=[pI x.tick,pS x.case_,pS x.arg]
def Rol.pv (x:Rol):List PV:=[pS x.subj,pS x.role]
def wc (l:List Cas):PV:=.sl 5 (l.map Cas.pv)
def jX (l:List Rev):PV:=.sl 7 (l.map Rev.pv)
def qan (l:List Ntc):PV:=.sl 3 (l.map Ntc.pv)
def zi (l:List Rol):PV:=.sl 2 (l.map Rol.pv)
def stoP (t:Int) (c r n ro:PV) (p:Pol) (v:Int):List PV:=[pI t,c,r,n,ro,pS p.id,pB p.set,pI p.alg,tgtP p.target,.sl 5 (p.rules.map zo),.sl 7 (p.kids.map polP),zh p.obls,pI v]
def Sto.pv (s:Sto):List PV:=stoP s.tick (wc s.cases) (jX s.revs) (qan s.ntcs) (zi s.roles) s.pol s.ver
def Rpl.pv (r:Rpl):List PV:=[pI r.err,mkP r.mark,pB r.glass,pI r.val.kind,pI r.val.n,pS r.val.s,pB r.hidden,pI r.at_]
def Dcd.pv (d:Dcd):List PV:=d.op.pv++[pI d.ver,mkP d.mark,pB d.glass,zh d.obls]
structure Opn.Ok (o:Opn):Prop where
 subj:o.subj.size<=1000000
 case_:o.case_.size<=1000000
 field:o.field.size<=1000000
 to_:o.to_.size<=1000000
 val:o.val.s.size<=1000000/\R64 o.val.n/\R64 o.val.kind
 text:o.text.size<=1000000
 reason:o.reason.size<=1000000
 rev:R64 o.rev
 kind:R64 o.kind
theorem sameMat_h (l:List Mat) (hn:l.length<=1000000):Holds prog 118 [wF l,wF l] (.p (pB true)) []:=by
 refine qo (ts:=[4]) func118 DG rfl rfl rfl ?_;refine Kr ?_;refine uC (fun h0=>?_) (fun h0=>?_)
 · exfalso;simp at h0
 refine LO ?_;refine R9 ?_;refine qG (fun m s=>∃(k:Nat) (kk:Int),k<=l.length/\m=l.length-k/\kk=k/\s=⟨26,[(0,.p (wF l)),(1,.p (wF l)),(4,.p (pB false)),(5,.p (pI kk))],[]⟩) l.length ⟨0,0,Yl _,rfl,rfl,rfl⟩ ?_;rintro m s ⟨k,_,hk,rfl,rfl,rfl⟩;refine uA ?_;refine uC (fun hlt=>?_) (fun hlt=>?_)
 · refine qh ?_;simp only[Yb,Yf]at hlt;have hlt':k<l.length:=by omega
   obtain⟨x,hx⟩:∃x,x=l[k]:=⟨_,rfl⟩;refine uB ?_;refine Uy ?_;refine K5 ?_;refine K5 ?_;refine LF ?_;refine uC (fun hp=>?_) (fun hp=>?_)
   · exfalso;simp at hp
   refine Kw ?_;refine Vn ?_;omega
 · exact LJ
theorem sameObl_h (l:List Obli) (hn:l.length<=1000000):Holds prog 67 [zh l,zh l] (.p (pB true)) []:=by
 refine qo (ts:=[4]) func67 DG rfl rfl rfl ?_;refine Kr ?_;refine uC (fun h0=>?_) (fun h0=>?_)
 · exfalso;simp at h0
 refine LO ?_;refine R9 ?_;refine qG (fun m s=>∃(k:Nat) (kk:Int),k<=l.length/\m=l.length-k/\kk=k/\s=⟨26,[(0,.p (zh l)),(1,.p (zh l)),(4,.p (pB false)),(5,.p (pI kk))],[]⟩) l.length ⟨0,0,Yl _,rfl,rfl,rfl⟩ ?_;rintro m s ⟨k,_,hk,rfl,rfl,rfl⟩;refine uA ?_;refine uC (fun hlt=>?_) (fun hlt=>?_)
 · refine qh ?_;simp only[Yb,Yf]at hlt;have hlt':k<l.length:=by omega
   obtain⟨x,hx⟩:∃x,x=l[k]:=⟨_,rfl⟩;refine uB ?_;refine Uy ?_;refine K5 ?_;refine K5 ?_;refine LF ?_;refine uC (fun hp=>?_) (fun hp=>?_)
   · exfalso;simp at hp
   refine Kw ?_;refine Vn ?_;omega
 · exact LJ
theorem sameNod_h (l:List Nod) (hn:l.length<=1000000):Holds prog 68 [nodsP l,nodsP l] (.p (pB true)) []:=by
 refine qo (ts:=[4]) func68 DG rfl rfl rfl ?_;refine Kr ?_;refine uC (fun h0=>?_) (fun h0=>?_)
 · exfalso;simp at h0
 refine LO ?_;refine R9 ?_;refine qG (fun m s=>∃(k:Nat) (kk:Int),k<=l.length/\m=l.length-k/\kk=k/\s=⟨26,[(0,.p (nodsP l)),(1,.p (nodsP l)),(4,.p (pB false)),(5,.p (pI kk))],[]⟩) l.length ⟨0,0,Yl _,rfl,rfl,rfl⟩ ?_;rintro m s ⟨k,_,hk,rfl,rfl,rfl⟩;refine uA ?_;refine uC (fun hlt=>?_) (fun hlt=>?_)
 · refine qh ?_;simp only[Yb,Yf]at hlt;have hlt':k<l.length:=by omega
   obtain⟨x,hx⟩:∃x,x=l[k]:=⟨_,rfl⟩;refine uB ?_;refine Uy ?_;refine K5 ?_;refine K5 ?_;refine LF ?_;refine uC (fun hp=>?_) (fun hp=>?_)
   · exfalso;simp at hp
   refine Kw ?_;refine Vn ?_;omega
 · exact LJ
theorem sameRev_h (l:List Rev) (hn:l.length<=1000000):Holds prog 49 [jX l,jX l] (.p (pB true)) []:=by
 refine qo (ts:=[4]) func49 DG rfl rfl rfl ?_;refine Kr ?_;refine uC (fun h0=>?_) (fun h0=>?_)
 · exfalso;simp at h0
 refine LO ?_;refine R9 ?_;refine qG (fun m s=>∃(k:Nat) (kk:Int),k<=l.length/\m=l.length-k/\kk=k/\s=⟨26,[(0,.p (jX l)),(1,.p (jX l)),(4,.p (pB false)),(5,.p (pI kk))],[]⟩) l.length ⟨0,0,Yl _,rfl,rfl,rfl⟩ ?_;rintro m s ⟨k,_,hk,rfl,rfl,rfl⟩;refine uA ?_;refine uC (fun hlt=>?_) (fun hlt=>?_)
 · refine qh ?_;simp only[Yb,Yf]at hlt;have hlt':k<l.length:=by omega
   obtain⟨x,hx⟩:∃x,x=l[k]:=⟨_,rfl⟩;refine uB ?_;refine Uy ?_;refine K5 ?_;refine K5 ?_;refine LF ?_;refine uC (fun hp=>?_) (fun hp=>?_)
   · exfalso;simp at hp
   refine Kw ?_;refine Vn ?_;omega
 · exact LJ
theorem sameNtc_h (l:List Ntc) (hn:l.length<=1000000):Holds prog 50 [qan l,qan l] (.p (pB true)) []:=by
 refine qo (ts:=[4]) func50 DG rfl rfl rfl ?_;refine Kr ?_;refine uC (fun h0=>?_) (fun h0=>?_)
 · exfalso;simp at h0
 refine LO ?_;refine R9 ?_;refine qG (fun m s=>∃(k:Nat) (kk:Int),k<=l.length/\m=l.length-k/\kk=k/\s=⟨26,[(0,.p (qan l)),(1,.p (qan l)),(4,.p (pB false)),(5,.p (pI kk))],[]⟩) l.length ⟨0,0,Yl _,rfl,rfl,rfl⟩ ?_;rintro m s ⟨k,_,hk,rfl,rfl,rfl⟩;refine uA ?_;refine uC (fun hlt=>?_) (fun hlt=>?_)
 · refine qh ?_;simp only[Yb,Yf]at hlt;have hlt':k<l.length:=by omega
   obtain⟨x,hx⟩:∃x,x=l[k]:=⟨_,rfl⟩;refine uB ?_;refine Uy ?_;refine K5 ?_;refine K5 ?_;refine LF ?_;refine uC (fun hp=>?_) (fun hp=>?_)
   · exfalso;simp at hp
   refine Kw ?_;refine Vn ?_;omega
 · exact LJ
theorem sameRol_h (l:List Rol) (hn:l.length<=1000000):Holds prog 19 [zi l,zi l] (.p (pB true)) []:=by
 refine qo (ts:=[4]) func19 DG rfl rfl rfl ?_;refine Kr ?_;refine uC (fun h0=>?_) (fun h0=>?_)
 · exfalso;simp at h0
 refine LO ?_;refine R9 ?_;refine qG (fun m s=>∃(k:Nat) (kk:Int),k<=l.length/\m=l.length-k/\kk=k/\s=⟨26,[(0,.p (zi l)),(1,.p (zi l)),(4,.p (pB false)),(5,.p (pI kk))],[]⟩) l.length ⟨0,0,Yl _,rfl,rfl,rfl⟩ ?_;rintro m s ⟨k,_,hk,rfl,rfl,rfl⟩;refine uA ?_;refine uC (fun hlt=>?_) (fun hlt=>?_)
 · refine qh ?_;simp only[Yb,Yf]at hlt;have hlt':k<l.length:=by omega
   obtain⟨x,hx⟩:∃x,x=l[k]:=⟨_,rfl⟩;refine uB ?_;refine Uy ?_;refine K5 ?_;refine K5 ?_;refine LF ?_;refine uC (fun hp=>?_) (fun hp=>?_)
   · exfalso;simp at hp
   refine Kw ?_;refine Vn ?_;omega
 · exact LJ
theorem sameFld_h (l:List Fld) (hn:l.length<=1000000):Holds prog 36 [fldsP l,fldsP l] (.p (pB true)) []:=by
 refine qo (ts:=[4]) func36 DG rfl rfl rfl ?_;refine Kr ?_;refine uC (fun h0=>?_) (fun h0=>?_)
 · exfalso;simp at h0
 refine LO ?_;refine R9 ?_;refine qG (fun m s=>∃(k:Nat) (kk:Int),k<=l.length/\m=l.length-k/\kk=k/\s=⟨26,[(0,.p (fldsP l)),(1,.p (fldsP l)),(4,.p (pB false)),(5,.p (pI kk))],[]⟩) l.length ⟨0,0,Yl _,rfl,rfl,rfl⟩ ?_;rintro m s ⟨k,_,hk,rfl,rfl,rfl⟩;refine uA ?_;refine uC (fun hlt=>?_) (fun hlt=>?_)
 · refine qh ?_;simp only[Yb,Yf]at hlt;have hlt':k<l.length:=by omega
   obtain⟨x,hx⟩:∃x,x=l[k]:=⟨_,rfl⟩;refine uB ?_;refine Uy ?_;refine K5 ?_;refine K5 ?_;refine LF ?_;refine uC (fun hp=>?_) (fun hp=>?_)
   · exfalso;simp at hp
   refine Kw ?_;refine Vn ?_;omega
 · exact LJ
theorem sameHap_h (l:List Hap) (hn:l.length<=1000000):Holds prog 48 [hapsP l,hapsP l] (.p (pB true)) []:=by
 refine qo (ts:=[4]) func48 DG rfl rfl rfl ?_;refine Kr ?_;refine uC (fun h0=>?_) (fun h0=>?_)
 · exfalso;simp at h0
 refine LO ?_;refine R9 ?_;refine qG (fun m s=>∃(k:Nat) (kk:Int),k<=l.length/\m=l.length-k/\kk=k/\s=⟨26,[(0,.p (hapsP l)),(1,.p (hapsP l)),(4,.p (pB false)),(5,.p (pI kk))],[]⟩) l.length ⟨0,0,Yl _,rfl,rfl,rfl⟩ ?_;rintro m s ⟨k,_,hk,rfl,rfl,rfl⟩;refine uA ?_;refine uC (fun hlt=>?_) (fun hlt=>?_)
 · refine qh ?_;simp only[Yb,Yf]at hlt;have hlt':k<l.length:=by omega
   obtain⟨x,hx⟩:∃x,x=l[k]:=⟨_,rfl⟩;refine uB ?_;refine Uy ?_;refine K5 ?_;refine K5 ?_;refine LF ?_;refine uC (fun hp=>?_) (fun hp=>?_)
   · exfalso;simp at hp
   refine Kw ?_;refine Vn ?_;omega
 · exact LJ
theorem sameTgt_h (t:Tar) (hl0:t.length<=1000000) (hl:∀x∈t,x.length<=1000000/\∀y∈x,y.length<=1000000):Holds prog 66 [tgtP t,tgtP t] (.p (pB true)) []:=by
 have lt:(t.map fun x=>[anyP x]).length=t.length:=by simp
 refine qo (ts:=[4]) func66 DG rfl rfl rfl ?_;refine Kr ?_;refine uC (fun h0=>?_) (fun h0=>?_)
 · exfalso;simp at h0
 refine LO ?_;refine uZ [0,1,4,13,14] [] ?_;refine qG (fun m s=>∃(k:Nat) (kk:Int),k<=t.length/\m=t.length-k/\kk=k/\s=⟨54,[(0,.p (tgtP t)),(1,.p (tgtP t)),(4,.p (pB false)),(13,.p (pI (t.map fun x=>[anyP x]).length)),(14,.p (pI kk))],[]⟩) t.length ⟨0,0,Yl _,rfl,rfl,rfl⟩ ?_;rintro m s ⟨k,_,hk,rfl,rfl,rfl⟩;refine uA ?_;refine uC (fun hlt=>?_) (fun hlt=>?_)
 · refine qh ?_;rw[lt]at hlt;simp only[Yf]at hlt;have hlt':k<t.length:=by omega
   obtain⟨x,hx⟩:∃x,x=t[k]:=⟨_,rfl⟩;have hxl:=hl _ (Yn hlt');rw[<-hx]at hxl;have lx:(x.map fun y=>[wF y]).length=x.length:=by simp
   refine Kz ?_;refine uD [] [1,3,5,7,9,11,13,15,17,19,21] ?_;refine MV ?_;refine KY ?_;refine MV ?_;refine V1 ?_;refine KG ?_;refine uC (fun h1=>?_) (fun h1=>?_)
   · exfalso;simp at h1
   refine Kv ?_;refine qm qc rfl rfl Dq rfl ?_;refine V1 ?_;refine Lx ?_;refine uZ [0,1,4,5,13,14,32,33] [] ?_;refine qG (fun m s=>∃(j:Nat) (jj:Int),j<=x.length/\m=x.length-j/\jj=j/\s=⟨54,[(0,.p (tgtP t)),(1,.p (tgtP t)),(4,.p (pB false)),(5,.p (pI k)),(13,.p (pI (t.map fun x=>[anyP x]).length)),(14,.p (pI k)),(32,.p (pI (x.map fun y=>[wF y]).length)),(33,.p (pI jj))],[]⟩) x.length ⟨0,0,Yl _,rfl,rfl,rfl⟩ ?_;rintro m s ⟨j,_,hj,rfl,rfl,rfl⟩;refine uA ?_;refine uC (fun hlj=>?_) (fun hlj=>?_)
   · refine qh ?_;rw[lx]at hlj;simp only[Yf]at hlj;have hlj':j<x.length:=by omega
     obtain⟨y,hy⟩:∃y,y=x[j]:=⟨_,rfl⟩;have hyl:=hxl.2 _ (Yn hlj');rw[<-hy]at hyl;refine Kz ?_;refine uD [] [1,3,5,7,9,11,13,15,17,19,21,23,25,27,28,31] ?_;refine MV ?_;refine KY ?_;refine qJ qc rfl rfl rfl Dr rfl ?_;rw[qw hlj',<-hy];refine uT ?_;refine MV ?_;refine KY ?_;refine qJ qc rfl rfl rfl Dr rfl ?_;rw[qw hlj',<-hy];refine uT ?_;refine uk (sameMat_h y hyl) ?_;refine qT ?_;refine uC (fun h2=>?_) (fun h2=>?_)
     · exfalso;cases h2
     refine Kw ?_;refine⟨_,_,?_,qj [0,1,4,5,13,14,32,33] [] rfl rfl,j+1,_,hlj',rfl,qq hlj' DP,rfl⟩;omega
   · refine Ls ?_;refine⟨_,_,?_,qj [0,1,4,13,14] [] rfl rfl,k+1,_,hlt',rfl,qq hlt' DP,rfl⟩;omega
 · exact LJ
def SamePolOk (n:Nat):Prop:=∀(p:Pol),PolF n p->p.sz<=500000->Holds prog 28 [.agg (polP p),.agg (polP p)] (.p (pB true)) []
theorem samePol_step (n:Nat) (IH:SamePolOk n):SamePolOk (n+1):=by
 rintro⟨id,set,alg,tg,rules,kids,obls⟩ hf hsz;obtain⟨ht,hr,hk,ho,hru,hks⟩:=sz_big hsz (Yk _);simp only[Pol.target,Pol.rules,Pol.kids,Pol.obls]at ht hr hk ho hru hks;have hfk:∀k∈kids,PolF n k:=hf.2.2;have T:=sameTgt_h tg ht.1 ht.2;have O:=sameObl_h obls DP;have l1:((rules.map zo).length)=rules.length:=by simp
 have l2:((kids.map polP).length)=kids.length:=by simp
 rw[qY];simp only[Pol.id,Pol.set,Pol.alg,Pol.target,Pol.rules,Pol.kids,Pol.obls];refine qo (ts:=[4]) func28 DG rfl rfl rfl ?_;refine LM ?_;rw[show(id.toList==id.toList)=true by simp];refine Xz ?_;rw[show(set==set)=true by simp];refine Xz ?_;rw[show(alg !=alg)=false by simp];refine Xz ?_;refine qV rfl rfl rfl rfl (T) rfl rfl ?_;refine Xz ?_;refine qV rfl rfl rfl rfl (O) rfl rfl ?_;refine Xz ?_;rw[l1,l2,show((rules.length:Int)!=rules.length)=false by simp];refine Xz ?_;rw[show((kids.length:Int)!=kids.length)=false by simp];refine Ky ?_;refine uC (fun h0=>?_) (fun h0=>?_)
 · cases h0
 refine LO ?_;refine uZ [2,3,64,65] [(2,2),(3,3)] ?_;refine qG (fun m s=>∃(k:Nat) (kk:Int),k<=rules.length/\m=rules.length-k/\kk=k/\s=⟨134,[(2,.ptr 2 0),(3,.ptr 3 0),(64,.p (pI (rules.map zo).length)),(65,.p (pI kk))],[(2,.cells [.p (pS id),.p (pB set),.p (pI alg),.p (tgtP tg),.p (.sl 5 (rules.map zo)),.p (.sl 7 (kids.map polP)),.p (zh obls)]),(3,.cells [.p (pS id),.p (pB set),.p (pI alg),.p (tgtP tg),.p (.sl 5 (rules.map zo)),.p (.sl 7 (kids.map polP)),.p (zh obls)])]⟩) rules.length ⟨0,0,Yl _,rfl,rfl,rfl⟩ ?_;rintro m s ⟨k,_,hk',rfl,rfl,rfl⟩;refine uA ?_;refine uC (fun hlt=>?_) (fun hlt=>?_)
 · refine qh ?_;rw[l1]at hlt;simp only[Yf]at hlt;have hlt':k<rules.length:=by omega
   obtain⟨r,hre⟩:∃r,r=rules[k]:=⟨_,rfl⟩;have hrl:=hru _ (Yn hlt');rw[<-hre]at hrl;have HT:=sameTgt_h r.target hrl.1.1 hrl.1.2;have HN:=sameNod_h r.cond DP;have HO:=sameObl_h r.obls DP;refine Kz ?_;(repeat refine qA ?_);refine qD 14 rfl DG ?_
   refine qi (i:=0) (K:=[6,7]) DG DG rfl rfl (qf qc rfl De) rfl ?_;refine qi (i:=1) (K:=[6,7]) DG DG rfl rfl (qf qc rfl De) rfl ?_;refine qi (i:=2) (K:=[6,7]) DG DG rfl rfl (qf qc rfl De) rfl ?_;refine qi (i:=3) (K:=[6,7]) DG DG rfl rfl (qf qc rfl Dv) rfl ?_;rw[qw hlt',<-hre];refine qi (i:=4) (K:=[6,7]) DG DG rfl rfl (qf qc rfl De) rfl ?_;refine qi (i:=5) (K:=[6,7]) DG DG rfl rfl (qf qc rfl De) rfl ?_;refine qi (i:=6) (K:=[6,7]) DG DG rfl rfl (qf qc rfl De) rfl ?_;refine qi (i:=7) (K:=[6,7]) DG DG rfl rfl (qf qc rfl De) rfl ?_;refine qi (i:=8) (K:=[6,7]) DG DG rfl rfl (qf qc rfl Dv) rfl ?_;rw[qw hlt',<-hre];refine qi (i:=9) (K:=[6,7]) DG DG rfl rfl (qf qc rfl De) rfl ?_;refine zd 10 11 DG ?_ ?_;refine Xy ?_;refine UX ?_;refine Xy ?_;refine Vr ?_;refine Xy ?_;refine Vv ?_;refine Lz ?_;refine SW.wk (qj [2,3,6,7,64,65] [(2,2),(3,3),(6,6),(7,7)] rfl rfl) ?_;refine ?fk6_482;rotate_left;refine Xy ?_;refine K6 ?_;refine Vr ?_;refine Xy ?_;refine Vv ?_;refine Lz ?_;refine SW.wk (qj [2,3,6,7,64,65] [(2,2),(3,3),(6,6),(7,7)] rfl rfl) ?_;exact ?fk6_482
   change SW _ _ _ ⟨134,[(2,.ptr 2 0),(3,.ptr 3 0),(6,.ptr 6 0),(7,.ptr 7 0),(64,.p (pI (rules.map zo).length)),(65,.p (pI k))],[(2,.cells [.p (pS id),.p (pB set),.p (pI alg),.p (tgtP tg),.p (.sl 5 (rules.map zo)),.p (.sl 7 (kids.map polP)),.p (zh obls)]),(3,.cells [.p (pS id),.p (pB set),.p (pI alg),.p (tgtP tg),.p (.sl 5 (rules.map zo)),.p (.sl 7 (kids.map polP)),.p (zh obls)]),(6,.cells ((zo r).map .p)),(7,.cells ((zo r).map .p))]⟩;refine KM ?_;rw[show(r.id.toList==r.id.toList)=true by simp];refine Xz ?_;rw[show(r.deny==r.deny)=true by simp];refine Xz ?_;refine qV rfl rfl rfl rfl (HT) rfl rfl ?_;refine Xz ?_;refine qV rfl rfl rfl rfl (HN) rfl rfl ?_;refine Xz ?_;refine qV rfl rfl rfl rfl (HO) rfl rfl ?_;refine Ky ?_;refine uC (fun h1=>?_) (fun h1=>?_)
   · cases h1
   refine Kw ?_;refine⟨_,_,?_,qj [2,3,64,65] [(2,2),(3,3)] rfl rfl,k+1,_,hlt',rfl,qq hlt' DP,rfl⟩;omega
 · refine qC ?_;refine KJ ?_;refine uZ [2,3,117,118] [(2,2),(3,3)] ?_;refine qG (fun m s=>∃(k:Nat) (kk:Int),k<=kids.length/\m=kids.length-k/\kk=k/\s=⟨134,[(2,.ptr 2 0),(3,.ptr 3 0),(117,.p (pI (kids.map polP).length)),(118,.p (pI kk))],[(2,.cells [.p (pS id),.p (pB set),.p (pI alg),.p (tgtP tg),.p (.sl 5 (rules.map zo)),.p (.sl 7 (kids.map polP)),.p (zh obls)]),(3,.cells [.p (pS id),.p (pB set),.p (pI alg),.p (tgtP tg),.p (.sl 5 (rules.map zo)),.p (.sl 7 (kids.map polP)),.p (zh obls)])]⟩) kids.length ⟨0,0,Yl _,rfl,rfl,rfl⟩ ?_;rintro m s ⟨k,_,hk',rfl,rfl,rfl⟩;refine uA ?_;refine uC (fun hlj=>?_) (fun hlj=>?_)
   · refine qh ?_;rw[l2]at hlj;simp only[Yf]at hlj;have hlj':k<kids.length:=by omega
     have H2:=IH _ (hfk _ (Yn hlj')) (hks _ (Yn hlj'));obtain⟨x,hx⟩:∃x,x=kids[k]:=⟨_,rfl⟩;rw[<-hx,qY]at H2;refine Kz ?_;refine uD [] [1,3,5,7,9,11,13,15,17,19,20,23] ?_;refine qJ qc rfl rfl rfl (by rw[l2];omega) rfl ?_;rw[qw hlj',<-hx,qY];refine uT ?_;refine qJ qc rfl rfl rfl (by rw[l2];omega) rfl ?_;rw[qw hlj',<-hx,qY];refine uT ?_;refine uk H2 ?_;refine qT ?_;refine uC (fun h2=>?_) (fun h2=>?_)
     · cases h2
     refine Kw ?_;refine⟨_,_,?_,qj [2,3,117,118] [(2,2),(3,3)] rfl rfl,k+1,_,hlj',rfl,qq hlj' DP,rfl⟩;omega
   · exact LJ
theorem samePol_all:∀n,SamePolOk n
 |0=>fun _ h=>h.elim
 |n+1=>samePol_step n (samePol_all n)
section
variable {P:Program} {T:TT} (hT:zm P T) {st:St}
include hT
end
section
variable {P:Program} {T:TT} (hT:zm P T) {st:St}
include hT
end
end
section
def zig (n:Int):Nat:=if n<0 then(-2*n-1).toNat else(2*n).toNat
theorem zig_lt {n:Int} (h:R64 n):zig n<18446744073709551616:=by
 have h1:=h.1;have h2:=h.2;unfold zig;split<;>omega
def putU:Nat->Nat->Bs
 |0,_=>[]
 |f+1,u=>if u<128 then [UInt8.ofNat u]else UInt8.ofNat (u%128+128)::putU f (u/128)
def putN (n:Int):Bs:=putU 10 (zig n)
theorem putU_len:∀(f u:Nat),(putU f u).length<=f
 |0,_=>Yk _
 |f+1,u=>by
  rw[putU];split
  · simp
  · have:=putU_len f (u/128);simp;omega
end
section
theorem ofNat64 (u:Nat) (h:u<18446744073709551616):(BitVec.ofInt IntKind.u64.bits (u:Int)).toNat=u:=by
 show(BitVec.ofInt 64 (u:Int)).toNat=u;rw[BitVec.toNat_ofInt];omega
theorem u64_nat {u:Nat} (h:u<18446744073709551616):IntKind.u64.wrap (u:Int)=(u:Int):=by
 simp[IntKind.wrap,IntKind.bits,IntKind.signed];omega
theorem and127 {u:Nat} (h:u<18446744073709551616):IntKind.u64.wrap ((BitVec.ofInt IntKind.u64.bits (u:Int) &&& BitVec.ofInt IntKind.u64.bits 127).toNat:Int)=((u%128:Nat):Int):=by
 rw[BitVec.toNat_and,ofNat64 u h,show(BitVec.ofInt IntKind.u64.bits 127).toNat=2^7-1 from by decide,Nat.and_two_pow_sub_one_eq_mod];exact u64_nat DP
theorem or128 {u:Nat} (h:u<128):IntKind.u64.wrap ((BitVec.ofInt IntKind.u64.bits (u:Int) ||| BitVec.ofInt IntKind.u64.bits 128).toNat:Int)=((u+128:Nat):Int):=by
 rw[BitVec.toNat_or,ofNat64 u DP,show(BitVec.ofInt IntKind.u64.bits 128).toNat=1 <<< 7 from by decide,Nat.or_comm,<-Nat.shiftLeft_add_eq_or_of_lt DP];rw[show 1 <<< 7+u=u+128 by simp[Nat.shiftLeft_eq];omega];exact u64_nat DP
theorem not64 {u:Nat} (h:u<18446744073709551616):IntKind.u64.wrap ((BitVec.ofInt IntKind.u64.bits (IntKind.u64.max) ^^^ BitVec.ofInt IntKind.u64.bits (u:Int)).toNat:Int)=((18446744073709551615-u:Nat):Int):=by
 have e:(BitVec.ofInt 64 (IntKind.u64.max) ^^^ BitVec.ofInt 64 (u:Int)).toNat=18446744073709551615-u:=by
  have e1:BitVec.ofInt 64 (IntKind.u64.max)=BitVec.allOnes 64:=by decide
  rw[e1,BitVec.allOnes_xor,BitVec.toNat_not,show(BitVec.ofInt 64 (u:Int)).toNat=u from ofNat64 u h]
 show IntKind.u64.wrap ((BitVec.ofInt 64 (IntKind.u64.max) ^^^ BitVec.ofInt 64 (u:Int)).toNat:Int)=_;rw[e];exact u64_nat DP
theorem zig_u {n:Int} (h:R64 n):IntKind.u64.wrap (IntKind.u64.wrap n*2^(min (1:Int).toNat IntKind.u64.bits))=((if n<0 then 18446744073709551616+2*n else 2*n:Int)):=by
 have h1:=h.1;have h2:=h.2;have e:((2:Int)^(min (1:Int).toNat IntKind.u64.bits))=2:=by decide
 rw[e];simp only[IntKind.wrap,IntKind.bits,IntKind.signed,Bool.false_and,YC,if_false];split<;>omega
end
section
open Go.RowKit
abbrev pU (c:UInt8):PV:=.v (.int .u8 (c.toNat:Int))
abbrev pL (l:Bs):PV:=pS ⟨⟨l⟩⟩
def bR (l:Bs):List (List PV):=l.map fun c=>[pU c]
def bP (l:Bs):PV:=.sl 1 (bR l)
theorem zY (l:Bs):(bR l).length=l.length:=by simp[bR]
theorem bR_app (a b:Bs):bR (a++b)=bR a++bR b:=by simp[bR]
theorem bR_at {l:Bs} {k:Nat} (h:k<l.length):(bR l).getD k []=[pU l[k]]:=qw h
theorem byteAt_l {l:Bs} {k:Nat} (hk:k<l.length):byteAt ⟨⟨l⟩⟩ k=(l[k].toNat:Int):=by
 unfold byteAt;have:(⟨⟨l⟩⟩:DT).data.getD k 0=l[k]:=by
  show(⟨l⟩:Array UInt8).getD k 0=l[k];rw[Array.getD_eq_getD_getElem?];simp[hk]
 rw[this]
theorem jJ {l:Bs} {k:Nat} (hk:k<l.length):byteAt ⟨⟨l⟩⟩ (Int.toNat (k:Int))=(l[k].toNat:Int):=byteAt_l hk
theorem fin_s {ts:List Tmp} {st:St} {b b':DT} (h:resS st ts=some (.p (.v (.string b)))) (hb:b=b'):Fin ts (.p (.v (.string b'))) [] .ret st:=by
 subst hb;exact⟨Or.inr rfl,st,_,[],Wk.refl _,h,rfl,rfl,rfl⟩
theorem fin_t {ts:List Tmp} {st:St} {x y x' y':PV} (h:resS st ts=some (.tup [.p x,.p y])) (hx:x=x') (hy:y=y'):Fin ts (.tup [.p x',.p y']) [] .ret st:=by
 subst hx;subst hy;exact⟨Or.inr rfl,st,_,[],Wk.refl _,h,rfl,rfl,rfl⟩
theorem u8_in {n:Int} (h:0<=n/\n<256):IntKind.u8.wrap n=n:=by
 simp[IntKind.wrap,IntKind.bits,IntKind.signed];omega
section
variable {P:Program} {T:TT} (hT:zm P T) {st:St} {K:List Nat}
include hT
theorem jf {o:Oper} {t t':TypeId} {x:Operand} (ho:o.op=.binOp .eql t x (.const (.pointer none)) t') {ti:TyI} (ht:lk t T=some ti) (hte:ti.d=.ptr) {j off:Nat} (hx:evS st x=some (.ptr j off)) (hd:jW st o.dst=true) {Q:St->Prop} (h:Q (st.put o.dst (.p (.v (.bool false))))):ActOk P [] o st Q:=by
 intro w0 Sx γ a w QQ hI;have hv:∃A:Addr,a.eval x=.pointer (some A):=by
  have:=qK hI hx;generalize a.eval x=u at this⊢;cases this with
  |ptr h hb=>exact⟨_,rfl⟩
 obtain⟨A,hv⟩:=hv;have hyv:a.eval (.const (.pointer none))=.pointer none:=rfl;have hrun:(execOp a.eval o).run P w=.ok (.value (.bool false)) w:=by
  refine LH ?_;have hu:=(hT t ti ht).und;rw[hte]at hu;obtain⟨el,hu⟩:=hu;have h1:(eqGuard .eql t x (.const (.pointer none)) (.pointer (some A)) (.pointer none)).run P w=.ok () w:=by simp[eqGuard]
  rw[YG,h1];simp only[Ys];have hq:∀d,(Op.equalIn (d+1) t (.pointer (some A)) (.pointer none)).run P w=.ok false w:=fun d=>by simp[Op.equalIn,run_underlying hu]
  simp[binOp,Op.equal,Op.maxDepth,hq 9999]
 unfold Oper.wp;rw[hrun,Oper.upon_value];exact⟨γ,_,h,hI.put hd (.p (.v rfl)),⟨Yk _,fun _ _ _=>rfl⟩,fun K _ b _ hb=>by rw[qaE];exact hb⟩
end
theorem shr_7 (x:Nat):(x:Int).fdiv (2^(min (7:Int).toNat IntKind.u64.bits))=((x/128:Nat):Int):=by
 rw[show((2:Int)^(min (7:Int).toNat IntKind.u64.bits))=128 from by decide,Int.fdiv_eq_ediv_of_nonneg _ DP];omega
theorem not_u64s {u:Nat} (h:u<18446744073709551616):IntKind.u64.wrap ((BitVec.ofInt IntKind.u64.bits (if IntKind.u64.signed=true then-1 else IntKind.u64.max) ^^^ BitVec.ofInt IntKind.u64.bits (u:Int)).toNat:Int)=((18446744073709551615-u:Nat):Int):=not64 h
theorem swt_wk {P:Program} {ops l:List Oper} {Q:St->Prop} {st st':St} (h:Wk st st') (h':SWT P ops l Q st'):SWT P ops l Q st:=fun w0 Sx γ a w QQ hI hQ=>by
 obtain⟨γ',hI'⟩:=h w0 Sx γ a w hI;exact h' w0 Sx γ' a w QQ hI' hQ
theorem SWT.mono {P:Program} {ops l:List Oper} {Q Q':St->Prop} {st:St} (h:SWT P ops l Q' st) (hm:∀s,Q' s->Q s):SWT P ops l Q st:=fun w0 Sx γ a w QQ hI hQ=>
 h w0 Sx γ a w QQ hI fun st' γ' a' w' hI' hq=>hQ st' γ' a' w' hI' (hm st' hq)
end
section
open Go.RowKit Go.Lib
section
variable {P:Program}
theorem jT (W:World) (dT sT ty elem:TypeId) (z g o dLen dCap:Nat) (a:Addr) (sLen sCap:Nat) (cur:Array Value) (t:TypeId) (cs:List Value)
 (hu:P.underlying dT=some (.slice elem)) (hs:(P.info? elem).map (·.size)=some z) (hg:W.heap[g]?=some (.cells cur t (0,0))) (hn:cs.length=Nat.min sLen dLen*z)
 (hsrc:∀j v,cs[j]?=some v->W.cell? (a.add j)=some v) (hfit:o+cs.length<=cur.size) (h1:∀v∈cs,v.oneCell'=true):
 (Builtin.copy_ #[dT,sT] ty #[.slice (some ⟨g,o,none⟩) dLen dCap,.slice (some a) sLen sCap]).run P W=
  .ok (goInt (Nat.min sLen dLen)) (W.setRow g (cur.toList.take o++cs++cur.toList.drop (o+cs.length)).toArray):=by
 have hl:=run_loadCells_list (P:=P) W a cs hsrc;have hst:=run_storeCells_at P g o t cs 0 cur W hg (by simpa using hfit) h1;cases hq:P.info? elem with
 |none=>simp[hq]at hs
 |some i=>
  have hi:i.size=z:=by simpa [hq]using hs
  simp[Builtin.copy_,run_underlying hu,Builtin.lenOf,Builtin.firstCells,sizeOf,typeInfo,hq,hi,<-hn,hl,hst]
end
section
variable {P:Program}
theorem wp_copy_at (w:World) {o:Oper} {a:Act} {K:Act->World->Prop} {Q:Exit->Act->World->Prop} (d s:Operand) (t t':TypeId)
 (ho:o.op=.call {callee:=.builtin .copy,args:=#[d,s],argTypes:=#[t,t']}) (v u:Value) (hd:a.eval d=v) (hs:a.eval s=u) {v':Value} {w':World}
 (hr:(Builtin.copy_ #[t,t'] o.type #[v,u]).run P w=.ok v' w') (h:K (a.put o.dst v') w'):o.wp P a w K Q:=by
 unfold Oper.wp execOp;simp only[ho,resolve,invoke,builtin,YG,YR,Ys,List.map_toArray,Y2,List.map_nil,hd,hs,hr];exact h
theorem qaA {ops:Array Oper} {o:Oper} {a:Act} {w:World} {K:Act->World->Prop} {Q:Exit->Act->World->Prop} {E:Prop}
 (hg:o.guard=none) (d x:Operand) (dT sT:TypeId) (hop:o.op=Op.call {callee:=Callee.builtin Builtin.copy,args:=#[d,x],argTypes:=#[dT,sT]})
 (v u:Value) (hd:a.eval d=v) (hx:a.eval x=u) {v':Value} {w':World} (hr:(Builtin.copy_ #[dT,sT] o.type #[v,u]).run P w=.ok v' w') (hK:K (a.put o.dst v') w'):
 if Region.wanted o (yielded ops a.tmps)=true then Oper.wp P o a w K Q else E:=by
 have hw:Region.wanted o (yielded ops a.tmps)=true:=by simp[Region.wanted,hg]
 rw[Yi hw];exact wp_copy_at w d x dT sT hop v u hd hx hr hK
end
structure LikeW (w w':World):Prop where
 heap:w'.heap=w.heap
 os:w'.os=w.os
 tape:w'.tape=w.tape
 output:w'.output=w.output
theorem LikeW.refl (w:World):LikeW w w:=⟨rfl,rfl,rfl,rfl⟩
theorem ins_list (cur:List Value) (cs vs:List Value) (a b z:Nat) (hab:a<=b) (hcs:cur.take b=cs) (hl:cs.length=b) (hv:vs.length=z) (hc:b+z<=cur.length):
 ((((cur.take (a+z)++cs.drop a++cur.drop (a+z+(cs.drop a).length)).take a)++vs++
   ((cur.take (a+z)++cs.drop a++cur.drop (a+z+(cs.drop a).length)).drop (a+vs.length))).take (b+z))=cs.take a++vs++cs.drop a:=by
 have hd:(cs.drop a).length=b-a:=by rw[Yo,hl]
 have hta:cs.take a=cur.take a:=by rw[<-hcs,List.take_take,Nat.min_eq_left hab]
 rw[hd,hv,hta];have hx:(cur.take (a+z)++cs.drop a++cur.drop (a+z+(b-a))).take a=cur.take a:=by
  rw[YU,Y7 Dw,List.take_take,Nat.min_eq_left DP]
 have hy:(cur.take (a+z)++cs.drop a++cur.drop (a+z+(b-a))).drop (a+z)=cs.drop a++cur.drop (a+z+(b-a)):=by
  rw[YU,List.drop_append_of_le_length Dw,List.drop_eq_nil_of_le Dw];rfl
 rw[hx,hy,<-YU,Y7 (by simp only[Ya,Yd,hd,hv];omega),YN (by simp only[Ya,Yd,hd,hv];omega)]
theorem flatC_take {α:Type} {f:α->List Value} {z:Nat} (hf:∀x,(f x).length=z):∀(l:List α) (i:Nat),(l.take i).flatMap f=(l.flatMap f).take (i*z)
 |[],i=>by simp
 |x::l,0=>by simp
 |x::l,i+1=>by
  have h1:=hf x;have h2:(f x).take (i*z+z)=f x:=YN (by rw[h1];exact Nat.le_add_left _ _);rw[Y4,YW,YW,flatC_take hf l i,Nat.succ_mul,List.take_append,h2,h1,Nat.add_sub_cancel]
theorem flatC_drop {α:Type} {f:α->List Value} {z:Nat} (hf:∀x,(f x).length=z):∀(l:List α) (i:Nat),(l.drop i).flatMap f=(l.flatMap f).drop (i*z)
 |[],i=>by simp
 |x::l,0=>by simp
 |x::l,i+1=>by
  have h1:=hf x;have h2:(f x).drop (i*z+z)=[]:=List.drop_eq_nil_of_le (by rw[h1];exact Nat.le_add_left _ _);rw[List.drop_succ_cons,YW,flatC_drop hf l i,Nat.succ_mul,List.drop_append,h2,h1,Nat.add_sub_cancel,Xe]
end
end Go.Proofs.YtblgnefkgkchhaaGreatDoor
