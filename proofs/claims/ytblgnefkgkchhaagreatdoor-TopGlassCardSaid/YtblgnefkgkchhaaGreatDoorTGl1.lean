/- Part 41. -/
import Derived.Test.YtblgnefkgkchhaaGreatDoorPk10
set_option maxHeartbeats 4000000
set_option linter.unusedSimpArgs false
set_option linter.unusedVariables false
namespace Go.Proofs.YtblgnefkgkchhaaGreatDoor
open _root_.Go.Proofs.Tryz
open Go.RowKit
theorem topGlass_h (l:List DT) (hl:l.length<=reachBytes):Holds prog 4 [zF l] (.p (pB true)) []:=by
 have HW:=awake_h;have F0:=fresh_h 200000 DO;have E0:(newE 200000).Iv 0:=new_iv;have HL:=lines_h l 40 DP hl;have hLs:∀q∈jc l 40,q.size<=4096:=fun q hq=>qai hq
 have hLn:=qaO l 40;generalize jc l 40=L at*;generalize newE 200000=X0 at*;have lL:(L.map fun s=>[pS s]).length=L.length:=Yb _;refine Vd ?_;show HoldsW _ _ [.p (zF l)] [] _ _;refine qE (ts:=[2]) func4 DG rfl rfl rfl ?_;refine Kq ?_;refine uW [] F0 ?_;refine Ko ?_;refine uZ [0,3] [(16000,16000),(16001,16001),(16002,16002),(16003,16003),(16004,16004)] ?_;change SW _ _ _ ⟨113,[(0,.p (zF l)),(3,.ptr 16000 0)],engG X0 16000 16001 16002 16003 16004⟩;refine uR ?_;refine V4 ?_;refine Ko ?_;refine uC (fun hc=>?_) (fun hc=>?_)
 · cases hc
 refine Kv ?_;refine uO HL ?_;refine Ko ?_;rw[lL];refine uB ?_;refine MJ ?_;refine qG (fun m s=>∃(k:Nat) (X:Eng),k<=L.length/\m=L.length-k/\X.Iv k/\s=⟨113,[(3,.ptr 16000 0),(21,.p (zF L)),(22,.p (pI (L.length:Int))),(23,.p (pI (k:Int)))],engG X 16000 16001 16002 16003 16004⟩) L.length ⟨0,X0,Yl _,rfl,E0,rfl⟩ ?_;clear E0 F0
 rintro m s ⟨k,X,hk,rfl,hX,rfl⟩;refine uA ?_;by_cases hlt:k<L.length;rotate_left
 · refine UG ?_;refine uC (fun hc=>?_) (fun hc=>?_)
   · cases hc
   refine qC ?_;refine uR ?_;refine uK HW ?_;exact Lo
 refine UH ?_;refine uC (fun hc=>?_) (fun hc=>?_);rotate_left
 · cases hc
 refine Lh ?_;obtain⟨q,hq⟩:∃q,q=L[k]:=⟨_,rfl⟩;have hqs:q.size<=4096:=by rw[hq];exact hLs _ (Yn hlt)
 have LX:=lineS_h X (hX.in_.ok DP) q hqs;have hX':(zy X q.data.toList).1.Iv (k+1):=hX.line hqs;refine uR ?_;refine GI ?_;rw[qw hlt,<-hq];refine Ko ?_;have HP:=parseQ_h q hqs;have DL:=fun h=>glass_law (x:=X) (q:=q.data.toList) h
 have hOk:=fun o ho=>line_ok (q:=q) hqs (o:=o) ho
 have hr9:=hX.in_.sto.revs;have HSt:=store_h (zy X q.data.toList).1;generalize zy X q.data.toList=D at*;generalize qaa q.data.toList=O at*;refine uR ?_;refine Ub ?_;refine Ko ?_;refine uZ [3,6,7,21,22,23] [(7,7),(16000,16000),(16001,16001),(16002,16002),(16003,16003),(16004,16004)] ?_;change SW _ _ _ ⟨113,[(3,.ptr 16000 0),(6,.p (pS q)),(7,.ptr 7 0),(21,.p (zF L)),(22,.p (pI (L.length:Int))),(23,.p (pI (k:Int)))],(7,.cells (X.sto.pv.map .p))::engG X 16000 16001 16002 16003 16004⟩;refine uR ?_;refine VX ?_;refine uS ?_;by_cases hg:D.2=jw;rotate_left
 · rw[show(D.2.toList==(⟨#[103,108,97,115,115]⟩:DT).toList)=false by rw[beqB];exact YB hg];refine Ko ?_;refine uC (fun hc=>?_) (fun hc=>?_);rotate_left
   · cases hc
   refine Ls ?_;refine⟨_,_,?_,qj [3,21,22,23] [(16000,16000),(16001,16001),(16002,16002),(32000,16003),(32001,16004)] rfl rfl,k+1,D.1,hlt,rfl,hX',by rw[qq hlt DP];rfl⟩;omega
 rw[show(D.2.toList==(⟨#[103,108,97,115,115]⟩:DT).toList)=true by rw[beqB];exact Yz hg];refine Ko ?_;refine uC (fun hc=>?_) (fun hc=>?_)
 · cases hc
 refine qh ?_;refine uZ [3,6,7,21,22,23] [(7,7),(16000,16000),(16001,16001),(16002,16002),(32000,16003),(32001,16004)] ?_;change SW _ _ _ ⟨113,[(3,.ptr 16000 0),(6,.p (pS q)),(7,.ptr 7 0),(21,.p (zF L)),(22,.p (pI (L.length:Int))),(23,.p (pI (k:Int)))],(7,.cells (X.sto.pv.map .p))::engG D.1 16000 16001 16002 16003 16004⟩;obtain⟨o,hO,hgl,hhas,hmk,R,hR⟩:=DL hg;subst hO;have ho:o.Ok:=hOk o rfl;have HA:=askS_h hX o;have HE:=evS_h hX ho;have hm:=rs_mem X.sto o;have HH:=hass_h X.sto (by have:=hX.in_.sto.g0.roles;omega) o.subj jw;rw[hhas]at HH;have HAc:=act_h o.kind;rw[qY]at HE;generalize rsC X.sto o=r at*;generalize askC X.sto o=g at*;refine uR ?_;refine MQ ?_;refine Kt ?_;refine uK HP ?_;refine Ko ?_;refine uZ [3,7,8,9,10,21,22,23] [(7,7),(8,8),(9,9),(16000,16000),(16001,16001),(16002,16002),(16003,16003),(16004,16004)] ?_;change SW _ _ _ ⟨113,[(3,.ptr 16000 0),(7,.ptr 7 0),(8,.ptr 8 0),(9,.ptr 9 0),(10,.p (pB true)),(21,.p (zF L)),(22,.p (pI (L.length:Int))),(23,.p (pI (k:Int)))],(7,.cells (X.sto.pv.map .p))::(8,.cells (D.1.sto.pv.map .p))::(9,.cells (o.pv.map .p))::engG D.1 16000 16001 16002 16003 16004⟩;refine Ry ?_;refine qi (i:=0) (K:=[11]) DG DG rfl rfl (qf qc rfl De) rfl ?_;refine qi (i:=1) (K:=[11]) DG DG rfl rfl (qf qc rfl De) rfl ?_;refine qi (i:=2) (K:=[11]) DG DG rfl rfl (qf qc rfl De) rfl ?_;refine qi (i:=3) (K:=[11]) DG DG rfl rfl (qf qc rfl De) rfl ?_;refine zd 4 9 DG ?_ ?_;refine UC ?_;refine zd 5 9 DG ?_ ?_;refine VR ?_;refine U8 ?_;refine U9 ?_;refine Ga ?_;refine Uc ?_;refine Xy ?_;refine K6 ?_;refine U2 ?_;refine XH ?_;refine VW ?_;refine ?fk11_139;rotate_left;refine Xy ?_;refine Vo ?_;refine VR ?_;refine U8 ?_;refine U9 ?_;refine Ga ?_;refine K6 ?_;refine U2 ?_;refine XH ?_;refine VW ?_;exact ?fk11_139
 refine Xy ?_;refine Gy ?_;refine UC ?_;refine Vo ?_;refine VR ?_;refine U8 ?_;refine U9 ?_;refine Ga ?_;refine K6 ?_;refine U2 ?_;refine XH ?_;refine VW ?_;exact ?fk11_139
 change SW _ _ _ ⟨113,[(3,.ptr 16000 0),(7,.ptr 7 0),(8,.ptr 8 0),(9,.ptr 9 0),(10,.p (pB true)),(11,.ptr 11 0),(12,.p (pI 0)),(21,.p (zF L)),(22,.p (pI (L.length:Int))),(23,.p (pI (k:Int)))],(7,.cells (X.sto.pv.map .p))::(8,.cells (D.1.sto.pv.map .p))::(9,.cells (o.pv.map .p))::(11,.cells [.p (mkP r.m),.p (zh r.obls)])::engG D.1 16000 16001 16002 16003 16004⟩;have lR:(D.1.sto.revs.map Rev.pv).length=X.sto.revs.length+1+R.length:=by rw[Yb,hR,Ya,Yg];omega
 have lS:(X.sto.revs.map Rev.pv).length=X.sto.revs.length:=Yb _;have hDen:(FloatKind.f64.format.order (hb r.m.1) 0==some Ordering.eq&&FloatKind.f64.format.order (hb r.m.2) 4607182418800017408==some Ordering.eq)=decide (r.m=(0,2)):=zt (b:=(0,2)) hm DH;have hNA:(FloatKind.f64.format.order (hb r.m.1) 0==some Ordering.eq&&FloatKind.f64.format.order (hb r.m.2) 0==some Ordering.eq)=decide (r.m=(0,0)):=zt (b:=(0,0)) hm DH;(repeat refine qA ?_)
 refine SW.mono (Q:=fun e st=>e=.normal/\Wk st ⟨113,[(3,.ptr 16000 0),(7,.ptr 7 0),(8,.ptr 8 0),(9,.ptr 9 0),(85,.p (pB false)),(21,.p (zF L)),(22,.p (pI (L.length:Int))),(23,.p (pI (k:Int)))],(7,.cells (X.sto.pv.map .p))::(8,.cells (D.1.sto.pv.map .p))::(9,.cells (o.pv.map .p))::engG D.1 16000 16001 16002 16003 16004⟩) ?_ ?_
 · refine uR ?_;rw[hgl];refine uS ?_;refine uK HH ?_;refine uS ?_;rw[hDen];rcases hmk with hmk|hmk
   · rw[Yz hmk];refine uS ?_;refine GO ?_;refine Ko ?_;exact Gn
   · rw[YB (show¬r.m=(0,2)by rw[hmk];decide)];refine uS ?_;rw[hNA,Yz hmk];refine uS ?_;refine GO ?_;refine Ko ?_;exact Gn
 rintro e st ⟨rfl,hw⟩;refine V3 ?_;clear hw
 refine uC (fun hc=>?_) (fun hc=>?_)
 · cases hc
 refine qh ?_;have hlt2:X.sto.revs.length<D.1.sto.revs.length:=by rw[hR,Ya,Yg];omega
 refine uR ?_;rw[lS];refine uS ?_;refine qm qc rfl rfl (by rw[lR];omega) rfl ?_;obtain⟨v,hv⟩:∃v:Rev,v=⟨X.sto.revs.length+1,X.sto.tick,o.subj,o.case_,actC o.kind,o.reason,true⟩:=⟨_,rfl⟩;rw[qw hlt2,show D.1.sto.revs[X.sto.revs.length]=v by rw[hv];simp[hR]];refine Ko ?_;refine uZ [3,7,9,13,21,22,23] [(7,7),(9,9),(13,13),(16000,16000),(16001,16001),(16002,16002),(16003,16003),(16004,16004)] ?_;change SW _ _ _ ⟨113,[(3,.ptr 16000 0),(7,.ptr 7 0),(9,.ptr 9 0),(13,.ptr 13 0),(21,.p (zF L)),(22,.p (pI (L.length:Int))),(23,.p (pI (k:Int)))],(7,.cells (X.sto.pv.map .p))::(9,.cells (o.pv.map .p))::(13,.cells (v.pv.map .p))::engG D.1 16000 16001 16002 16003 16004⟩;refine uD [] [1,3,5,7,9,11,13,15,17,19,21,23,25,29,31,26,33,35] ?_;rw[lS,qq (n:=100000) DP DP];refine uT ?_;refine uk HAc ?_;refine uT ?_;refine LF ?_;refine uC (fun hc=>?_) (fun hc=>?_)
 · exfalso;subst hv;simp[beqB]at hc
 refine Kw ?_;refine XV ?_;omega
end Go.Proofs.YtblgnefkgkchhaaGreatDoor
