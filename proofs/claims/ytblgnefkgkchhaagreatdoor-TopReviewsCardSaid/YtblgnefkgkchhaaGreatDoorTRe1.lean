/- Part 51. -/
import Derived.Test.YtblgnefkgkchhaaGreatDoorPk10
set_option maxHeartbeats 4000000
set_option linter.unusedSimpArgs false
set_option linter.unusedVariables false
namespace Go.Proofs.YtblgnefkgkchhaaGreatDoor
open _root_.Go.Proofs.Tryz
open Go.RowKit
theorem topReviews_h (l:List DT) (hl:l.length<=reachBytes):Holds prog 5 [zF l] (.p (pB true)) []:=by
 have HW:=awake_h;have F0:=fresh_h 200000 DO;have E0:(newE 200000).Iv 0:=new_iv;have HL:=lines_h l 40 DP hl;have hLs:∀q∈jc l 40,q.size<=4096:=fun q hq=>qai hq
 have hLn:=qaO l 40;generalize jc l 40=L at*;generalize newE 200000=X0 at*;have lL:(L.map fun s=>[pS s]).length=L.length:=Yb _;refine Vd ?_;show HoldsW _ _ [.p (zF l)] [] _ _;refine qE (ts:=[2]) func5 DG rfl rfl rfl ?_;refine Kq ?_;refine uW [] F0 ?_;refine Ko ?_;refine uZ [0,3] [(18000,16000),(18001,16001),(18002,16002),(18003,16003),(18004,16004)] ?_;change SW _ _ _ ⟨111,[(0,.p (zF l)),(3,.ptr 16000 0)],engG X0 16000 16001 16002 16003 16004⟩;refine uR ?_;refine V4 ?_;refine Ko ?_;refine uC (fun hc=>?_) (fun hc=>?_)
 · cases hc
 refine Kv ?_;refine uO HL ?_;refine Ko ?_;rw[lL];refine uB ?_;refine uZ [3,23,24,25] [(16000,16000),(16001,16001),(16002,16002),(16003,16003),(16004,16004)] ?_;refine qG (fun m s=>∃(k:Nat) (X:Eng),k<=L.length/\m=L.length-k/\X.Iv k/\s=⟨111,[(3,.ptr 16000 0),(23,.p (zF L)),(24,.p (pI (L.length:Int))),(25,.p (pI (k:Int)))],engG X 16000 16001 16002 16003 16004⟩) L.length ⟨0,X0,Yl _,rfl,E0,rfl⟩ ?_;clear E0 F0
 rintro m s ⟨k,X,hk,rfl,hX,rfl⟩;refine uA ?_;by_cases hlt:k<L.length;rotate_left
 · refine UG ?_;refine uC (fun hc=>?_) (fun hc=>?_)
   · cases hc
   refine qC ?_;refine uR ?_;refine uK HW ?_;exact Lo
 refine UH ?_;refine uC (fun hc=>?_) (fun hc=>?_);rotate_left
 · cases hc
 refine Lh ?_;obtain⟨q,hq⟩:∃q,q=L[k]:=⟨_,rfl⟩;have hqs:q.size<=4096:=by rw[hq];exact hLs _ (Yn hlt)
 have LX:=lineS_h X (hX.in_.ok DP) q hqs;have hX':(zy X q.data.toList).1.Iv (k+1):=hX.line hqs;refine uR ?_;refine GI ?_;rw[qw hlt,<-hq];refine Ko ?_;have HP:=parseQ_h q hqs;have RL:=fun(i:Nat) (v:Rev) h=>rev_law hX.ids q.data.toList (i:=i) (v:=v) h
 have hOk:=fun o ho=>line_ok (q:=q) hqs (o:=o) ho
 have hr9:=hX.in_.sto.revs;have hr8:=hX'.in_.sto.revs;have HSt:=store_h (zy X q.data.toList).1;generalize zy X q.data.toList=D at*;generalize qaa q.data.toList=O at*;have lX:(X.sto.revs.map Rev.pv).length=X.sto.revs.length:=Yb _;have lD:(D.1.sto.revs.map Rev.pv).length=D.1.sto.revs.length:=Yb _;refine uR ?_;refine Ub ?_;refine Ko ?_;refine uZ [3,6,7,23,24,25] [(7,7),(16000,16000),(16001,16001),(16002,16002),(16003,16003),(16004,16004)] ?_;change SW _ _ _ ⟨111,[(3,.ptr 16000 0),(6,.p (pS q)),(7,.ptr 7 0),(23,.p (zF L)),(24,.p (pI (L.length:Int))),(25,.p (pI (k:Int)))],(7,.cells (X.sto.pv.map .p))::engG X 16000 16001 16002 16003 16004⟩;refine uR ?_;refine VX ?_;refine Ko ?_;refine uZ [3,6,7,8,23,24,25] [(7,7),(16000,16000),(16001,16001),(16002,16002),(34000,16003),(34001,16004)] ?_;change SW _ _ _ ⟨111,[(3,.ptr 16000 0),(6,.p (pS q)),(7,.ptr 7 0),(8,.p (pS D.2)),(23,.p (zF L)),(24,.p (pI (L.length:Int))),(25,.p (pI (k:Int)))],(7,.cells (X.sto.pv.map .p))::engG D.1 16000 16001 16002 16003 16004⟩;refine uR ?_;refine MQ ?_;refine Ko ?_;refine uZ [3,6,7,8,9,23,24,25] [(7,7),(9,9),(16000,16000),(16001,16001),(16002,16002),(16003,16003),(16004,16004)] ?_;change SW _ _ _ ⟨111,[(3,.ptr 16000 0),(6,.p (pS q)),(7,.ptr 7 0),(8,.p (pS D.2)),(9,.ptr 9 0),(23,.p (zF L)),(24,.p (pI (L.length:Int))),(25,.p (pI (k:Int)))],(7,.cells (X.sto.pv.map .p))::(9,.cells (D.1.sto.pv.map .p))::engG D.1 16000 16001 16002 16003 16004⟩;refine uR ?_;rw[lX];refine qe ?_;refine uB ?_;refine uZ [3,6,7,8,9,23,24,25,37,38,39] [(7,7),(9,9),(16000,16000),(16001,16001),(16002,16002),(16003,16003),(16004,16004)] ?_;refine qG (fun m s=>∃(j:Nat),j<=X.sto.revs.length/\m=X.sto.revs.length-j/\s=⟨111,[(3,.ptr 16000 0),(6,.p (pS q)),(7,.ptr 7 0),(8,.p (pS D.2)),(9,.ptr 9 0),(23,.p (zF L)),(24,.p (pI (L.length:Int))),(25,.p (pI (k:Int))),(37,.p (jX X.sto.revs)),(38,.p (pI (X.sto.revs.length:Int))),(39,.p (pI (j:Int)))],(7,.cells (X.sto.pv.map .p))::(9,.cells (D.1.sto.pv.map .p))::engG D.1 16000 16001 16002 16003 16004⟩) X.sto.revs.length ⟨0,Yl _,rfl,rfl⟩ ?_;rintro m s ⟨j,hj,rfl,rfl⟩;refine uA ?_;by_cases hj2:j<X.sto.revs.length;rotate_left
 · rw[show decide ((j:Int)<(X.sto.revs.length:Int))=false by rw[Yh];omega];refine uC (fun hc=>?_) (fun hc=>?_)
   · cases hc
   refine Ls ?_;refine⟨_,_,?_,qj [3,23,24,25] [(16000,16000),(16001,16001),(16002,16002),(16003,16003),(16004,16004)] rfl rfl,k+1,D.1,hlt,rfl,hX',by rw[qq hlt DP];rfl⟩;omega
 rw[show decide ((j:Int)<(X.sto.revs.length:Int))=true by rw[Yf];omega];refine uC (fun hc=>?_) (fun hc=>?_);rotate_left
 · cases hc
 refine Lh ?_;obtain⟨v,hv⟩:∃v,v=X.sto.revs[j]:=⟨_,rfl⟩;obtain⟨w,hw,hlaw⟩:=RL j v (by rw[hv];exact Yj hj2);obtain⟨hjD,hwD⟩:=Yq.1 hw;refine uR ?_;refine qm qc rfl rfl (by rw[lX];omega) rfl ?_;rw[qw hj2,<-hv];refine Kt ?_;rw[lD,show decide ((j:Int)>=(D.1.sto.revs.length:Int))=false by rw[Yh];omega];refine qe ?_;refine uC (fun hc=>?_) (fun hc=>?_)
 · cases hc
 refine qh ?_;refine uZ [3,6,7,8,9,10,11,23,24,25,37,38,39] [(7,7),(9,9),(11,11),(16000,16000),(16001,16001),(16002,16002),(16003,16003),(16004,16004)] ?_;change SW _ _ _ ⟨111,[(3,.ptr 16000 0),(6,.p (pS q)),(7,.ptr 7 0),(8,.p (pS D.2)),(9,.ptr 9 0),(10,.p (pI (j:Int))),(11,.ptr 11 0),(23,.p (zF L)),(24,.p (pI (L.length:Int))),(25,.p (pI (k:Int))),(37,.p (jX X.sto.revs)),(38,.p (pI (X.sto.revs.length:Int))),(39,.p (pI (j:Int)))],(7,.cells (X.sto.pv.map .p))::(9,.cells (D.1.sto.pv.map .p))::(11,.cells (v.pv.map .p))::engG D.1 16000 16001 16002 16003 16004⟩;by_cases hop:v.open_=true;rotate_left
 · have hopf:v.open_=false:=by simpa using hop
   refine uR ?_;rw[hopf];refine Ko ?_;refine uC (fun hc=>?_) (fun hc=>?_);rotate_left
   · cases hc
   refine Ls ?_;refine Vt ?_;omega
 by_cases how:w.open_=true
 · refine uR ?_;rw[hop];refine uS ?_;refine qm qc rfl rfl (by rw[lD];omega) rfl ?_;rw[qw hjD,hwD];refine uS ?_;rw[how];refine Ko ?_;refine uC (fun hc=>?_) (fun hc=>?_);rotate_left
   · cases hc
   refine Ls ?_;refine Vt ?_;omega
 have howf:w.open_=false:=by simpa using how
 obtain⟨o,hO,hA2,hk5,hrv,hsb,hmk⟩:∃o,O=some o/\D.2=wOk/\o.kind=5/\o.rev=v.id/\o.subj≠v.subj/\(rsC X.sto o).m=(2,0):=by
  rcases hlaw with h|h
  · rw[h]at how;exact absurd hop how
  · exact h
 subst hO;have ho:o.Ok:=hOk o rfl;have HA:=askS_h hX o;have HE:=evS_h hX ho;have hm:=rs_mem X.sto o;rw[qY]at HE;generalize rsC X.sto o=r at*;generalize askC X.sto o=g at*;refine uR ?_;rw[hop];refine uS ?_;refine qm qc rfl rfl (by rw[lD];omega) rfl ?_;rw[qw hjD,hwD];refine uS ?_;rw[howf];refine Ko ?_;refine uC (fun hc=>?_) (fun hc=>?_)
 · cases hc
 refine Kv ?_;refine uK HP ?_;refine Ko ?_;refine uZ [3,6,7,8,9,10,11,12,13,23,24,25,37,38,39] [(7,7),(9,9),(11,11),(12,12),(16000,16000),(16001,16001),(16002,16002),(16003,16003),(16004,16004)] ?_;change SW _ _ _ ⟨111,[(3,.ptr 16000 0),(6,.p (pS q)),(7,.ptr 7 0),(8,.p (pS D.2)),(9,.ptr 9 0),(10,.p (pI (j:Int))),(11,.ptr 11 0),(12,.ptr 12 0),(13,.p (pB true)),(23,.p (zF L)),(24,.p (pI (L.length:Int))),(25,.p (pI (k:Int))),(37,.p (jX X.sto.revs)),(38,.p (pI (X.sto.revs.length:Int))),(39,.p (pI (j:Int)))],(7,.cells (X.sto.pv.map .p))::(9,.cells (D.1.sto.pv.map .p))::(11,.cells (v.pv.map .p))::(12,.cells (o.pv.map .p))::engG D.1 16000 16001 16002 16003 16004⟩;refine Ry ?_;refine qi (i:=0) (K:=[14]) DG DG rfl rfl (qf qc rfl De) rfl ?_;refine qi (i:=1) (K:=[14]) DG DG rfl rfl (qf qc rfl De) rfl ?_;refine qi (i:=2) (K:=[14]) DG DG rfl rfl (qf qc rfl De) rfl ?_;refine qi (i:=3) (K:=[14]) DG DG rfl rfl (qf qc rfl De) rfl ?_;refine zd 4 9 DG ?_ ?_;refine UC ?_;refine zd 5 9 DG ?_ ?_;refine VR ?_;refine Gb ?_;refine Gc ?_;refine Ge ?_;refine Uc ?_;refine Xy ?_;refine K6 ?_;refine U3 ?_;refine XH ?_;refine Vx ?_;refine ?fk17_213;rotate_left;refine Xy ?_;refine Vo ?_;refine VR ?_;refine Gb ?_;refine Gc ?_;refine Ge ?_;refine K6 ?_;refine U3 ?_;refine XH ?_;refine Vx ?_;exact ?fk17_213
 refine Xy ?_;refine Gy ?_;refine UC ?_;refine Vo ?_;refine VR ?_;refine Gb ?_;refine Gc ?_;refine Ge ?_;refine K6 ?_;refine U3 ?_;refine XH ?_;refine Vx ?_;exact ?fk17_213
 change SW _ _ _ ⟨111,[(3,.ptr 16000 0),(6,.p (pS q)),(7,.ptr 7 0),(8,.p (pS D.2)),(9,.ptr 9 0),(11,.ptr 11 0),(12,.ptr 12 0),(13,.p (pB true)),(14,.ptr 14 0),(15,.p (pI 0)),(23,.p (zF L)),(24,.p (pI (L.length:Int))),(25,.p (pI (k:Int))),(37,.p (jX X.sto.revs)),(38,.p (pI (X.sto.revs.length:Int))),(39,.p (pI (j:Int)))],(7,.cells (X.sto.pv.map .p))::(9,.cells (D.1.sto.pv.map .p))::(11,.cells (v.pv.map .p))::(12,.cells (o.pv.map .p))::(14,.cells [.p (mkP r.m),.p (zh r.obls)])::engG D.1 16000 16001 16002 16003 16004⟩;have hPX:(FloatKind.f64.format.order (hb r.m.1) 4607182418800017408==some Ordering.eq&&FloatKind.f64.format.order (hb r.m.2) 0==some Ordering.eq)=decide (r.m=(2,0)):=zt (b:=(2,0)) hm DH;refine uR ?_;rw[show(D.2.toList==(⟨#[111,107]⟩:DT).toList)=true by rw[beqB];exact Yz hA2];refine uS ?_;rw[show(o.kind !=5)=false by simp[hk5]];refine uS ?_;rw[show(o.rev !=v.id)=false by simp[hrv]];refine uS ?_;rw[show(o.subj.toList==v.subj.toList)=false by rw[beqB];exact YB hsb];refine uS ?_;rw[hPX,Yz hmk];refine Ko ?_;refine uC (fun hc=>?_) (fun hc=>?_)
 · cases hc
 refine Kw ?_;refine Vt ?_;omega
end Go.Proofs.YtblgnefkgkchhaaGreatDoor
