/- Part 21. -/
import Derived.Test.YtblgnefkgkchhaaGreatDoorPk10
set_option maxHeartbeats 4000000
set_option linter.unusedSimpArgs false
set_option linter.unusedVariables false
namespace Go.Proofs.YtblgnefkgkchhaaGreatDoor
open _root_.Go.Proofs.Tryz
open Go.RowKit
theorem ok_pre {a:DT} (h:a=wOk\/(∃t,a=wOkB++t)\/a=wHidden):2<=a.size/\(a.extract 0 2=wOk\/a=wHidden):=by
 rcases h with rfl|⟨t,rfl⟩|rfl
 · exact⟨by decide,.inl DO⟩
 · refine⟨?_,.inl (ba_eq ?_)⟩
   · rw[ByteArray.size_append];have:wOkB.size=3:=rfl
     omega
   · rw[ba_take,ba_head];rfl
 · exact⟨by decide,.inr rfl⟩
theorem topDecided_h (l:List DT) (hl:l.length<=reachBytes):Holds prog 12 [zF l] (.p (pB true)) []:=by
 have HW:=awake_h;have F0:=fresh_h 200000 DO;have E0:(newE 200000).Iv 0:=new_iv;have HL:=lines_h l 40 DP hl;have hLs:∀q∈jc l 40,q.size<=4096:=fun q hq=>qai hq
 have hLn:=qaO l 40;generalize jc l 40=L at*;generalize newE 200000=X0 at*;have lL:(L.map fun s=>[pS s]).length=L.length:=Yb _;refine Vd ?_;show HoldsW _ _ [.p (zF l)] [] _ _;refine qE (ts:=[2]) func12 DG rfl rfl rfl ?_;refine Kq ?_;refine uW [] F0 ?_;refine Ko ?_;refine uZ [0,3] [(16000,16000),(16001,16001),(16002,16002),(16003,16003),(16004,16004)] ?_;change SW _ _ _ ⟨90,[(0,.p (zF l)),(3,.ptr 16000 0)],engG X0 16000 16001 16002 16003 16004⟩;refine uR ?_;refine V4 ?_;refine Ko ?_;refine uC (fun hc=>?_) (fun hc=>?_)
 · cases hc
 refine Kv ?_;refine uO HL ?_;refine Ko ?_;rw[lL];refine uB ?_;refine MJ ?_;refine qG (fun m s=>∃(k:Nat) (X:Eng),k<=L.length/\m=L.length-k/\X.Iv k/\s=⟨90,[(3,.ptr 16000 0),(21,.p (zF L)),(22,.p (pI (L.length:Int))),(23,.p (pI (k:Int)))],engG X 16000 16001 16002 16003 16004⟩) L.length ⟨0,X0,Yl _,rfl,E0,rfl⟩ ?_;clear E0 F0
 rintro m s ⟨k,X,hk,rfl,hX,rfl⟩;refine uA ?_;by_cases hlt:k<L.length;rotate_left
 · refine UG ?_;refine uC (fun hc=>?_) (fun hc=>?_)
   · cases hc
   refine qC ?_;refine uR ?_;refine uK HW ?_;exact Lo
 refine UH ?_;refine uC (fun hc=>?_) (fun hc=>?_);rotate_left
 · cases hc
 refine Lh ?_;obtain⟨q,hq⟩:∃q,q=L[k]:=⟨_,rfl⟩;have hqs:q.size<=4096:=by rw[hq];exact hLs _ (Yn hlt)
 have LX:=lineS_h X (hX.in_.ok DP) q hqs;have hX':(zy X q.data.toList).1.Iv (k+1):=hX.line hqs;refine uR ?_;refine GI ?_;rw[qw hlt,<-hq];refine Ko ?_;have HG:=log_h X ET hX.logs;have HG':=log_h (zy X q.data.toList).1 (by have:=hX'.in_.log;omega) hX'.logs;have HP:=parseQ_h q hqs;have DL:=fun o ho hl=>decided_law (x:=X) (q:=q.data.toList) (o:=o) ho hl
 have hOk:=fun o ho=>line_ok (q:=q) hqs (o:=o) ho
 have hn':=hX'.in_.log;have hn:=hX.in_.log;generalize zy X q.data.toList=D at*;generalize qaa q.data.toList=O at*;have lG:(X.log.map Dcd.pv).length=X.log.length:=Yb _;have lG':(D.1.log.map Dcd.pv).length=D.1.log.length:=Yb _;refine uR ?_;refine Ub ?_;refine uS ?_;refine MR ?_;refine Ko ?_;rw[lG];refine uZ [3,6,7,8,21,22,23] [(7,7),(16000,16000),(16001,16001),(16002,16002),(16003,16003),(16004,16004)] ?_;change SW _ _ _ ⟨90,[(3,.ptr 16000 0),(6,.p (pS q)),(7,.ptr 7 0),(8,.p (pI (X.log.length:Int))),(21,.p (zF L)),(22,.p (pI (L.length:Int))),(23,.p (pI (k:Int)))],(7,.cells (X.sto.pv.map .p))::engG X 16000 16001 16002 16003 16004⟩;refine uR ?_;refine VX ?_;refine Ko ?_;refine uZ [3,6,7,8,9,21,22,23] [(7,7),(16000,16000),(16001,16001),(16002,16002),(35000,16003),(35001,16004)] ?_;change SW _ _ _ ⟨90,[(3,.ptr 16000 0),(6,.p (pS q)),(7,.ptr 7 0),(8,.p (pI (X.log.length:Int))),(9,.p (pS D.2)),(21,.p (zF L)),(22,.p (pI (L.length:Int))),(23,.p (pI (k:Int)))],(7,.cells (X.sto.pv.map .p))::engG D.1 16000 16001 16002 16003 16004⟩;refine uR ?_;refine uK HP ?_;refine Ko ?_;cases O with
 |none=>
  refine uA ?_;refine uC (fun hc=>?_) (fun hc=>?_);rotate_left
  · cases hc
  refine Ls ?_;refine XV ?_;omega
 |some o=>
  refine GA ?_;change SW _ _ _ ⟨90,[(3,.ptr 16000 0),(6,.p (pS q)),(7,.ptr 7 0),(8,.p (pI (X.log.length:Int))),(9,.p (pS D.2)),(10,.ptr 10 0),(11,.p (pB true)),(21,.p (zF L)),(22,.p (pI (L.length:Int))),(23,.p (pI (k:Int)))],(7,.cells (X.sto.pv.map .p))::(10,.cells (o.pv.map .p))::engG D.1 16000 16001 16002 16003 16004⟩;refine uR ?_;refine Uk ?_;refine uS ?_;rw[lG',qq (n:=100000) DP DP];refine qe ?_;by_cases hgl:D.1.log.length=X.log.length+1;rotate_left
  · rw[show(((D.1.log.length:Nat):Int)!=((X.log.length+1:Nat):Int))=true by simp;omega];refine uC (fun hc=>?_) (fun hc=>?_);rotate_left
    · cases hc
    refine Ls ?_;refine XV ?_;omega
  rw[show(((D.1.log.length:Nat):Int)!=((X.log.length+1:Nat):Int))=false by simp;omega];refine uC (fun hc=>?_) (fun hc=>?_)
  · cases hc
  refine qh ?_;have ho:o.Ok:=hOk o rfl;have HA:=askS_h hX o;have HE:=evS_h hX ho;have hm:=rs_mem X.sto o;have hD:=DL o rfl hgl;have HN:=mkName_h (rsC X.sto o).m hm;rw[qY]at HE;generalize rsC X.sto o=r at*;generalize askC X.sto o=g at*;refine GA ?_;change SW _ _ _ ⟨90,[(3,.ptr 16000 0),(6,.p (pS q)),(7,.ptr 7 0),(8,.p (pI (X.log.length:Int))),(9,.p (pS D.2)),(10,.ptr 10 0),(11,.p (pB true)),(21,.p (zF L)),(22,.p (pI (L.length:Int))),(23,.p (pI (k:Int)))],(7,.cells (X.sto.pv.map .p))::(10,.cells (o.pv.map .p))::engG D.1 16000 16001 16002 16003 16004⟩;refine Ry ?_;refine qi (i:=0) (K:=[12]) DG DG rfl rfl (qf qc rfl De) rfl ?_;refine qi (i:=1) (K:=[12]) DG DG rfl rfl (qf qc rfl De) rfl ?_;refine qi (i:=2) (K:=[12]) DG DG rfl rfl (qf qc rfl De) rfl ?_;refine qi (i:=3) (K:=[12]) DG DG rfl rfl (qf qc rfl De) rfl ?_;refine zd 4 9 DG ?_ ?_;refine UC ?_;refine zd 5 9 DG ?_ ?_;refine VR ?_;refine U5 ?_;refine U6 ?_;refine U7 ?_;refine Uc ?_;refine Xy ?_;refine K6 ?_;refine U1 ?_;refine XH ?_;refine VT ?_;refine ?fk11_163;rotate_left;refine Xy ?_;refine Vo ?_;refine VR ?_;refine U5 ?_;refine U6 ?_;refine U7 ?_;refine K6 ?_;refine U1 ?_;refine XH ?_;refine VT ?_;exact ?fk11_163
  refine Xy ?_;refine Gy ?_;refine UC ?_;refine Vo ?_;refine VR ?_;refine U5 ?_;refine U6 ?_;refine U7 ?_;refine K6 ?_;refine U1 ?_;refine XH ?_;refine VT ?_;exact ?fk11_163
  change SW _ _ _ ⟨90,[(3,.ptr 16000 0),(6,.p (pS q)),(7,.ptr 7 0),(8,.p (pI (X.log.length:Int))),(9,.p (pS D.2)),(10,.ptr 10 0),(11,.p (pB true)),(12,.ptr 12 0),(13,.p (pI 0)),(21,.p (zF L)),(22,.p (pI (L.length:Int))),(23,.p (pI (k:Int)))],(7,.cells (X.sto.pv.map .p))::(10,.cells (o.pv.map .p))::(12,.cells [.p (mkP r.m),.p (zh r.obls)])::engG D.1 16000 16001 16002 16003 16004⟩;refine uA ?_;refine uC (fun hc=>?_) (fun hc=>?_)
  · cases hc
  refine qh ?_;refine Kz ?_;rcases hD with⟨hmm,hA⟩|⟨hmm,hA⟩
  · refine uC (fun hp=>?_) (fun hp=>?_);rotate_left
    · exfalso;have h2:=of_decide_eq_false ((zt hm mks_p).symm.trans hp);exact h2 hmm
    obtain⟨h2,h3⟩:=ok_pre hA;refine uR ?_;rw[show decide ((D.2.size:Int)<2)=false by rw[Yh];omega];refine uS ?_;refine qm qc rfl rfl (by show(0:Int)<=0/\(0:Int)<=2/\(2:Int)<=(D.2.size:Int);omega) rfl ?_;have hx:D.2.extract (Int.toNat 0) (Int.toNat 2)=D.2.extract 0 2:=rfl;rw[hx];rcases h3 with h3|h3
    · rw[h3];refine uS ?_;rw[show(wOk.toList==(⟨#[111,107]⟩:DT).toList)=true by rw[beqB];exact Yz rfl];refine Ko ?_;refine uC (fun hc=>?_) (fun hc=>?_)
      · cases hc
      refine Kw ?_;refine XV ?_;omega
    · have hy:D.2.extract 0 2=⟨#[104,105]⟩:=by rw[h3];decide
      rw[hy];refine uS ?_;rw[show((⟨#[104,105]⟩:DT).toList==(⟨#[111,107]⟩:DT).toList)=false by rw[beqB];decide];refine uS ?_;rw[show(D.2.toList==(⟨#[104,105,100,100,101,110]⟩:DT).toList)=true by rw[beqB];exact Yz h3];refine Ko ?_;refine uC (fun hc=>?_) (fun hc=>?_)
      · cases hc
      refine Kw ?_;refine XV ?_;omega
  · refine uC (fun hp=>?_) (fun hp=>?_)
    · exfalso;have h2:=YM ((zt hm mks_p).symm.trans hp);exact hmm h2
    refine uR ?_;rcases hA with hA|hA
    · rw[show(D.2.toList==(⟨#[103,108,97,115,115]⟩:DT).toList)=true by rw[beqB];exact Yz hA];refine Ko ?_;refine uC (fun hc=>?_) (fun hc=>?_)
      · cases hc
      refine Kw ?_;refine XV ?_;omega
    · have hng:D.2≠jw:=fun h=>by
       have h4:=ba_ext (hA.symm.trans h);rw[ba_head]at h4;cases h4
      rw[show(D.2.toList==(⟨#[103,108,97,115,115]⟩:DT).toList)=false by rw[beqB];exact YB hng];refine uS ?_;refine uK HN ?_;refine qm qc rfl rfl (by refine cat_ok ?_;have:=mkN_size r.m;rw[show(⟨#[100,101,110,105,101,100,32]⟩:DT).size=7 from rfl];omega) rfl ?_;refine uS ?_;rw[show(D.2.toList==((⟨#[100,101,110,105,101,100,32]⟩:DT)++mkN r.m).toList)=true by rw[beqB];exact Yz hA];refine Ko ?_;refine uC (fun hc=>?_) (fun hc=>?_)
      · cases hc
      refine Kw ?_;refine XV ?_;omega
end Go.Proofs.YtblgnefkgkchhaaGreatDoor
