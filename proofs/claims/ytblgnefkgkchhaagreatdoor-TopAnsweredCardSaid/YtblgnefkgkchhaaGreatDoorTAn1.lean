/- Part 31. -/
import Derived.Test.YtblgnefkgkchhaaGreatDoorPk10
set_option maxHeartbeats 4000000
set_option linter.unusedSimpArgs false
set_option linter.unusedVariables false
namespace Go.Proofs.YtblgnefkgkchhaaGreatDoor
open _root_.Go.Proofs.Tryz
open Go.RowKit
theorem topAnswered_h (l:List DT) (hl:l.length<=reachBytes):Holds prog 11 [zF l] (.p (pB true)) []:=by
 have HW:=awake_h;have F0:=fresh_h 200000 DO;have E0:(newE 200000).Iv 0:=new_iv;have HL:=lines_h l 40 DP hl;have hLs:∀q∈jc l 40,q.size<=4096:=fun q hq=>qai hq
 have hLn:=qaO l 40;generalize jc l 40=L at*;generalize newE 200000=X0 at*;have lL:(L.map fun s=>[pS s]).length=L.length:=Yb _;refine Vd ?_;show HoldsW _ _ [.p (zF l)] [] _ _;refine qE (ts:=[2]) func11 DG rfl rfl rfl ?_;refine Kq ?_;refine uW [] F0 ?_;refine Ko ?_;refine uZ [0,3] [(17000,16000),(17001,16001),(17002,16002),(17003,16003),(17004,16004)] ?_;change SW _ _ _ ⟨117,[(0,.p (zF l)),(3,.ptr 16000 0)],engG X0 16000 16001 16002 16003 16004⟩;refine uR ?_;refine V4 ?_;refine Ko ?_;refine uC (fun hc=>?_) (fun hc=>?_)
 · cases hc
 refine Kv ?_;refine uO HL ?_;refine Ko ?_;rw[lL];refine uB ?_;refine uZ [3,22,23,24] [(16000,16000),(16001,16001),(16002,16002),(16003,16003),(16004,16004)] ?_;refine qG (fun m s=>∃(k:Nat) (X:Eng),k<=L.length/\m=L.length-k/\X.Iv k/\s=⟨117,[(3,.ptr 16000 0),(22,.p (zF L)),(23,.p (pI (L.length:Int))),(24,.p (pI (k:Int)))],engG X 16000 16001 16002 16003 16004⟩) L.length ⟨0,X0,Yl _,rfl,E0,rfl⟩ ?_;clear E0 F0
 rintro m s ⟨k,X,hk,rfl,hX,rfl⟩;refine uA ?_;by_cases hlt:k<L.length;rotate_left
 · refine UG ?_;refine uC (fun hc=>?_) (fun hc=>?_)
   · cases hc
   refine qC ?_;refine uR ?_;refine uK HW ?_;exact Lo
 refine UH ?_;refine uC (fun hc=>?_) (fun hc=>?_);rotate_left
 · cases hc
 refine Lh ?_;obtain⟨q,hq⟩:∃q,q=L[k]:=⟨_,rfl⟩;have hqs:q.size<=4096:=by rw[hq];exact hLs _ (Yn hlt)
 have LX:=lineS_h X (hX.in_.ok DP) q hqs;have hX':(zy X q.data.toList).1.Iv (k+1):=hX.line hqs;refine uR ?_;refine GI ?_;rw[qw hlt,<-hq];refine Ko ?_;have HG:=log_h X ET hX.logs;have HG':=log_h (zy X q.data.toList).1 (by have:=hX'.in_.log;omega) hX'.logs;have HC':=chainX_h (zy X q.data.toList).1;have HP:=parseQ_h q hqs;have AL:=answered_law X q.data.toList;generalize zy X q.data.toList=D at*;generalize qaa q.data.toList=O at*;have lG:(X.log.map Dcd.pv).length=X.log.length:=Yb _;have lG':(D.1.log.map Dcd.pv).length=D.1.log.length:=Yb _;refine uR ?_;refine MR ?_;refine uS ?_;refine R3 ?_;refine Ko ?_;rw[lG];refine uR ?_;refine VX ?_;refine Ko ?_;refine uZ [3,6,7,8,9,22,23,24] [(16000,16000),(16001,16001),(16002,16002),(36000,16003),(36001,16004)] ?_;change SW _ _ _ ⟨117,[(3,.ptr 16000 0),(6,.p (pS q)),(7,.p (pI (X.log.length:Int))),(8,.p (pW64 X.chain)),(9,.p (pS D.2)),(22,.p (zF L)),(23,.p (pI (L.length:Int))),(24,.p (pI (k:Int)))],engG D.1 16000 16001 16002 16003 16004⟩;refine uR ?_;refine Uk ?_;refine Ko ?_;rw[lG'];refine uR ?_;refine uK HP ?_;refine Ko ?_;refine uZ [3,7,8,9,10,11,12,22,23,24] [(11,11),(16000,16000),(16001,16001),(16002,16002),(16003,16003),(16004,16004)] ?_;change SW _ _ _ ⟨117,[(3,.ptr 16000 0),(7,.p (pI (X.log.length:Int))),(8,.p (pW64 X.chain)),(9,.p (pS D.2)),(10,.p (pI (D.1.log.length:Int))),(11,.ptr 11 0),(12,.p (pB O.isSome)),(22,.p (zF L)),(23,.p (pI (L.length:Int))),(24,.p (pI (k:Int)))],(11,.cells ((O.getD noOp).pv.map .p))::engG D.1 16000 16001 16002 16003 16004⟩;(repeat refine qA ?_)
 refine SW.mono (Q:=fun e st=>e=.normal/\Wk st ⟨117,[(3,.ptr 16000 0),(7,.p (pI (X.log.length:Int))),(8,.p (pW64 X.chain)),(9,.p (pS D.2)),(10,.p (pI (D.1.log.length:Int))),(11,.ptr 11 0),(12,.p (pB O.isSome)),(13,.p (pB (qbm D.2))),(22,.p (zF L)),(23,.p (pI (L.length:Int))),(24,.p (pI (k:Int)))],(11,.cells ((O.getD noOp).pv.map .p))::engG D.1 16000 16001 16002 16003 16004⟩) ?_ ?_
 · refine uR ?_;by_cases h1:D.2=wWhat
   · rw[show(D.2.toList==(⟨#[119,104,97,116]⟩:DT).toList)=true by rw[beqB];exact Yz h1];refine Ko ?_;rw[show qbm D.2=true by unfold qbm;rw[Yz h1];rfl];exact V6
   rw[show(D.2.toList==(⟨#[119,104,97,116]⟩:DT).toList)=false by rw[beqB];exact YB h1];refine uS ?_;by_cases h2:6<D.2.size;rotate_left
   · rw[show decide ((D.2.size:Int)>6)=false by rw[Yh];omega];refine Ko ?_;rw[show qbm D.2=false by unfold qbm;rw[YB h1,YB h2];rfl];exact V6
   rw[show decide ((D.2.size:Int)>6)=true by rw[Yf];omega];refine uS ?_;refine qm qc rfl rfl (by show(0:Int)<=0/\(0:Int)<=6/\(6:Int)<=(D.2.size:Int);omega) rfl ?_;rw[show D.2.extract (Int.toNat 0) (Int.toNat 6)=D.2.extract 0 6 from rfl];refine uS ?_;rw[beqB];refine Ko ?_;rw[show qbm D.2=decide (D.2.extract 0 6=⟨#[101,114,114,111,114,32]⟩)by unfold qbm;rw[YB h1,Yz h2];rfl];exact V6
 rintro e st ⟨rfl,hw⟩;refine V3 ?_;clear hw
 rcases AL with⟨hD,hT⟩|⟨o,hO,hT,d,hd,hlog⟩
 · have e1:D.1.log.length=X.log.length:=by rw[hD]
   have e2:D.1.chain=X.chain:=by rw[hD]
   refine uR ?_;rw[show((D.1.log.length:Int)!=(X.log.length:Int))=false by simp[e1]];refine uS ?_;rw[show((D.1.log.length:Int)==(X.log.length:Int))=true by simp[e1]];refine uS ?_;refine uW [(16000,1000000),(16001,1000001),(16002,1000002),(16003,1000003),(16004,1000004)] HC' ?_;refine uS ?_;rw[show((D.1.chain:Int)!=(X.chain:Int))=false by simp[e2]];refine Ko ?_;refine uC (fun hc=>?_) (fun hc=>?_)
   · cases hc
   refine Kv ?_;refine Uk ?_;refine Ko ?_;refine R6 ?_;rw[qq (n:=100000) ET DP,show((D.1.log.length:Int)==((X.log.length+1:Nat):Int))=false by rw[beq_eq_false_iff_ne];omega];refine KG ?_;refine uC (fun hc=>?_) (fun hc=>?_)
   · cases hc
   refine Kv ?_;rw[show((D.1.log.length:Int)==(X.log.length:Int))=true by simp[e1]];refine uS ?_;cases hb:qbm D.2 with
   |true=>
    refine Ko ?_;refine uC (fun hc=>?_) (fun hc=>?_)
    · cases hc
    refine Kw ?_;refine VM ?_;omega
   |false=>
    have h3:D.2=wNA:=hT.resolve_left (by rw[hb];decide);refine uS ?_;rw[show(D.2.toList==(⟨#[100,101,110,105,101,100,32,78,111,116,65,112,112,108,105,99,97,98,108,101]⟩:DT).toList)=true by rw[beqB];exact Yz h3];refine Ko ?_;refine uC (fun hc=>?_) (fun hc=>?_)
    · cases hc
    refine Kw ?_;refine VM ?_;omega
 · subst hO;rw[hT];have e1:D.1.log.length=X.log.length+1:=by rw[hlog,Ya,YF]
   have hn:X.log.length<100000:=by have:=hX.in_.log;omega
   refine uR ?_;rw[show((D.1.log.length:Int)!=(X.log.length:Int))=true by simp[e1];omega];refine uS ?_;rw[qq hn DP,show((D.1.log.length:Int)!=((X.log.length+1:Nat):Int))=false by simp[e1]];refine uS ?_;rw[show((D.1.log.length:Int)==(X.log.length:Int))=false by rw[beq_eq_false_iff_ne];omega];refine Ko ?_;refine uC (fun hc=>?_) (fun hc=>?_)
   · cases hc
   refine Kv ?_;refine Uk ?_;refine Ko ?_;refine uZ [3,7,9,10,11,12,13,14,22,23,24] [(11,11),(16000,16000),(16001,16001),(16002,16002),(16003,16003),(16004,16004)] ?_;change SW _ _ _ ⟨117,[(3,.ptr 16000 0),(7,.p (pI (X.log.length:Int))),(9,.p (pS D.2)),(10,.p (pI (D.1.log.length:Int))),(11,.ptr 11 0),(12,.p (pB true)),(13,.p (pB false)),(14,.p (.sl 16 (D.1.log.map Dcd.pv))),(22,.p (zF L)),(23,.p (pI (L.length:Int))),(24,.p (pI (k:Int)))],(11,.cells (o.pv.map .p))::engG D.1 16000 16001 16002 16003 16004⟩;refine R6 ?_;rw[qq hn DP,show((D.1.log.length:Int)==((X.log.length+1:Nat):Int))=true by simp[e1]];refine uT ?_;rw[lG',show((D.1.log.length:Int)!=(D.1.log.length:Int))=false by simp];refine uT ?_;have hnl:X.log.length<D.1.log.length:=by omega
   refine qJ qc rfl rfl rfl (by rw[lG'];omega) rfl ?_;rw[qw hnl,show D.1.log[X.log.length]=d by simp[hlog]];refine uT ?_;refine LF ?_;refine uC (fun hc=>?_) (fun hc=>?_)
   · exfalso;subst hd;simp at hc
   refine Kv ?_;rw[show((D.1.log.length:Int)==(X.log.length:Int))=false by rw[beq_eq_false_iff_ne];omega];refine Ko ?_;refine uC (fun hc=>?_) (fun hc=>?_)
   · cases hc
   refine Kw ?_;refine VM ?_;omega
end Go.Proofs.YtblgnefkgkchhaaGreatDoor
