/- Part 11. -/
import Derived.Test.YtblgnefkgkchhaaGreatDoorPk9
set_option maxHeartbeats 4000000
set_option linter.unusedSimpArgs false
set_option linter.unusedVariables false
namespace Go.Proofs.YtblgnefkgkchhaaGreatDoor
open _root_.Go.Proofs.Tryz
open Go.RowKit
theorem topTwins_h (l other:List DT) (hl:l.length<=reachBytes) (ho:other.length<=reachBytes):Holds prog 9 [zF l,zF other] (.p (pB true)) []:=by
 have F0:=fresh_h 200000 DO;have E0:(newE 200000).In 0:=newE_in DO;have HL:=lines_h l 30 DP hl;have HO:=lines_h other 30 DP ho;have hLs:∀q∈jc l 30,q.size<=4096:=fun q hq=>qai hq
 have hOs:∀q∈jc other 30,q.size<=4096:=fun q hq=>qai hq
 have hL30:=qaO l 30;generalize jc l 30=L at*;generalize jc other 30=O at*;generalize newE 200000=X0 at*;have lL:(L.map fun s=>[pS s]).length=L.length:=Yb _;have lO:(O.map fun s=>[pS s]).length=O.length:=Yb _;refine Vd ?_;show HoldsW _ _ [.p (zF l),.p (zF other)] [] _ _;refine qE (ts:=[4]) func9 DG rfl rfl rfl ?_;refine Kq ?_;refine uW [] F0 ?_;refine Kt ?_;refine uW [] F0 ?_;refine Kt ?_;refine uW [] F0 ?_;refine Ko ?_;refine uZ [0,1,5,7,9] [(16000,16000),(16001,16001),(16002,16002),(16003,16003),(16004,16004),(20000,20000),(20001,20001),(20002,20002),(20003,20003),(20004,20004),(24000,24000),(24001,24001),(24002,24002),(24003,24003),(24004,24004)] ?_;change SW _ _ _ ⟨79,[(0,.p (zF l)),(1,.p (zF other)),(5,.ptr 16000 0),(7,.ptr 20000 0),(9,.ptr 24000 0)],engG X0 16000 16001 16002 16003 16004++(engG X0 20000 20001 20002 20003 20004++engG X0 24000 24001 24002 24003 24004)⟩;refine uR ?_;refine V4 ?_;refine uS ?_;refine V4 ?_;refine uS ?_;refine V4 ?_;refine Ko ?_;refine uC (fun hc=>?_) (fun hc=>?_)
 · cases hc
 refine Kv ?_;refine KW ?_;refine uO HL ?_;refine Ko ?_;rw[lL];refine uB ?_;refine uZ [5,7,9,11,39,40,41] [(16000,16000),(16001,16001),(16002,16002),(16003,16003),(16004,16004),(20000,20000),(20001,20001),(20002,20002),(20003,20003),(20004,20004),(24000,24000),(24001,24001),(24002,24002),(24003,24003),(24004,24004)] ?_;refine qG (fun m s=>∃(k:Nat) (X Z:Eng),k<=L.length/\m=L.length-k/\X.In k/\Z.In k/\s=⟨79,[(5,.ptr 16000 0),(7,.ptr 20000 0),(9,.ptr 24000 0),(11,.p (zF O)),(39,.p (zF L)),(40,.p (pI (L.length:Int))),(41,.p (pI (k:Int)))],engG X 16000 16001 16002 16003 16004++(engG X 20000 20001 20002 20003 20004++engG Z 24000 24001 24002 24003 24004)⟩) L.length ⟨0,X0,X0,Yl _,rfl,E0,E0,rfl⟩ ?_;clear E0 F0
 rintro m s ⟨k,X,Z,hk,rfl,hX,hZ,rfl⟩;refine uA ?_;by_cases hlt:k<L.length
 · refine UH ?_;refine uC (fun hc=>?_) (fun hc=>?_);rotate_left
   · cases hc
   refine Lh ?_;obtain⟨q,hq⟩:∃q,q=L[k]:=⟨_,rfl⟩;have hqs:q.size<=4096:=by rw[hq];exact hLs _ (Yn hlt)
   have LX:=lineS_h X (hX.ok DP) q hqs;have hX':(zy X q.data.toList).1.In (k+1):=in_line hX hqs;generalize zy X q.data.toList=D at*;refine uR ?_;refine GI ?_;rw[qw hlt,<-hq];refine Kt ?_;rw[lO];refine qe ?_;(repeat refine qA ?_)
   refine SW.mono (Q:=fun e st=>∃Z':Eng,Z'.In (k+1)/\e=.normal/\Wk st ⟨79,[(5,.ptr 16000 0),(7,.ptr 20000 0),(9,.ptr 24000 0),(11,.p (zF O)),(13,.p (pS q)),(39,.p (zF L)),(40,.p (pI (L.length:Int))),(41,.p (pI (k:Int)))],engG X 16000 16001 16002 16003 16004++(engG X 20000 20001 20002 20003 20004++engG Z' 24000 24001 24002 24003 24004)⟩) ?_ ?_
   · by_cases h2:k<O.length
     · rw[show decide ((k:Int)<(O.length:Int))=true by rw[Yf];omega];refine uC (fun hc2=>?_) (fun hc2=>?_);rotate_left
       · cases hc2
       have hos:O[k].size<=4096:=hOs _ (Yn h2);have LZ:=lineS_h Z (hZ.ok DP) O[k] hos;have hZ':(zy Z O[k].data.toList).1.In (k+1):=in_line hZ hos;generalize zy Z O[k].data.toList=DZ at*;refine uR ?_;refine qm qc rfl rfl (by rw[lO];omega) rfl ?_;rw[qw h2];refine uS ?_;refine uW [(24000,1000000),(24001,1000001),(24002,1000002),(24003,1000003),(24004,1000004)] LZ ?_;refine Ko ?_;exact⟨DZ.1,hZ',rfl,qj [5,7,9,11,13,39,40,41] [(16000,16000),(16001,16001),(16002,16002),(16003,16003),(16004,16004),(20000,20000),(20001,20001),(20002,20002),(20003,20003),(20004,20004),(24000,24000),(24001,24001),(24002,24002),(56000,24003),(56001,24004)] rfl rfl⟩
     · rw[show decide ((k:Int)<(O.length:Int))=false by rw[Yh];omega];refine uC (fun hc2=>?_) (fun hc2=>?_)
       · cases hc2
       refine qh ?_;exact⟨Z,hZ.more DP,rfl,qj [5,7,9,11,13,39,40,41] [(16000,16000),(16001,16001),(16002,16002),(16003,16003),(16004,16004),(20000,20000),(20001,20001),(20002,20002),(20003,20003),(20004,20004),(24000,24000),(24001,24001),(24002,24002),(24003,24003),(24004,24004)] rfl rfl⟩
   rintro e st ⟨Z',hZ',rfl,hw⟩;refine V3 ?_;clear hw
   refine uR ?_;refine VX ?_;refine uS ?_;refine uW [(20000,1000000),(20001,1000001),(20002,1000002),(20003,1000003),(20004,1000004)] LX ?_;refine uS ?_;rw[show(D.2.toList==D.2.toList)=true by simp];refine qe ?_;refine uC (fun hc3=>?_) (fun hc3=>?_)
   · cases hc3
   refine Kw ?_;refine⟨_,_,?_,qj [5,7,9,11,39,40,41] [(16000,16000),(16001,16001),(16002,16002),(59000,16003),(59001,16004),(20000,20000),(20001,20001),(20002,20002),(62000,20003),(62001,20004),(24000,24000),(24001,24001),(24002,24002),(24003,24003),(24004,24004)] rfl rfl,k+1,D.1,Z',hlt,rfl,hX',hZ',by rw[qq hlt DP];rfl⟩;omega
 refine UG ?_;refine uC (fun hc=>?_) (fun hc=>?_)
 · cases hc
 refine qC ?_;have HA:=alike_h X.sto hX.sto;have HW:=awake_h;refine uR ?_;refine Ub ?_;refine uS ?_;refine uW [(20000,1000000),(20001,1000001),(20002,1000002),(20003,1000003),(20004,1000004)] (store_h X) ?_;refine uS ?_;refine uK HA ?_;refine uS ?_;refine R3 ?_;refine uS ?_;refine uW [(20000,1000000),(20001,1000001),(20002,1000002),(20003,1000003),(20004,1000004)] (chainX_h X) ?_;refine uS ?_;rw[show((X.chain:Int)==(X.chain:Int))=true by simp];refine uS ?_;refine uK HW ?_;exact Lo
end Go.Proofs.YtblgnefkgkchhaaGreatDoor
