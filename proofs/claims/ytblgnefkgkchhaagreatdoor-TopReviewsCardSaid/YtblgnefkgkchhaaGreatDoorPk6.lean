/- Part 6. -/
import Derived.Shelf.RegionOpenPlain
import Derived.Test.YtblgnefkgkchhaaGreatDoorPk5
set_option maxHeartbeats 4000000
set_option maxRecDepth 100000
set_option linter.unusedSimpArgs false
set_option linter.unusedVariables false
namespace Go.Proofs.YtblgnefkgkchhaaGreatDoor
open _root_.Go.Proofs.Tryz
section
open Go.RowKit
theorem slPre_h (l:Bs) (hl:l.length<=1000000):Holds prog 92 [pL l,pS ⟨#[33]⟩] (.p (pB (decide (l.head?=some 33)))) []:=by
 cases l with
 |nil=>
  refine qo (ts:=[4]) func92 DG rfl rfl rfl ?_;refine Kq ?_;rw[show decide ((((⟨⟨[]⟩⟩:DT).size:Nat):Int)>=(((⟨#[33]⟩:DT).size:Nat):Int))=false by decide];exact Ek
 |cons c r=>
  have ls:(⟨⟨c::r⟩⟩:DT).size=(c::r).length:=rfl;refine qo (ts:=[4]) func92 DG rfl rfl rfl ?_;refine Kq ?_;rw[show decide ((((⟨⟨c::r⟩⟩:DT).size:Nat):Int)>=(((⟨#[33]⟩:DT).size:Nat):Int))=true by rw[Yf,ls,show(⟨#[33]⟩:DT).size=1 from rfl,Yg];omega];refine uS ?_;refine qm qc rfl rfl (by rw[ls,show(⟨#[33]⟩:DT).size=1 from rfl,Yg];omega) rfl ?_;refine Ks ?_;refine VI ?_;rw[beqB,show Int.toNat 0=0 from rfl,show(⟨#[33]⟩:DT).size=1 from rfl,show Int.toNat ((1:Nat):Int)=1 from rfl,extW_to];simp
theorem hasPre_h (l:Bs) (hl:l.length<=1000000):Holds prog 43 [pL l,pS ⟨#[33]⟩] (.p (pB (decide (l.head?=some 33)))) []:=by
 have H:=slPre_h l hl;refine qo (ts:=[4]) func43 DG rfl rfl rfl ?_;refine LC ?_;exact Ek
theorem decW_take {r:Bs} {k:Nat} (h:k<r.length):decV (r.take (k+1))=10*decV (r.take k)+(r[k].toNat-48):=by
 rw[Ym h,decV_snoc]
theorem decV_small (l:Bs) (h:l.length<=9) (hd:l.all za=true):decV l<9223372036854775808:=by
 have key:∀k,k<=l.length->decV (l.take k)<10^k:=fun k=>by
  induction k with
  |zero=>intro _;show 0<1;omega
  |succ k ih=>
   intro hk;have h1:=ih DP;have h2:=isDigB_iff.1 (YE.1 hd l[k] (Yn DP));rw[decW_take DP,Nat.pow_succ];omega
 have h1:=key l.length (Yk _);rw[Yu]at h1;have h2:10^l.length<=10^9:=Nat.pow_le_pow_right DP h;omega
theorem snumber_h (l:Bs) (hl:l.length<=1000000):Holds prog 46 [pL l] (.p (pI (numW l))) []:=by
 have ls:(⟨⟨l⟩⟩:DT).size=l.length:=rfl;cases l with
 |nil=>
  refine qo (ts:=[2]) func46 DG rfl rfl rfl ?_;refine Kq ?_;rw[show((⟨⟨[]⟩⟩:DT).toList==(⟨#[]⟩:DT).toList)=true by rw[beqB];simp];refine Ko ?_;refine uC (fun hc=>?_) (fun hc=>?_);rotate_left
  · cases hc
  exact KK
 |cons c r=>
  refine qo (ts:=[2]) func46 DG rfl rfl rfl ?_;refine Kq ?_;rw[show((⟨⟨c::r⟩⟩:DT).toList==(⟨#[]⟩:DT).toList)=false by rw[beqB];simp];refine uS ?_;by_cases h9:9<(c::r).length
  · rw[show decide ((((⟨⟨c::r⟩⟩:DT).size:Nat):Int)>9)=true by rw[Yf,ls];omega];refine Ko ?_;refine uC (fun hc=>?_) (fun hc=>?_);rotate_left
    · cases hc
    refine Kp ?_;exact qZ rfl (by unfold numW;simp only;rw[Yi (Or.inl h9)])
  · rw[show decide ((((⟨⟨c::r⟩⟩:DT).size:Nat):Int)>9)=false by rw[Yh,ls];omega];refine uS ?_;refine qm qc rfl rfl (by rw[ls];simp only[Yg];omega) rfl ?_;rw[show byteAt ⟨⟨c::r⟩⟩ (Int.toNat 0)=(c.toNat:Int)from byteAt_l DQ];refine uS ?_;by_cases h48:c=48
    · rw[show((c.toNat:Int)==48)=true by rw[h48];rfl];refine qe ?_;refine uC (fun hc=>?_) (fun hc=>?_);rotate_left
      · cases hc
      refine Kp ?_;exact qZ rfl (by unfold numW;simp only;rw[Yi (Or.inr h48)])
    · have hne:((c.toNat:Int)==48)=false:=by
       rw[beq_eq_false_iff_ne];intro h;exact h48 (UInt8.toNat_inj.1 (by show c.toNat=48;omega))
      rw[hne];refine qe ?_;refine uC (fun hc=>?_) (fun hc=>?_)
      · cases hc
      refine qh ?_;have hN:numW (c::r)=if(c::r).all za then(decV (c::r):Int)else 0:=by unfold numW;simp only;rw[Yc (fun h=>h.elim h9 h48)]
      rw[hN];have h0:(c::r)≠[]:=by simp
      generalize c::r=l at*;refine KJ ?_;refine uZ [0,19,20] [] ?_;refine qG (fun m st=>∃k:Nat,k<=l.length/\m=l.length-k/\(l.take k).all za=true/\st=⟨40,[(0,.p (pL l)),(19,.p (pI (l.length:Int))),(20,.p (pI (k:Int)))],[]⟩) l.length ⟨0,Yl _,rfl,rfl,rfl⟩ ?_;rintro m st ⟨k,hk,rfl,hd,rfl⟩;refine uA ?_;by_cases hlt:k<l.length
      · refine ML ?_;refine uC (fun hc=>?_) (fun hc=>?_);rotate_left
        · cases hc
        refine Lh ?_;refine Kq ?_;refine XS ?_;rw[jJ hlt];refine uS ?_;have hnd:za l[k]=false->l.all za=false:=fun h=>by
         rw[List.all_eq_false];exact⟨l[k],Yn hlt,by rw[h];exact Bool.false_ne_true⟩
        by_cases hlo:l[k].toNat<48
        · rw[show decide ((l[k].toNat:Int)<48)=true by rw[Yf];omega];refine Ko ?_;refine uC (fun hc=>?_) (fun hc=>?_);rotate_left
          · cases hc
          refine Kp ?_;exact qZ rfl EF
        · rw[show decide ((l[k].toNat:Int)<48)=false by rw[Yh];omega];refine LP ?_;rw[jJ hlt];refine uS ?_;by_cases hhi:57<l[k].toNat
          · rw[show decide ((l[k].toNat:Int)>57)=true by rw[Yf];omega];refine qe ?_;refine uC (fun hc=>?_) (fun hc=>?_);rotate_left
            · cases hc
            refine Kp ?_;exact qZ rfl EF
          · rw[show decide ((l[k].toNat:Int)>57)=false by rw[Yh];omega];refine qe ?_;refine uC (fun hc=>?_) (fun hc=>?_)
            · cases hc
            refine Kw ?_;refine⟨_,_,?_,qj [0,19,20] [] rfl rfl,k+1,hlt,rfl,?_,by rw[qq hlt DP];rfl⟩
            · omega
            · rw[Ym hlt,List.all_append,hd];simp[za];omega
      · refine ME ?_;refine uC (fun hc=>?_) (fun hc=>?_)
        · cases hc
        refine qC ?_;have hall:l.all za=true:=by rwa [YN DP]at hd
        have HA:=atoi_h ⟨⟨l⟩⟩ Dx (decV l:Int) (by
         have h1:=atoi_dig h0 (fun c hc=>YE.1 hall c hc);have h2:=decV_small l DP hall;rw[Yi h2]at h1;exact h1)
        refine uR ?_;refine uK HA ?_;refine KU ?_;exact qZ rfl (by rw[Yi hall])
theorem bs_inj {a b:Bs} (h:(⟨⟨a⟩⟩:DT)=⟨⟨b⟩⟩):a=b:=by cases h;rfl
theorem literal_h (l:Bs) (hl:l.length<=4096):Holds prog 45 [pL l] (.tup [.p (.agg ((litW l).getD noV).pv),.p (pB (litW l).isSome)]) []:=by
 have HL:=all_l l hl;unfold litW;cases hL:lexL l with
 |error e=>
  rw[hL]at HL;refine Vd ?_;show HoldsW _ _ [.p (pL l)] [] _ _;refine MZ ?_;refine Kq ?_;refine uK HL ?_;refine Ku ?_;refine uC (fun hc=>?_) (fun hc=>?_);rotate_left
  · cases hc
  refine Kp ?_;exact XY
 |ok a=>
  rw[hL]at HL;simp only;have la:(a.map Tok.pv).length=a.length:=Yb _;by_cases h2:a.length=2;rotate_left
  · rw[Yc h2];refine Vd ?_;show HoldsW _ _ [.p (pL l)] [] _ _;refine MZ ?_;refine Kq ?_;refine uO HL ?_;refine Ko ?_;refine SW.wk (qu (k:=11000) rfl) ?_;refine uR ?_;rw[la,show((a.length:Int)!=2)=true by simp;omega];refine qe ?_;refine uC (fun hc=>?_) (fun hc=>?_);rotate_left
    · cases hc
    refine Kp ?_;exact XY
  · rw[Yi h2];obtain⟨t,u,rfl⟩:∃t u,a=[t,u]:=by
     match a,h2 with
     |[t,u],_=>exact⟨t,u,rfl⟩
    show Holds prog 45 [pL l] (.tup [.p (.agg ((tokV t).getD noV).pv),.p (pB (tokV t).isSome)]) [];unfold tokV;refine Vd ?_;show HoldsW _ _ [.p (pL l)] [] _ _;refine MZ ?_;refine Kq ?_;refine uO HL ?_;refine Ko ?_;refine SW.wk (qu (k:=11000) rfl) ?_;refine uR ?_;refine qe ?_;refine uC (fun hc=>?_) (fun hc=>?_)
    · cases hc
    refine qh ?_;refine uZ [2,3,4] [(2,2)] ?_;change SW _ _ _ ⟨60,[(2,.ptr 2 0),(3,.p (pB false)),(4,.p (toksP [t,u]))],[(2,.cells [.p (pI 0),.p (pI 0),.p (pS ⟨#[]⟩)])]⟩;refine uD [7] [1,3,5,7,9,11,13,15,17,18,20] ?_;refine qJ qc rfl rfl rfl DQ rfl ?_;refine uT ?_;refine qJ qc rfl rfl rfl DQ rfl ?_;refine KG ?_;refine uZ [2,3,4,7] [(2,2),(7,7)] ?_;change SW _ _ _ ⟨60,[(2,.ptr 2 0),(3,.p (pB false)),(4,.p (toksP [t,u])),(7,.ptr 7 0)],[(2,.cells [.p (pI 0),.p (pI 0),.p (pS ⟨#[]⟩)]),(7,.cells [.p (pI 0),.p (pI t.n),.p (pL t.s)])]⟩;refine uR ?_;refine Kd ?_;refine Ko ?_;refine uZ [2,3,7,34] [(2,2),(7,7)] ?_;change SW _ _ _ ⟨60,[(2,.ptr 2 0),(3,.p (pB false)),(7,.ptr 7 0),(34,.p (pI t.kind))],[(2,.cells [.p (pI 0),.p (pI 0),.p (pS ⟨#[]⟩)]),(7,.cells [.p (pI 0),.p (pI t.n),.p (pL t.s)])]⟩;refine Kz ?_;by_cases k2:t.kind=2
    · rw[Yi k2,show(t.kind==2)=true by simpa using k2];refine uC (fun hc=>?_) (fun hc=>?_);rotate_left
      · cases hc
      refine KX ?_;exact XY
    rw[Yc k2,show(t.kind==2)=false by simpa using k2];refine uC (fun hc=>?_) (fun hc=>?_)
    · cases hc
    refine uA ?_;by_cases k3:t.kind=3
    · rw[Yi k3,show(t.kind==3)=true by simpa using k3];refine uC (fun hc=>?_) (fun hc=>?_);rotate_left
      · cases hc
      refine KX ?_;exact XY
    rw[Yc k3,show(t.kind==3)=false by simpa using k3];refine uC (fun hc=>?_) (fun hc=>?_)
    · cases hc
    refine uA ?_;by_cases k4:t.kind=4
    · rw[Yi k4,show(t.kind==4)=true by simpa using k4];refine uC (fun hc=>?_) (fun hc=>?_);rotate_left
      · cases hc
      refine KX ?_;exact XY
    rw[Yc k4,show(t.kind==4)=false by simpa using k4];refine uC (fun hc=>?_) (fun hc=>?_)
    · cases hc
    refine uA ?_;by_cases k5:t.kind=5
    · rw[Yi k5,show(t.kind==5)=true by simpa using k5];refine uC (fun hc=>?_) (fun hc=>?_);rotate_left
      · cases hc
      refine KX ?_;exact XY
    rw[Yc k5,show(t.kind==5)=false by simpa using k5];refine uC (fun hc=>?_) (fun hc=>?_)
    · cases hc
    refine uA ?_;by_cases k1:t.kind=1;rotate_left
    · rw[Yc k1,show(t.kind==1)=false by simpa using k1];refine uC (fun hc=>?_) (fun hc=>?_)
      · cases hc
      refine Kp ?_;exact XY
    rw[Yi k1,show(t.kind==1)=true by simpa using k1];refine uC (fun hc=>?_) (fun hc=>?_);rotate_left
    · cases hc
    refine uA ?_;refine Kz ?_;rw[beqB];by_cases w1:t.s=wTrue
    · rw[Yi w1,show decide ((⟨⟨t.s⟩⟩:DT)=⟨#[116,114,117,101]⟩)=true by rw[w1];rfl];refine uC (fun hc=>?_) (fun hc=>?_);rotate_left
      · cases hc
      refine Kp ?_;exact XY
    rw[Yc w1,show decide ((⟨⟨t.s⟩⟩:DT)=⟨#[116,114,117,101]⟩)=false by rw[Yh];intro h;exact w1 (bs_inj h)];refine uC (fun hc=>?_) (fun hc=>?_)
    · cases hc
    refine uA ?_;rw[beqB];by_cases w2:t.s=wFalse
    · rw[Yi w2,show decide ((⟨⟨t.s⟩⟩:DT)=⟨#[102,97,108,115,101]⟩)=true by rw[w2];rfl];refine uC (fun hc=>?_) (fun hc=>?_);rotate_left
      · cases hc
      refine Kp ?_;exact XY
    rw[Yc w2,show decide ((⟨⟨t.s⟩⟩:DT)=⟨#[102,97,108,115,101]⟩)=false by rw[Yh];intro h;exact w2 (bs_inj h)];refine uC (fun hc=>?_) (fun hc=>?_)
    · cases hc
    refine KA ?_;exact XY
theorem form_h (o:Opn) (ho:o.Ok):Holds prog 47 [.agg o.pv] (.p (pB (wm o))) []:=by
 have H1:=name_h o.subj (by have:=ho.subj;unfold reachBytes;omega);have H2:=rea_h o;have H3:=empt_h o.case_ ho.case_;have H4:=empt_h o.field ho.field;have H5:=empt_h o.to_ ho.to_;have H6:=wA o.val (by have:=ho.val.1;unfold reachBytes;omega);have H7:=take_h o;obtain⟨F,hF⟩:∃F,F=wm o:=⟨_,rfl⟩;rw[<-hF];unfold wm at hF;generalize qad o.subj=b1 at*;generalize reaC o=b2 at*;generalize emptC o.case_=b3 at*;generalize emptC o.field=b4 at*;generalize emptC o.to_=b5 at*;generalize o.val.right=b6 at*;generalize takC o=b7 at*;refine qo (ts:=[2]) func47 DG rfl rfl rfl ?_;refine Kq ?_;refine uK H1 ?_;cases b1 with
 |false=>
  refine Ko ?_;refine uC (fun hc=>?_) (fun hc=>?_);rotate_left
  · cases hc
  refine LY ?_;rw[hF];rfl
 |true=>
  refine uS ?_;refine uK H2 ?_;cases b2 with
  |false=>
   refine Ko ?_;refine uC (fun hc=>?_) (fun hc=>?_);rotate_left
   · cases hc
   refine LY ?_;rw[hF];rfl
  |true=>
   refine uS ?_;rw[show decide ((o.text.size:Int)>4096)=!decide (o.text.size<=4096)by rw[YO];simp only[Yf,Xo,Yh];omega];generalize decide (o.text.size<=4096)=bl at*;cases bl with
   |false=>
    refine Ko ?_;refine uC (fun hc=>?_) (fun hc=>?_);rotate_left
    · cases hc
    refine LY ?_;rw[hF];rfl
   |true=>
    refine qe ?_;refine uC (fun hc=>?_) (fun hc=>?_)
    · cases hc
    refine Kv ?_;refine uK H3 ?_;cases b3 with
    |false=>
     refine Ko ?_;refine uC (fun hc=>?_) (fun hc=>?_);rotate_left
     · cases hc
     refine LY ?_;rw[hF];rfl
    |true=>
     refine uS ?_;refine uK H4 ?_;cases b4 with
     |false=>
      refine Ko ?_;refine uC (fun hc=>?_) (fun hc=>?_);rotate_left
      · cases hc
      refine LY ?_;rw[hF];rfl
     |true=>
      refine uS ?_;refine uK H5 ?_;cases b5 with
      |false=>
       refine Ko ?_;refine uC (fun hc=>?_) (fun hc=>?_);rotate_left
       · cases hc
       refine LY ?_;rw[hF];rfl
      |true=>
       refine uS ?_;refine qm qc rfl rfl (rfl) rfl ?_;rw[<-eqV0 (v:=o.val)];generalize emV o.val=bz at*;cases bz with
       |true=>
        refine Ko ?_;refine uC (fun hc=>?_) (fun hc=>?_)
        · cases hc
        refine Kv ?_;refine uK H7 ?_;refine Ks ?_;refine VI ?_;rw[hF];rfl
       |false=>
        refine uS ?_;refine uK H6 ?_;cases b6 with
        |false=>
         refine Ko ?_;refine uC (fun hc=>?_) (fun hc=>?_);rotate_left
         · cases hc
         refine LY ?_;rw[hF];rfl
        |true=>
         refine Ko ?_;refine uC (fun hc=>?_) (fun hc=>?_)
         · cases hc
         refine Kv ?_;refine uK H7 ?_;refine Ks ?_;refine VI ?_;rw[hF];rfl
def prsO (l:List Tok) (s:Prs):List (Nat×Box):=[(1000000,.cells [.p (.sl 4 (l.map Tok.pv)),.p (pI s.at_),.p (pI s.rules),.p (pI s.bad),.p (pI s.place)])]
structure TokOk (l:List Tok):Prop where
 len:l.length<=5000
 nx:∀(k:Nat) (h:k<l.length),l[k].kind≠7->k+1<l.length
 tx:∀t∈l,t.s.length<=5000
 one:∀t∈l,t.kind=6->t.s.length=1
 num:∀t∈l,R64 t.n
theorem hereQ_at {l:List Tok} {s:Prs} (h:s.at_<l.length):ze l s=l[s.at_]:=by
 unfold ze;rw[List.getD_eq_getElem?_getD,Yj h];rfl
section
variable {l:List Tok} (hl:TokOk l)
include hl
theorem qbh (s:Prs) (h:s.at_<l.length):HoldsW prog 59 [.ptr 1000000 0] (prsO l s) (.p (.agg (ze l s).pv)) (prsO l s):=by
 have ll:(l.map Tok.pv).length=l.length:=by simp
 have hn:=hl.len;rw[hereQ_at h];have e9:(l.map Tok.pv).getD (Int.toNat (s.at_:Int)) []=l[s.at_].pv:=qw h;generalize l[s.at_]=t at*;obtain⟨a,r,b,p⟩:=s;simp only at h e9;refine qz (T:=TTab) qc func59 DG rfl rfl rfl ?_;refine uA ?_;refine uD [2] [1,3,5,7,9,11,13,15,17,19,20] ?_;refine qJ qc rfl rfl rfl (by rw[ll];exact⟨Int.natCast_nonneg _,Int.ofNat_lt.2 h⟩) rfl ?_;rw[e9];refine KG ?_;refine uQ ?_;exact XG
omit hl in
theorem qwrong_h (s:Prs) (e place:Int):HoldsW prog 61 [.ptr 1000000 0,.p (pI e),.p (pI place)] (prsO l s) (.tup []) (prsO l (jq s e place)):=by
 obtain⟨a,r,b,p⟩:=s;refine qE (ts:=[]) func61 DG rfl rfl rfl ?_;refine uA ?_;unfold jq;by_cases hb:b=0
 · subst hb;refine uC (fun hc=>?_) (fun hc=>?_)
   · refine uA ?_;exact VL
   · cases hc
 · rw[show(b==0)=false by simpa using hb];simp only[Yc hb];refine uC (fun hc=>?_) (fun hc=>?_)
   · cases hc
   · refine qh ?_;exact VL
omit hl in
theorem jv (s:Prs) (e p:Int):(jq s e p).at_=s.at_:=by unfold jq;split<;>rfl
theorem qsyn_h (s:Prs) (h:s.at_<l.length):HoldsW prog 60 [.ptr 1000000 0] (prsO l s) (.tup []) (prsO l (synQ l s)):=by
 have HH:=qbh hl s h;have HW:=qwrong_h (l:=l) s 5 (ze l s).at_;unfold synQ;generalize ze l s=t at*;generalize jq s 5 t.at_=s2 at*;refine qE (ts:=[]) func60 DG rfl rfl rfl ?_;refine uR ?_;refine GF ?_;refine uW [(1000000,1000000)] HW ?_;refine qe ?_;exact VL
theorem qlim_h (s:Prs) (h:s.at_<l.length) (more:Bool):HoldsW prog 174 [.ptr 1000000 0,.p (pB more)] (prsO l s) (.tup []) (prsO l (limQ l s more)):=by
 have HH:=qbh hl s h;have HW:=qwrong_h (l:=l) s 6 (ze l s).at_;unfold limQ;generalize ze l s=t at*;generalize jq s 6 t.at_=s2 at*;refine qE (ts:=[]) func174 DG rfl rfl rfl ?_;refine uA ?_;cases more with
 |true=>
  refine uC (fun hc=>?_) (fun hc=>?_)
  · refine uR ?_;refine GF ?_;refine uW [(1000000,1000000)] HW ?_;refine qe ?_;exact VL
  · cases hc
 |false=>
  refine uC (fun hc=>?_) (fun hc=>?_)
  · cases hc
  · refine qh ?_;exact VL
theorem qis_h (s:Prs) (h:s.at_<l.length) (w:Bs):HoldsW prog 175 [.ptr 1000000 0,.p (pL w)] (prsO l s) (.p (pB (isQ l s w))) (prsO l s):=by
 have HH:=qbh hl s h;unfold isQ;generalize ze l s=t at*;obtain⟨k,a,n,x⟩:=t;obtain⟨sa,sr,sb,sp⟩:=s;have e1:((⟨⟨x⟩⟩:DT).toList==(⟨⟨w⟩⟩:DT).toList)=decide (x=w):=by
  rw[jS];simp
 refine qE (ts:=[4]) func175 DG rfl rfl rfl ?_;refine Kq ?_;refine GF ?_;refine K4 ?_;by_cases hb:sb=0;rotate_left
 · rw[show(sb==0)=false by simpa using hb];refine Ks ?_;rw[show decide ((Prs.mk sa sr sb sp).bad=0)=false from YB hb];exact Vj
 subst hb;refine uS ?_;rw[e1];simp only[decide_true,Bool.true_and];by_cases hx:x=w;rotate_left
 · rw[YB hx];refine Ks ?_;exact Vj
 rw[Yz hx];refine uS ?_;by_cases h1:k=1
 · subst h1;refine Ks ?_;exact Vj
 rw[show(k==1)=false by simpa using h1,YB h1];refine Ks ?_;rw[show decide (k=6)=(k==6)from rfl];exact Vj
theorem wu (s:Prs) (h:s.at_<l.length) (w:Bs):HoldsW prog 172 [.ptr 1000000 0,.p (pL w)] (prsO l s) (.p (pB (isQ l s w))) (prsO l (qab l s w).2):=by
 have HI:=qis_h hl s h w;have hn:=hl.len;unfold qab;generalize isQ l s w=b at*;obtain⟨sa,sr,sb,sp⟩:=s;replace h:sa<l.length:=h
 refine qE (ts:=[4]) func172 DG rfl rfl rfl ?_;refine Kq ?_;refine uW [(1000000,1000000)] HI ?_;refine KF ?_;cases b with
 |true=>
  refine uC (fun hc=>?_) (fun hc=>?_)
  · refine uA ?_;rw[show IntKind.i64.wrap (((Prs.mk sa sr sb sp).at_:Int)+1)=((sa+1:Nat):Int)from YD ((sa:Int)+1) DP];exact Lf
  · cases hc
 |false=>
  refine uC (fun hc=>?_) (fun hc=>?_)
  · cases hc
  · refine KA ?_;exact Vj
theorem qname_h (s:Prs) (h:s.at_<l.length):HoldsW prog 107 [.ptr 1000000 0] (prsO l s) (.p (pL (zH l s).1)) (prsO l (zH l s).2):=by
 have HH:=qbh hl s h;have HS:=qsyn_h hl s h;have hn:=hl.len;have hat:(synQ l s).at_=s.at_:=jv _ _ _;unfold zH;generalize ze l s=t at*;obtain⟨k,a,n,x⟩:=t;refine qE (ts:=[2]) func107 DG rfl rfl rfl ?_;refine Kq ?_;refine GF ?_;refine KF ?_;by_cases hk:k=1
 · subst hk;simp only[if_true];obtain⟨sa,sr,sb,sp⟩:=s;replace h:sa<l.length:=h
   refine uC (fun hc=>?_) (fun hc=>?_)
   · cases hc
   refine Kw ?_;by_cases hb:sb=0
   · subst hb;refine uC (fun hd=>?_) (fun hd=>?_)
     · cases hd
     refine LT ?_;refine uR ?_;refine X8 ?_;refine KU ?_;exact Vj
   · refine VG ?_;refine uC (fun hd=>?_) (fun hd=>?_)
     · exact Lf
     · cases hd
 · rw[show(k !=1)=true by simpa using hk];simp only[Yc hk];refine uC (fun hc=>?_) (fun hc=>?_);rotate_left
   · cases hc
   generalize synQ l s=s2 at*;obtain⟨sa,sr,sb,sp⟩:=s2;have h2:sa<l.length:=by have e:sa=s.at_:=hat;omega
   refine uR ?_;refine GT ?_;refine KF ?_;by_cases hb:sb=0
   · subst hb;refine uC (fun hd=>?_) (fun hd=>?_)
     · cases hd
     refine LT ?_;refine uR ?_;refine X8 ?_;refine KU ?_;exact Vj
   · refine VG ?_;refine uC (fun hd=>?_) (fun hd=>?_)
     · exact Lf
     · cases hd
theorem qaD (s:Prs) (h:s.at_<l.length) (w:Bs):HoldsW prog 109 [.ptr 1000000 0,.p (pL w)] (prsO l s) (.tup []) (prsO l (zT l s w)):=by
 have HT:=wu hl s h w;have HS:=qsyn_h hl s h;unfold qab at HT;unfold zT;generalize isQ l s w=b at*;generalize synQ l s=s2 at*;refine qE (ts:=[]) func109 DG rfl rfl rfl ?_;cases b with
 |true=>
  refine LA ?_;refine uC (fun hc=>?_) (fun hc=>?_)
  · cases hc
  · refine qh ?_;exact VL
 |false=>
  refine LA ?_;refine uC (fun hc=>?_) (fun hc=>?_)
  · refine uR ?_;refine GT ?_;refine qe ?_;exact VL
  · cases hc
end
def wordsP (ws:List Bs):PV:=.sl 1 (ws.map fun w=>[pL w])
theorem beq_l (x w:Bs):((⟨⟨x⟩⟩:DT).toList==(⟨⟨w⟩⟩:DT).toList)=decide (x=w):=by
 rw[jS];simp
theorem sindex_h (ws:List Bs) (hn:ws.length<=1000000) (w:Bs):Holds prog 171 [wordsP ws,pL w] (.p (pI (if ws.findIdx (fun y=>decide (y=w))<ws.length then((ws.findIdx fun y=>decide (y=w):Nat):Int)else-1))) []:=by
 have lw:(ws.map fun w=>[pL w]).length=ws.length:=by simp
 refine qo (ts:=[4]) func171 DG rfl rfl rfl ?_;refine KH ?_;refine GS ?_;refine qG (fun m s=>∃(k:Nat) (kk:Int),k<=ws.length/\m=ws.length-k/\kk=k/\(∀y∈ws.take k,y≠w)/\s=⟨19,[(0,.p (wordsP ws)),(1,.p (pL w)),(7,.p (pI (ws.map fun w=>[pL w]).length)),(8,.p (pI kk))],[]⟩) ws.length ⟨0,0,Yl _,rfl,rfl,by simp,rfl⟩ ?_;rintro m s ⟨k,_,hk,rfl,rfl,ha,rfl⟩;refine uA ?_;refine uC (fun hlt=>?_) (fun hlt=>?_)
 · refine qh ?_;rw[lw]at hlt;simp only[Yf]at hlt;have hlt':k<ws.length:=by omega
   obtain⟨y,hy⟩:∃y,y=ws[k]:=⟨_,rfl⟩;refine uB ?_;refine Kq ?_;refine qm qc rfl rfl (by rw[lw];omega) rfl ?_;rw[qw hlt',<-hy];refine uS ?_;rw[beq_l];refine qe ?_;refine uC (fun ht=>?_) (fun ht=>?_)
   · have e:ws[k]=w:=by rw[<-hy];exact(YM ht).symm
     have e2:ws.findIdx (fun y=>decide (y=w))=k:=by
      rw[Xx hlt'];refine⟨by simp[e],fun j hj=>?_⟩;have:ws[j]∈ws.take k:=by
       rw[List.mem_take_iff_getElem];exact⟨j,by omega,rfl⟩
      simpa using ha _ this
     rw[e2,Yi hlt'];exact KK
   · have h2:ws[k]≠w:=fun e=>of_decide_eq_false ht (by rw[hy];exact e.symm)
     refine Kw ?_;refine⟨_,_,?_,qj [0,1,7,8] [] rfl rfl,k+1,_,hlt',rfl,qq hlt' DP,take_ok hlt' ha h2,rfl⟩;omega
 · refine qC ?_;rw[lw]at hlt;simp only[Yh]at hlt;have hkk:k=ws.length:=by omega
   subst hkk;rw[Yu]at ha;have e2:¬ws.findIdx (fun y=>decide (y=w))<ws.length:=by
    rw[List.findIdx_lt_length];rintro⟨x,h1,h2⟩;exact ha x h1 Dl
   rw[Yc e2];exact KK
section
variable {l:List Tok} (hl:TokOk l)
include hl
theorem qamong_h (s:Prs) (h:s.at_<l.length) (ws:List Bs) (hw:ws.length<=1000):HoldsW prog 106 [.ptr 1000000 0,.p (wordsP ws)] (prsO l s) (.p (pI (qO l s ws).1)) (prsO l (qO l s ws).2):=by
 have HH:=qbh hl s h;have HS:=qsyn_h hl s h;have HI:=sindex_h ws DP (ze l s).s;have HT:=wu hl s h (ze l s).s;have hn:=hl.len;have hmem:(ze l s).s∈ws↔ws.findIdx (fun y=>decide (y=(ze l s).s))<ws.length:=by
  rw[List.findIdx_lt_length];exact⟨fun h=>⟨_,h,by simp⟩,fun⟨x,h1,h2⟩=>by rw[<-YM h2];exact h1⟩
 have eA:qO l s ws=if(ze l s).kind=1/\ws.findIdx (fun y=>decide (y=(ze l s).s))<ws.length/\isQ l s (ze l s).s=true then(((ws.findIdx fun y=>decide (y=(ze l s).s):Nat):Int)+1,s.next)else(0,synQ l s):=by
  unfold qO;simp only[hmem]
 rw[eA];clear eA hmem
 unfold qab at HT;generalize isQ l s (ze l s).s=b at*;generalize ze l s=t at*;obtain⟨k,a,n,x⟩:=t;simp only at HI HT⊢;generalize ws.findIdx (fun y=>decide (y=x))=fi at*;generalize synQ l s=s2 at*;refine qE (ts:=[4]) func106 DG rfl rfl rfl ?_;refine Kq ?_;refine GF ?_;refine KF ?_;by_cases hk:k=1;rotate_left
 · rw[show(k==1)=false by simpa using hk,Yc (fun h=>hk h.1)];refine uC (fun hc=>?_) (fun hc=>?_)
   · cases hc
   refine Kv ?_;refine GT ?_;refine qe ?_;exact Lf
 subst hk;refine uC (fun hc=>?_) (fun hc=>?_);rotate_left
 · cases hc
 refine uR ?_;refine uK HI ?_;refine qe ?_;by_cases hf:fi<ws.length;rotate_left
 · rw[Yc hf,Yc (fun h=>hf h.2.1)];refine uA ?_;refine uC (fun hd=>?_) (fun hd=>?_)
   · cases hd
   refine Kv ?_;refine GT ?_;refine qe ?_;exact Lf
 rw[Yi hf];refine uR ?_;rw[show decide ((fi:Int)>=0)=true by simp];refine uS ?_;refine VE ?_;cases b with
 |true=>
  rw[Yi ⟨rfl,hf,rfl⟩];refine Ko ?_;refine uC (fun hd=>?_) (fun hd=>?_)
  · refine uR ?_;rw[show IntKind.i64.wrap ((fi:Int)+1)=(fi:Int)+1 from YD _ DP];refine Ks ?_;exact Vj
  · cases hd
 |false=>
  rw[Yc (fun h=>by cases h.2.2)];refine Ko ?_;refine uC (fun hd=>?_) (fun hd=>?_)
  · cases hd
  refine Kv ?_;refine GT ?_;refine qe ?_;exact Lf
theorem zE {s:Prs} (h:s.at_<l.length) (hk:(ze l s).kind≠7):s.next.at_<l.length:=by
 rw[hereQ_at h]at hk;exact hl.nx s.at_ h hk
omit hl in
theorem zG {s:Prs} {w:Bs} (h:isQ l s w=true):(ze l s).kind≠7:=by
 unfold isQ at h;simp only[Yp,Xm,Yf]at h;omega
omit hl in
theorem syn_lt {s:Prs} (h:s.at_<l.length):(synQ l s).at_<l.length:=by unfold synQ;rw[jv];exact h
omit hl in
theorem lim_lt {s:Prs} (h:s.at_<l.length) (b:Bool):(limQ l s b).at_<l.length:=by
 unfold limQ;split
 · rw[jv];exact h
 · exact h
theorem take_lt {s:Prs} (h:s.at_<l.length) (w:Bs):(qab l s w).2.at_<l.length:=by
 unfold qab;split
 · rename_i hi;exact zE hl h (zG hi)
 · exact h
theorem must_lt {s:Prs} (h:s.at_<l.length) (w:Bs):(zT l s w).at_<l.length:=by
 unfold zT;split
 · rename_i hi;exact zE hl h (zG hi)
 · exact syn_lt h
omit hl in
theorem syn_bad (s:Prs):(synQ l s).bad≠0:=by
 unfold synQ jq;split
 · show(5:Int)≠0;decide
 · assumption
theorem name_lt {s:Prs} (h:s.at_<l.length):(zH l s).2.at_<l.length:=by
 unfold zH;by_cases hk:(ze l s).kind=1
 · simp only[Yi hk];split
   · exact h
   · exact zE hl h DP
 · simp only[Yc hk,Yi (syn_bad (l:=l) s)];exact syn_lt h
theorem among_lt {s:Prs} (h:s.at_<l.length) (ws:List Bs):(qO l s ws).2.at_<l.length:=by
 unfold qO;split
 · rename_i hh;exact zE hl h DP
 · exact syn_lt h
theorem attr_lt {s:Prs} (h:s.at_<l.length):(qaY l s).2.at_<l.length:=take_lt hl (name_lt hl (must_lt hl (among_lt hl h _) _)) _
theorem val_lt {s:Prs} (h:s.at_<l.length):(valQ l s).2.at_<l.length:=by
 have hk:∀v,valK l s=some v->(ze l s).kind≠7:=fun v hv=>by
  unfold valK at hv;simp only at hv;split at hv
  · omega
  split at hv
  · omega
  split at hv
  · omega
  split at hv
  · omega
  split at hv
  · rename_i hi;exact zG hi
  split at hv
  · rename_i hi;exact zG hi
  · cases hv
 unfold valQ;cases hv:valK l s with
 |none=>exact syn_lt h
 |some v=>
  simp only;split
  · exact h
  · exact zE hl h (hk v hv)
theorem mop_lt {s:Prs} (h:s.at_<l.length):(mopQ l s).2.at_<l.length:=by
 unfold mopQ;split
 · rename_i hi;exact zE hl h (zG hi)
 split
 · rename_i hi;exact zE hl h (zG hi)
 split
 · rename_i hi;exact zE hl h (zG hi)
 · exact syn_lt h
theorem mat_lt {s:Prs} (h:s.at_<l.length):(matQ l s).2.at_<l.length:=val_lt hl (mop_lt hl (attr_lt hl h))
theorem qattr_h (s:Prs) (h:s.at_<l.length):HoldsW prog 302 [.ptr 1000000 0] (prsO l s) (.p (.agg [pI (qaY l s).1.cat,pS (qaY l s).1.name,pB (qaY l s).1.must])) (prsO l (qaY l s).2):=by
 have H1:=qamong_h hl s h wCats DO;have l1:=among_lt hl h wCats;unfold qaY;generalize qO l s wCats=a at*;obtain⟨a1,s1⟩:=a;simp only at H1 l1⊢;have H2:=qaD hl s1 l1 [46];have l2:=must_lt hl l1 [46];generalize zT l s1 [46]=s2 at*;have H3:=qname_h hl s2 l2;have l3:=name_lt hl l2;generalize zH l s2=n at*;obtain⟨n1,s3⟩:=n;simp only at H3 l3⊢;have H4:=wu hl s3 l3 [33];have e4:(qab l s3 [33]).1=isQ l s3 [33]:=by unfold qab;split<;>simp[*]
 rw[e4];generalize isQ l s3 [33]=b4 at*;generalize (qab l s3 [33]).2=s4 at*;refine qz (T:=TTab) qc func302 DG rfl rfl rfl ?_;refine uA ?_;refine Kq ?_;refine SWT.wk (qu (k:=5) rfl) ?_;refine GG ?_;refine Kt ?_;refine MM ?_;refine K4 ?_;refine Kh ?_;refine Kt ?_;refine uW [(1000000,1000000)] H4 ?_;exact LK
end
section
variable {l:List Tok} (hl:TokOk l)
include hl
theorem qval_h (s:Prs) (h:s.at_<l.length):HoldsW prog 303 [.ptr 1000000 0] (prsO l s) (.p (.agg (valQ l s).1.pv)) (prsO l (valQ l s).2):=by
 have HH:=qbh hl s h;have HS:=qsyn_h hl s h;have HT:=qis_h hl s h wTrue;have HF:=qis_h hl s h wFalse;have hn:=hl.len;have hsb:=syn_bad (l:=l) s;unfold valQ valK;generalize isQ l s wTrue=b1 at*;generalize isQ l s wFalse=b2 at*;generalize ze l s=t at*;generalize synQ l s=s2 at*;obtain⟨k,a,n,x⟩:=t;obtain⟨sa,sr,sb,sp⟩:=s;replace h:sa<l.length:=h
 simp only;refine qz (T:=TTab) qc func303 DG rfl rfl rfl ?_;refine Kq ?_;refine GF ?_;refine Ku ?_;refine uB ?_;by_cases h2:k=2
 · subst h2;simp only[if_true];refine uA ?_;refine uC (fun hc=>?_) (fun hc=>?_);rotate_left
   · cases hc
   refine Kr ?_;by_cases hb:sb=0
   · subst hb;refine uC (fun hd=>?_) (fun hd=>?_)
     · cases hd
     refine LT ?_;refine uR ?_;refine X8 ?_;exact LK
   · refine VG ?_;refine uC (fun hd=>?_) (fun hd=>?_)
     · exact Ej
     · cases hd
 rw[Yc h2];refine uA ?_;rw[show(k==2)=false by simpa using h2];refine uC (fun hc=>?_) (fun hc=>?_)
 · cases hc
 by_cases h3:k=3
 · subst h3;simp only[if_true];refine uA ?_;refine uC (fun hc=>?_) (fun hc=>?_);rotate_left
   · cases hc
   refine Kr ?_;by_cases hb:sb=0
   · subst hb;refine uC (fun hd=>?_) (fun hd=>?_)
     · cases hd
     refine LT ?_;refine uR ?_;refine X8 ?_;exact LK
   · refine VG ?_;refine uC (fun hd=>?_) (fun hd=>?_)
     · exact Ej
     · cases hd
 rw[Yc h3];refine uA ?_;rw[show(k==3)=false by simpa using h3];refine uC (fun hc=>?_) (fun hc=>?_)
 · cases hc
 by_cases h4:k=4
 · subst h4;simp only[if_true];refine uA ?_;refine uC (fun hc=>?_) (fun hc=>?_);rotate_left
   · cases hc
   refine Kr ?_;by_cases hb:sb=0
   · subst hb;refine uC (fun hd=>?_) (fun hd=>?_)
     · cases hd
     refine LT ?_;refine uR ?_;refine X8 ?_;exact LK
   · refine VG ?_;refine uC (fun hd=>?_) (fun hd=>?_)
     · exact Ej
     · cases hd
 rw[Yc h4];refine uA ?_;rw[show(k==4)=false by simpa using h4];refine uC (fun hc=>?_) (fun hc=>?_)
 · cases hc
 by_cases h5:k=5
 · subst h5;simp only[if_true];refine uA ?_;refine uC (fun hc=>?_) (fun hc=>?_);rotate_left
   · cases hc
   refine Kr ?_;by_cases hb:sb=0
   · subst hb;refine uC (fun hd=>?_) (fun hd=>?_)
     · cases hd
     refine LT ?_;refine uR ?_;refine X8 ?_;exact LK
   · refine VG ?_;refine uC (fun hd=>?_) (fun hd=>?_)
     · exact Ej
     · cases hd
 rw[Yc h5];refine uA ?_;rw[show(k==5)=false by simpa using h5];refine uC (fun hc=>?_) (fun hc=>?_)
 · cases hc
 refine LA ?_;cases b1 with
 |true=>
  simp only[if_true];refine uC (fun hc=>?_) (fun hc=>?_);rotate_left
  · cases hc
  refine Kr ?_;by_cases hb:sb=0
  · subst hb;refine uC (fun hd=>?_) (fun hd=>?_)
    · cases hd
    refine LT ?_;refine uR ?_;refine X8 ?_;exact LK
  · refine VG ?_;refine uC (fun hd=>?_) (fun hd=>?_)
    · exact Ej
    · cases hd
 |false=>
  simp only[YC,if_false];refine uC (fun hc=>?_) (fun hc=>?_)
  · cases hc
  refine uR ?_;refine uW [(1000000,1000000)] HF ?_;refine qe ?_;cases b2 with
  |true=>
   simp only[if_true];refine uC (fun hc=>?_) (fun hc=>?_);rotate_left
   · cases hc
   refine Kr ?_;by_cases hb:sb=0
   · subst hb;refine uC (fun hd=>?_) (fun hd=>?_)
     · cases hd
     refine LT ?_;refine uR ?_;refine X8 ?_;exact LK
   · refine VG ?_;refine uC (fun hd=>?_) (fun hd=>?_)
     · exact Ej
     · cases hd
  |false=>
   simp only[YC,if_false];refine uC (fun hc=>?_) (fun hc=>?_)
   · cases hc
   refine uR ?_;refine GT ?_;refine qe ?_;obtain⟨ta,tr,tb,tp⟩:=s2;replace hsb:tb≠0:=hsb
   refine uA ?_;rw[show((Prs.mk ta tr tb tp).bad !=0)=true by simpa using hsb];refine uC (fun hd=>?_) (fun hd=>?_)
   · exact Ej
   · cases hd
theorem qmat_h (s:Prs) (h:s.at_<l.length):HoldsW prog 276 [.ptr 1000000 0] (prsO l s) (.p (.agg (matQ l s).1.pv)) (prsO l (matQ l s).2):=by
 have HA:=qattr_h hl s h;have la:=attr_lt hl h;unfold matQ;generalize qaY l s=a at*;obtain⟨⟨ac,an,am⟩,s1⟩:=a;simp only at HA la⊢;have T0:=wu hl s1 la [61];have T1:=wu hl s1 la [60];have T2:=wu hl s1 la [62];have HS:=qsyn_h hl s1 la;have n1:=fun w hi=>zE hl la (zG (w:=w) hi)
 have n2:=syn_lt la;have HVn:=fun w hi=>qval_h hl s1.next (n1 w hi)
 have HVs:=qval_h hl (synQ l s1) n2;unfold qab at T0 T1 T2;unfold mopQ;have i0:isQ l s1 [61]=isQ l s1 [61]:=rfl;obtain⟨b0,hb0⟩:∃b,b=isQ l s1 [61]:=⟨_,rfl⟩;obtain⟨b1,hb1⟩:∃b,b=isQ l s1 [60]:=⟨_,rfl⟩;obtain⟨b2,hb2⟩:∃b,b=isQ l s1 [62]:=⟨_,rfl⟩;rw[<-hb0]at T0⊢;rw[<-hb1]at T1⊢;rw[<-hb2]at T2⊢;clear i0
 refine qz (T:=TTab) qc func276 DG rfl rfl rfl ?_;refine Kq ?_;refine uW [(1000000,1000000)] HA ?_;refine Kt ?_;refine SWT.wk (qu (k:=9) rfl) ?_;refine Lx ?_;refine uZ [0,2,3,9,10,11] [(2,2),(3,3),(1000000,1000000)] ?_
 refine qG (fun m s=>∃(k:Nat) (kk:Int),k<=3/\m=3-k/\kk=k/\(1<=k->b0=false)/\(2<=k->b1=false)/\(3<=k->b2=false)/\s=⟨32,[(0,.ptr 1000000 0),(2,.ptr 2 0),(3,.ptr 3 0),(9,.p (wordsP [[61],[60],[62]])),(10,.p (pI 3)),(11,.p (pI kk))],
  [(2,.cells [.p (pI 0),.p (pS ⟨#[]⟩),.p (pB false),.p (pI 0),.p (pI 0),.p (pI 0),.p (pS ⟨#[]⟩)]),(3,.cells [.p (pI ac),.p (pS an),.p (pB am),.p (pI 0),.p (pI 0),.p (pI 0),.p (pS ⟨#[]⟩)])]++prsO l s1⟩) 3 ⟨0,0,by omega,rfl,rfl,(fun h=>absurd h DP),(fun h=>absurd h DP),(fun h=>absurd h DP),rfl⟩ ?_
 rintro m s ⟨k,_,hk,rfl,rfl,f0,f1,f2,rfl⟩
 match k,hk with
 |0,_=>
  refine uA ?_;refine uC (fun hlt=>?_) (fun hlt=>?_);rotate_left
  · cases hlt
  refine Li ?_;refine Kd ?_;refine Kt ?_;refine uW [(1000000,1000000)] T0 ?_;refine qe ?_;cases b0 with
  |true=>
   refine uC (fun ht=>?_) (fun ht=>?_);rotate_left
   · cases ht
   have HV:=HVn [61] hb0.symm;simp only[if_true];generalize valQ l s1.next=v at*;refine uA ?_;refine Ls ?_;refine uC (fun hz=>?_) (fun hz=>?_)
   · cases hz
   refine Kv ?_;refine MN ?_;exact LK
  |false=>
   refine uC (fun ht=>?_) (fun ht=>?_)
   · cases ht
   refine Kw ?_;exact⟨_,_,by omega,qj [0,2,3,9,10,11] [(2,2),(3,3),(1000000,1000000)] rfl rfl,0+1,_,by omega,rfl,rfl,fun _=>rfl,fun h=>absurd h DP,fun h=>absurd h DP,rfl⟩
 |1,_=>
  have g0:=f0 DP;subst g0;refine uA ?_;refine uC (fun hlt=>?_) (fun hlt=>?_);rotate_left
  · cases hlt
  refine Li ?_;refine Kd ?_;refine Kt ?_;refine uW [(1000000,1000000)] T1 ?_;refine qe ?_;cases b1 with
  |true=>
   refine uC (fun ht=>?_) (fun ht=>?_);rotate_left
   · cases ht
   have HV:=HVn [60] hb1.symm;simp only[YC,if_false,if_true];generalize valQ l s1.next=v at*;refine uA ?_;refine Ls ?_;refine uC (fun hz=>?_) (fun hz=>?_)
   · cases hz
   refine Kv ?_;refine MN ?_;exact LK
  |false=>
   refine uC (fun ht=>?_) (fun ht=>?_)
   · cases ht
   refine Kw ?_;exact⟨_,_,by omega,qj [0,2,3,9,10,11] [(2,2),(3,3),(1000000,1000000)] rfl rfl,1+1,_,by omega,rfl,rfl,fun _=>rfl,fun _=>rfl,fun h=>absurd h DP,rfl⟩
 |2,_=>
  have g0:=f0 DP;subst g0;have g1:=f1 DP;subst g1;refine uA ?_;refine uC (fun hlt=>?_) (fun hlt=>?_);rotate_left
  · cases hlt
  refine Li ?_;refine Kd ?_;refine Kt ?_;refine uW [(1000000,1000000)] T2 ?_;refine qe ?_;cases b2 with
  |true=>
   refine uC (fun ht=>?_) (fun ht=>?_);rotate_left
   · cases ht
   have HV:=HVn [62] hb2.symm;simp only[YC,if_false,if_true];generalize valQ l s1.next=v at*;refine uA ?_;refine Ls ?_;refine uC (fun hz=>?_) (fun hz=>?_)
   · cases hz
   refine Kv ?_;refine MN ?_;exact LK
  |false=>
   refine uC (fun ht=>?_) (fun ht=>?_)
   · cases ht
   refine Kw ?_;exact⟨_,_,by omega,qj [0,2,3,9,10,11] [(2,2),(3,3),(1000000,1000000)] rfl rfl,2+1,_,by omega,rfl,rfl,fun _=>rfl,fun _=>rfl,fun _=>rfl,rfl⟩
 |3,_=>
  have g0:=f0 DP;subst g0;have g1:=f1 DP;subst g1;have g2:=f2 DP;subst g2;simp only[YC,if_false];generalize synQ l s1=s2 at*;generalize valQ l s2=v at*;refine uA ?_;refine uC (fun hlt=>?_) (fun hlt=>?_)
  · cases hlt
  refine Ls ?_;refine uC (fun hz=>?_) (fun hz=>?_);rotate_left
  · cases hz
  refine uR ?_;refine GT ?_;refine K4 ?_;refine uW [(1000000,1000000)] HVs ?_;exact LK
end
section
variable {l:List Tok}
def Stp (l:List Tok) (s s':Prs):Prop:=s.at_<=s'.at_/\s'.at_<l.length
theorem Stp.trans {a b c:Prs} (h:Stp l a b) (k:Stp l b c):Stp l a c:=⟨Nat.le_trans h.1 k.1,k.2⟩
theorem syn_le (s:Prs):(synQ l s).at_=s.at_:=jv _ _ _
theorem qba (s:Prs) (b:Bool):(limQ l s b).at_=s.at_:=by
 unfold limQ;split
 · exact jv _ _ _
 · rfl
theorem take_le (s:Prs) (w:Bs):s.at_<=(qab l s w).2.at_:=by unfold qab;split<;>first|exact Nat.le_succ _|exact Nat.le_refl _
theorem must_le (s:Prs) (w:Bs):s.at_<=(zT l s w).at_:=by
 unfold zT;split
 · exact Xr _
 · rw[syn_le];exact Yk _
theorem name_le (s:Prs):s.at_<=(zH l s).2.at_:=by
 unfold zH;by_cases hk:(ze l s).kind=1
 · simp only[Yi hk];split
   · exact Yk _
   · exact Xr _
 · simp only[Yc hk,Yi (syn_bad (l:=l) s)];rw[syn_le];exact Yk _
theorem among_le (s:Prs) (ws:List Bs):s.at_<=(qO l s ws).2.at_:=by
 unfold qO;split
 · exact Xr _
 · show _<=(synQ l s).at_;rw[syn_le];exact Yk _
theorem attr_le (s:Prs):s.at_<=(qaY l s).2.at_:=Nat.le_trans (among_le s _) (Nat.le_trans (must_le _ _) (Nat.le_trans (name_le _) (take_le _ _)))
theorem val_le (s:Prs):s.at_<=(valQ l s).2.at_:=by
 unfold valQ;cases valK l s with
 |none=>show _<=(synQ l s).at_;rw[syn_le];exact Yk _
 |some v=>simp only;split
          · exact Yk _
          · exact Xr _
theorem mop_le (s:Prs):s.at_<=(mopQ l s).2.at_:=by
 unfold mopQ;split
 · exact Xr _
 split
 · exact Xr _
 split
 · exact Xr _
 · show _<=(synQ l s).at_;rw[syn_le];exact Yk _
theorem mat_le (s:Prs):s.at_<=(matQ l s).2.at_:=Nat.le_trans (attr_le s) (Nat.le_trans (mop_le _) (val_le _))
variable (hl:TokOk l)
include hl
theorem mat_stp {s:Prs} (h:s.at_<l.length):Stp l s (matQ l s).2:=⟨mat_le s,mat_lt hl h⟩
theorem ww {s:Prs} (h:s.at_<l.length) (w:Bs):Stp l s (zT l s w):=⟨must_le s w,must_lt hl h w⟩
theorem sep_stp {β:Type} {w:Bs} {g:Prs->β×Prs} (hg:∀s:Prs,s.at_<l.length->Stp l s (g s).2):∀(n:Nat) (acc:List β) (s:Prs),s.at_<l.length->Stp l s (sepQ l w g n acc s).2
 |0,acc,s,h=>⟨Yk _,h⟩
 |n+1,acc,s,h=>by
  rw[sepQ];split
  · rename_i hi;have h1:=zE hl h (zG hi);have h2:=hg s.next h1;have h3:Stp l s (limQ l (g s.next).2 (decide (8<acc.length+1))):=⟨by rw[qba];exact Xj (Xr _) h2.1,lim_lt h2.2 _⟩;exact h3.trans (sep_stp hg n _ _ h3.2)
  · exact⟨Yk _,h⟩
theorem all_stp {s:Prs} (h:s.at_<l.length):Stp l s (allQ l s).2:=(mat_stp hl h).trans (sep_stp hl (fun s h=>mat_stp hl h) _ _ _ (mat_stp hl h).2)
theorem any_stp {s:Prs} (h:s.at_<l.length):Stp l s (anyQ l s).2:=by
 have h1:=ww hl h [40];have h2:=all_stp hl h1.2;have h3:=sep_stp hl (w:=wOr) (fun s h=>all_stp hl h) (l.length+1) [(allQ l (zT l s [40])).1] _ h2.2;exact h1.trans (h2.trans (h3.trans (ww hl h3.2 [41])))
theorem tar_stp {s:Prs} (h:s.at_<l.length):Stp l s (tarQ l s).2:=by
 unfold tarQ;split
 · rename_i hi;have h1:=zE hl h (zG hi);have h2:=any_stp hl h1;exact Stp.trans ⟨Xr _,h1⟩ (h2.trans (sep_stp hl (fun s h=>any_stp hl h) _ _ _ h2.2))
 · exact⟨Yk _,h⟩
theorem qall_h (s:Prs) (h:s.at_<l.length):HoldsW prog 233 [.ptr 1000000 0] (prsO l s) (.p (wF (allQ l s).1)) (prsO l (allQ l s).2):=by
 have HM:=qmat_h hl s h;have h1:=mat_stp hl h;have hn:=hl.len;unfold allQ;generalize matQ l s=a at*;obtain⟨x1,s1⟩:=a;simp only at HM h1⊢;refine qE (ts:=[2]) func233 DG rfl rfl rfl ?_;refine Kq ?_;refine GU ?_;refine Lx ?_;obtain⟨R,hR⟩:∃R,R=sepQ l [44] (matQ l) (l.length+1) [x1] s1:=⟨_,rfl⟩;rw[<-hR];refine uZ [0,3] [(6,0),(1000000,1000000)] ?_;refine qG (fun m st=>∃(acc:List Mat) (s:Prs),R=sepQ l [44] (matQ l) m acc s/\s.at_<l.length/\l.length<m+s.at_/\acc.length+m<=l.length+2/\st=⟨20,[(0,.ptr 1000000 0),(3,.row 0)],(0,.row 218 7 (acc.map Mat.pv))::prsO l s⟩) (l.length+1) ⟨[x1],s1,hR,h1.2,by omega,by simp only[YF];omega,rfl⟩ ?_;clear hR
 rintro m st ⟨acc,s,hq,hs,hm,ha,rfl⟩;obtain⟨n,rfl⟩:∃n,m=n+1:=⟨m-1,by omega⟩;have HT:=wu hl s hs [44];unfold qab at HT;rw[sepQ]at hq;have hnx:∀hi:isQ l s [44]=true,s.next.at_<l.length:=fun hi=>zE hl hs (zG hi)
 cases hi:isQ l s [44]with
 |true=>
  rw[hi]at HT hq;simp only[if_true]at HT hq;have HG:=qmat_h hl s.next (hnx hi);have hg:=mat_stp hl (hnx hi);have HL:=qlim_h hl ((matQ l) s.next).2 hg.2 (decide (8<acc.length+1));have h3:=lim_lt hg.2 (decide (8<acc.length+1));have h4:s.at_+1<=(limQ l ((matQ l) s.next).2 (decide (8<acc.length+1))).at_:=by rw[qba];exact hg.1
  generalize limQ l ((matQ l) s.next).2 (decide (8<acc.length+1))=s3 at*;generalize (matQ l) s.next=q at*;obtain⟨qv,qs⟩:=q;simp only at HG hq HL;refine LA ?_;refine uC (fun hc=>?_) (fun hc=>?_);rotate_left
  · cases hc
  refine Li ?_;refine uW [(1000000,1000000)] HG ?_;refine Lj ?_;refine Kt ?_;rw[show decide ((((acc.map Mat.pv++[Mat.pv qv]).length:Nat):Int)>8)=decide (8<acc.length+1)by simp only[Ya,Yb,Yg,List.length_nil];congr 1;apply propext;constructor<;>intro h<;>omega];refine Gj ?_;refine qe ?_;refine⟨n,_,by omega,qj [0,3] [(13,0),(1000000,1000000)] rfl rfl,acc++[qv],s3,hq,h3,by omega,by simp only[Ya,YF];omega,?_⟩;rw[Yr];rfl
 |false=>
  rw[hi]at HT hq;simp only[YC,if_false]at HT hq;refine LA ?_;refine uC (fun hc=>?_) (fun hc=>?_)
  · cases hc
  refine qC ?_;rw[hq];refine Uj ?_;exact Lf
theorem qany_h (s:Prs) (h:s.at_<l.length):HoldsW prog 173 [.ptr 1000000 0] (prsO l s) (.p (anyP (anyQ l s).1)) (prsO l (anyQ l s).2):=by
 have H0:=qaD hl s h [40];have h0:=ww hl h [40];have eA:anyQ l s=((sepQ l wOr (allQ l) (l.length+1) [(allQ l (zT l s [40])).1] (allQ l (zT l s [40])).2).1,zT l (sepQ l wOr (allQ l) (l.length+1) [(allQ l (zT l s [40])).1] (allQ l (zT l s [40])).2).2 [41]):=rfl;rw[eA];clear eA
 generalize zT l s [40]=s0 at*;have HM:=qall_h hl s0 h0.2;have h1:=all_stp hl h0.2;have hn:=hl.len;generalize allQ l s0=a at*;obtain⟨x1,s1⟩:=a;simp only at HM h1;show HoldsW _ _ _ _ (.p (anyP (sepQ l wOr (allQ l) (l.length+1) [x1] s1).1)) (prsO l (zT l (sepQ l wOr (allQ l) (l.length+1) [x1] s1).2 [41]));refine qE (ts:=[2]) func173 DG rfl rfl rfl ?_;refine Kq ?_;refine uW [(1000000,1000000)] H0 ?_;refine K4 ?_;refine GU ?_;refine Lx ?_;obtain⟨R,hR⟩:∃R,R=sepQ l wOr (allQ l) (l.length+1) [x1] s1:=⟨_,rfl⟩;rw[<-hR];refine uZ [0,3] [(8,0),(1000000,1000000)] ?_;refine qG (fun m st=>∃(acc:List (List Mat)) (s:Prs),R=sepQ l wOr (allQ l) m acc s/\s.at_<l.length/\l.length<m+s.at_/\acc.length+m<=l.length+2/\st=⟨24,[(0,.ptr 1000000 0),(3,.row 0)],(0,.row 219 1 (acc.map (fun y=>[wF y])))::prsO l s⟩) (l.length+1) ⟨[x1],s1,hR,h1.2,by omega,by simp only[YF];omega,rfl⟩ ?_;clear hR
 rintro m st ⟨acc,s,hq,hs,hm,ha,rfl⟩;obtain⟨n,rfl⟩:∃n,m=n+1:=⟨m-1,by omega⟩;have HT:=wu hl s hs wOr;unfold qab at HT;rw[sepQ]at hq;have hnx:∀hi:isQ l s wOr=true,s.next.at_<l.length:=fun hi=>zE hl hs (zG hi)
 cases hi:isQ l s wOr with
 |true=>
  rw[hi]at HT hq;simp only[if_true]at HT hq;have HG:=qall_h hl s.next (hnx hi);have hg:=all_stp hl (hnx hi);have HL:=qlim_h hl ((allQ l) s.next).2 hg.2 (decide (8<acc.length+1));have h3:=lim_lt hg.2 (decide (8<acc.length+1));have h4:s.at_+1<=(limQ l ((allQ l) s.next).2 (decide (8<acc.length+1))).at_:=by rw[qba];exact hg.1
  generalize limQ l ((allQ l) s.next).2 (decide (8<acc.length+1))=s3 at*;generalize (allQ l) s.next=q at*;obtain⟨qv,qs⟩:=q;simp only at HG hq HL;refine LA ?_;refine uC (fun hc=>?_) (fun hc=>?_);rotate_left
  · cases hc
  refine Li ?_;refine uW [(1000000,1000000)] HG ?_;refine Lj ?_;refine Kt ?_;rw[show decide ((((acc.map (fun y=>[wF y])++[[wF qv]]).length:Nat):Int)>8)=decide (8<acc.length+1)by simp only[Ya,Yb,Yg,List.length_nil];congr 1;apply propext;constructor<;>intro h<;>omega];refine Gj ?_;refine qe ?_;refine⟨n,_,by omega,qj [0,3] [(15,0),(1000000,1000000)] rfl rfl,acc++[qv],s3,hq,h3,by omega,by simp only[Ya,YF];omega,?_⟩;rw[Yr];rfl
 |false=>
  rw[hi]at HT hq;simp only[YC,if_false]at HT hq;refine LA ?_;refine uC (fun hc=>?_) (fun hc=>?_)
  · cases hc
  refine qC ?_;rw[hq];refine Uj ?_;have HE:=qaD hl s hs [41];refine uR ?_;refine uW [(1000000,1000000)] HE ?_;refine qe ?_;exact Lf
theorem qtar_h (s:Prs) (h:s.at_<l.length):HoldsW prog 108 [.ptr 1000000 0] (prsO l s) (.p (tgtP (tarQ l s).1)) (prsO l (tarQ l s).2):=by
 have HT:=wu hl s h wWhen;have hn:=hl.len;unfold qab at HT;unfold tarQ;have hnx:∀hi:isQ l s wWhen=true,s.next.at_<l.length:=fun hi=>zE hl h (zG hi)
 refine qz (T:=TTab) qc func108 DG rfl rfl rfl ?_;refine uA ?_;cases hi:isQ l s wWhen with
 |false=>
  rw[hi]at HT;simp only[YC,if_false]at HT⊢;refine LA ?_;refine uC (fun hc=>?_) (fun hc=>?_);rotate_left
  · cases hc
  refine Kp ?_;exact⟨Or.inr rfl,_,_,[(1000000,1000000)],_,Wk.refl _,rfl,rfl,(.p (.nil 1)),rfl,rfl⟩
 |true=>
  rw[hi]at HT;simp only[if_true]at HT⊢;have HM:=qany_h hl s.next (hnx hi);have h1:=any_stp hl (hnx hi);generalize anyQ l s.next=a at*;obtain⟨x1,s1⟩:=a;simp only at HM h1;change SW _ _ (FinC _ _ (.p (tgtP (sepQ l wAnd (anyQ l) (l.length+1) [x1] s1).1)) (prsO l (sepQ l wAnd (anyQ l) (l.length+1) [x1] s1).2)) _;refine LA ?_;refine uC (fun hc=>?_) (fun hc=>?_)
  · cases hc
  refine Kv ?_;refine GU ?_;refine Lx ?_;clear hi
  obtain⟨R,hR⟩:∃R,R=sepQ l wAnd (anyQ l) (l.length+1) [x1] s1:=⟨_,rfl⟩;rw[<-hR];refine uZ [0,3] [(9,0),(1000000,1000000)] ?_;refine qG (fun m st=>∃(acc:List (List (List Mat))) (s:Prs),R=sepQ l wAnd (anyQ l) m acc s/\s.at_<l.length/\l.length<m+s.at_/\acc.length+m<=l.length+2/\st=⟨23,[(0,.ptr 1000000 0),(3,.row 0)],(0,.row 215 1 (acc.map (fun y=>[anyP y])))::prsO l s⟩) (l.length+1) ⟨[x1],s1,hR,h1.2,by omega,by simp only[YF];omega,rfl⟩ ?_;clear hR
  rintro m st ⟨acc,s,hq,hs,hm,ha,rfl⟩;obtain⟨n,rfl⟩:∃n,m=n+1:=⟨m-1,by omega⟩;have HT:=wu hl s hs wAnd;unfold qab at HT;rw[sepQ]at hq;have hnx:∀hi:isQ l s wAnd=true,s.next.at_<l.length:=fun hi=>zE hl hs (zG hi)
  cases hi:isQ l s wAnd with
  |true=>
   rw[hi]at HT hq;simp only[if_true]at HT hq;have HG:=qany_h hl s.next (hnx hi);have hg:=any_stp hl (hnx hi);have HL:=qlim_h hl ((anyQ l) s.next).2 hg.2 (decide (8<acc.length+1));have h3:=lim_lt hg.2 (decide (8<acc.length+1));have h4:s.at_+1<=(limQ l ((anyQ l) s.next).2 (decide (8<acc.length+1))).at_:=by rw[qba];exact hg.1
   generalize limQ l ((anyQ l) s.next).2 (decide (8<acc.length+1))=s3 at*;generalize (anyQ l) s.next=q at*;obtain⟨qv,qs⟩:=q;simp only at HG hq HL;refine LA ?_;refine uC (fun hc=>?_) (fun hc=>?_);rotate_left
   · cases hc
   refine Li ?_;refine uW [(1000000,1000000)] HG ?_;refine Lj ?_;refine Kt ?_;rw[show decide ((((acc.map (fun y=>[anyP y])++[[anyP qv]]).length:Nat):Int)>8)=decide (8<acc.length+1)by simp only[Ya,Yb,Yg,List.length_nil];congr 1;apply propext;constructor<;>intro h<;>omega];refine Gj ?_;refine qe ?_;refine⟨n,_,by omega,qj [0,3] [(16,0),(1000000,1000000)] rfl rfl,acc++[qv],s3,hq,h3,by omega,by simp only[Ya,YF];omega,?_⟩;rw[Yr];rfl
  |false=>
   rw[hi]at HT hq;simp only[YC,if_false]at HT hq;refine LA ?_;refine uC (fun hc=>?_) (fun hc=>?_)
   · cases hc
   refine qC ?_;rw[hq];refine Uj ?_;exact Ej
end
def boolsP (l:List Bool):PV:=.sl 1 (l.map fun b=>[pB b])
theorem poperands_h (op:Int):Holds prog 320 [pI op] (.p (boolsP (je op))) []:=by
 unfold je;refine qo (ts:=[2]) func320 DG rfl rfl rfl ?_;refine K2 ?_;by_cases h3:op=3
 · subst h3;rw[Yi (.inl rfl)];refine uC (fun hc=>?_) (fun hc=>?_);rotate_left
   · cases hc
   refine qh ?_;refine uC (fun hd=>?_) (fun hd=>?_);rotate_left
   · cases hd
   refine uA ?_;refine SW.wk (qu (k:=7) rfl) ?_;refine uQ ?_;exact Vf
 rw[show(op==3)=false by simpa using h3];refine uC (fun hc=>?_) (fun hc=>?_)
 · cases hc
 refine uA ?_;by_cases h4:op=4
 · subst h4;rw[Yi (.inr rfl)];refine uC (fun hd=>?_) (fun hd=>?_);rotate_left
   · cases hd
   refine uA ?_;refine SW.wk (qu (k:=7) rfl) ?_;refine uQ ?_;exact Vf
 rw[show(op==4)=false by simpa using h4,Yc DP];refine uC (fun hd=>?_) (fun hd=>?_)
 · cases hd
 refine uA ?_;by_cases h5:op=5
 · subst h5;rw[Yi rfl];refine uC (fun hd=>?_) (fun hd=>?_);rotate_left
   · cases hd
   refine uA ?_;refine SW.wk (qu (k:=10) rfl) ?_;refine uQ ?_;exact Vf
 rw[show(op==5)=false by simpa using h5,Yc h5];refine uC (fun hd=>?_) (fun hd=>?_)
 · cases hd
 refine uA ?_;by_cases h11:op=11
 · subst h11;rw[Yi rfl];refine uC (fun hd=>?_) (fun hd=>?_);rotate_left
   · cases hd
   refine uA ?_;refine SW.wk (qu (k:=13) rfl) ?_;refine uQ ?_;exact Vf
 rw[show(op==11)=false by simpa using h11,Yc h11];refine uC (fun hd=>?_) (fun hd=>?_)
 · cases hd
 refine Kw ?_;refine SW.wk (qu (k:=14) rfl) ?_;refine uQ ?_;exact Vf
section
variable {l:List Tok} (hl:TokOk l)
include hl
def nodO (l:List Tok) (r:Nat) (acc:List Nod) (s:Prs):List (Nat×Box):=prsO l s++[(r,.row 155 7 (acc.map Nod.pv))]
omit hl in
def ExOk (l:List Tok) (n:Nat):Prop:=∀(acc:List Nod) (s:Prs),s.at_<l.length->acc.length<=6000->l.length<n+s.at_->
 HoldsW prog 277 [.ptr 1000000 0,.row 1000001] (nodO l 1000001 acc s) (.tup [.row 0,.p (pB (zr l n acc s).1.2)]) (nodO l 0 (zr l n acc s).1.1 (zr l n acc s).2)
theorem qopd_h {n:Nat} (IH:ExOk l n) (acc:List Nod) (s:Prs) (h:s.at_<l.length) (ha:acc.length<=6000) (hn:l.length<n+s.at_) (must:Bool):
 HoldsW prog 234 [.ptr 1000000 0,.row 1000001,.p (pB must)] (nodO l 1000001 acc s) (.row 0) (nodO l 0 (opdQ l (zr l n) acc s must).1 (opdQ l (zr l n) acc s must).2):=by
 have HH:=qbh hl s h;have HE:=IH acc s h ha hn;unfold opdQ;generalize ze l s=t at*;generalize zr l n acc s=q at*;obtain⟨⟨qa,qb⟩,qs⟩:=q;simp only at HE⊢;have HW:=qwrong_h (l:=l) qs 5 t.at_;refine qE (ts:=[6]) func234 DG rfl rfl rfl ?_;refine Kq ?_;refine GF ?_;refine Kt ?_;refine uW [(1000000,1000000),(1000001,1000001)] HE ?_;refine Ku ?_;by_cases hb:qb=must
 · subst hb;rw[Yi rfl];cases qb with
   |true=>
    refine uC (fun hc=>?_) (fun hc=>?_)
    · cases hc
    refine KA ?_;exact uF [(1000000,1000000),(16000,0)]
   |false=>
    refine uC (fun hc=>?_) (fun hc=>?_)
    · cases hc
    refine KA ?_;exact uF [(1000000,1000000),(16000,0)]
 · rw[Yc hb];have e:(!(qb==must))=true:=by simpa using hb
   rw[e];refine uC (fun hc=>?_) (fun hc=>?_);rotate_left
   · cases hc
   refine uR ?_;refine uW [(1000000,1000000)] HW ?_;refine qe ?_;refine Kp ?_;exact uF [(1000000,1000000),(16000,0)]
omit hl in
structure ExB (l:List Tok) (n:Nat):Prop where
 len:∀(C:Nat) (acc:List Nod) (s:Prs),32<=C->acc.length<=C->(zr l n acc s).1.1.length<=C+n/\(1<=n->(zr l n acc s).2.bad=0->(zr l n acc s).1.1.length<=32)
 stp:∀(acc:List Nod) (s:Prs),s.at_<l.length->Stp l s (zr l n acc s).2
omit hl in
theorem opd_stp {n:Nat} (hB:ExB l n) (acc:List Nod) (s:Prs) (h:s.at_<l.length) (m:Bool):Stp l s (opdQ l (zr l n) acc s m).2:=by
 have h1:=hB.stp acc s h;unfold opdQ;split
 · exact h1
 · exact⟨by show _<=(jq _ _ _).at_;rw[jv];exact h1.1,by show(jq _ _ _).at_<_;rw[jv];exact h1.2⟩
omit hl in
theorem opds_stp {n:Nat} (hB:ExB l n):∀(ms:List Bool) (acc:List Nod) (s:Prs),s.at_<l.length->Stp l s (wS l (zr l n) ms acc s).2
 |[],acc,s,h=>⟨Yk _,h⟩
 |m::ms,acc,s,h=>by
  rw[wS];split
  · exact⟨Yk _,h⟩
  · have h1:=opd_stp hB acc s h m;exact h1.trans (opds_stp hB ms _ _ h1.2)
omit hl in
theorem wrong_bad (s:Prs) (e p:Int) (he:e≠0):(jq s e p).bad≠0:=by
 unfold jq;split
 · exact he
 · assumption
omit hl in
theorem opds_len {n:Nat} (hn:1<=n) (hB:ExB l n) {C:Nat} (hC:32<=C):∀(ms:List Bool) (acc:List Nod) (s:Prs),acc.length<=C->(wS l (zr l n) ms acc s).1.length<=C+n
 |[],acc,s,h=>by show acc.length<=_;omega
 |m::ms,acc,s,h=>by
  rw[wS];split
  · show acc.length<=_;omega
  · obtain⟨h1,h2⟩:=hB.len C acc s hC h;by_cases hb:(opdQ l (zr l n) acc s m).2.bad=0
    · refine opds_len hn hB hC ms _ _ ?_;have hq:(zr l n acc s).2.bad=0:=by
       unfold opdQ at hb;split at hb
       · exact hb
       · exact absurd hb (wrong_bad _ _ _ DO)
      have:=h2 hn hq;show(zr l n acc s).1.1.length<=C;omega
    · cases ms with
      |nil=>exact h1
      |cons m2 ms=>rw[wS,Yi hb];exact h1
theorem ex_b:∀n,ExB l n
 |0=>⟨fun C acc s _ h=>⟨by show acc.length<=_;omega,fun h=>absurd h DP⟩,fun acc s h=>⟨Yk _,h⟩⟩
 |n+1=>by
  have hB:=ex_b n;refine⟨fun C acc s hC h=>?_,fun acc s h=>?_⟩
  · have hr:(nodQ l (zr l n) acc s).1.1.length<=C+n:=by
     unfold nodQ;split
     · cases n with
       |zero=>
        show(wS l (zr l 0) _ acc _).1.length<=_;have:∀(ms:List Bool) (s:Prs),(wS l (zr l 0) ms acc s).1.length<=C:=fun ms=>by
         induction ms with
         |nil=>intro s;exact h
         |cons m ms ih=>
          intro s;rw[wS];split
          · exact h
          · exact ih _
        have:=this (je (2+(qO l s.next qaH).1)) (qO l s.next qaH).2;exact Xj this DP
       |succ n=>exact opds_len DP hB hC _ _ _ h
     · split
       · show acc.length<=_;omega
       · show acc.length<=_;omega
    rw[zr];refine⟨by show((nodQ l (zr l n) acc s).1.1++[(nodQ l (zr l n) acc s).1.2]).length<=_;rw[Ya,YF];omega,fun _ hb=>?_⟩;show((nodQ l (zr l n) acc s).1.1++[(nodQ l (zr l n) acc s).1.2]).length<=32;rw[Ya,YF];simp only at hb;unfold limQ at hb;split at hb
    · exact absurd hb (wrong_bad _ _ _ DO)
    · rename_i hd;simpa using hd
  · rw[zr];have h1:Stp l s (nodQ l (zr l n) acc s).2:=by
     unfold nodQ;split
     · rename_i hi;have g1:=zE hl h (zG hi);have g2:Stp l s.next (qO l s.next qaH).2:=⟨among_le _ _,among_lt hl g1 _⟩;have g3:=opds_stp hB (je (2+(qO l s.next qaH).1)) acc _ g2.2;exact Stp.trans ⟨Xr _,g1⟩ (g2.trans (g3.trans (ww hl g3.2 [41])))
     split
     · exact⟨attr_le s,attr_lt hl h⟩
     · exact⟨val_le s,val_lt hl h⟩
    exact⟨by show _<=(limQ _ _ _).at_;rw[qba];exact h1.1,lim_lt h1.2 _⟩
theorem jD {s:Prs} (h:s.at_<l.length) (ws:List Bs):Stp l s (qO l s ws).2:=⟨among_le s ws,among_lt hl h ws⟩
omit hl in
theorem among_range (s:Prs) (ws:List Bs):0<=(qO l s ws).1/\(qO l s ws).1<=ws.length:=by
 unfold qO;split
 · rename_i hh;have:ws.findIdx (fun w=>decide (w=(ze l s).s))<ws.length:=List.findIdx_lt_length.2 ⟨_,hh.2.1,by simp⟩
   simp only;omega
 · simp only;omega
theorem qfun_h {n:Nat} (IH:ExOk l n) (acc0:List Nod) (s0:Prs) (h:s0.at_<l.length) (ha0:acc0.length<=6000) (hn0:l.length<n+s0.at_):
 HoldsW prog 304 [.ptr 1000000 0,.row 1000001] (nodO l 1000001 acc0 s0) (.tup [.row 0,.p (.agg (funQ l (zr l n) acc0 s0).1.2.pv)]) (nodO l 0 (funQ l (zr l n) acc0 s0).1.1 (funQ l (zr l n) acc0 s0).2):=by
 have hB:=ex_b hl n;have hl5:=hl.len;have hn1:1<=n:=by omega
 have HA:=qamong_h hl s0 h qaH DO;have s1:=jD hl h qaH;have hr:=among_range (l:=l) s0 qaH;have e0:funQ l (zr l n) acc0 s0=(((wS l (zr l n) (je (2+(qO l s0 qaH).1)) acc0 (qO l s0 qaH).2).1,⟨2+(qO l s0 qaH).1,noV,noAtr⟩),zT l (wS l (zr l n) (je (2+(qO l s0 qaH).1)) acc0 (qO l s0 qaH).2).2 [41]):=rfl;rw[e0];clear e0
 generalize qO l s0 qaH=a at*;obtain⟨ai,sa⟩:=a;simp only at HA s1 hr⊢;have HO:=poperands_h (2+ai);obtain⟨ms,hms⟩:∃ms,ms=je (2+ai):=⟨_,rfl⟩
 have hml:ms.length<=2:=by rw[hms];unfold je;repeat' split
                           all_goals decide
 rw[<-hms]at HO⊢;have lm:(ms.map fun b=>[pB b]).length=ms.length:=by simp
 obtain⟨R,hR⟩:∃R,R=wS l (zr l n) ms acc0 sa:=⟨_,rfl⟩;rw[<-hR];refine qz (T:=TTab) qc func304 DG rfl rfl rfl ?_;refine Kq ?_;refine SWT.wk (qu (k:=10) rfl) ?_;refine uW [(1000000,1000000)] HA ?_;rw[show IntKind.i64.wrap (2+ai)=2+ai from YD _ (by simp[qaH]at hr;omega)];refine Kt ?_;refine uO HO ?_;refine Lx ?_;refine uZ [0,1,5,6,16,17,18] [(5,5),(6,6),(1000000,1000000),(1000001,1)] ?_
 refine qG (fun m st=>∃(k:Nat) (kk:Int) (acc:List Nod) (s:Prs),k<=ms.length/\m=ms.length-k/\kk=k/\R=wS l (zr l n) (ms.drop k) acc s/\Stp l s0 s/\(s.bad=0->acc.length<=6000)/\
  st=⟨36,[(0,.ptr 1000000 0),(1,.row 1),(5,.ptr 5 0),(6,.ptr 6 0),(16,.p (boolsP ms)),(17,.p (pI (ms.map fun b=>[pB b]).length)),(18,.p (pI kk))],
   [(5,.cells [.p (pI 0),.p (pI 0),.p (pI 0),.p (pS ⟨#[]⟩),.p (pI 0),.p (pS ⟨#[]⟩),.p (pB false)]),(6,.cells [.p (pI (2+ai)),.p (pI 0),.p (pI 0),.p (pS ⟨#[]⟩),.p (pI 0),.p (pS ⟨#[]⟩),.p (pB false)])]++(prsO l s++[(1,.row 155 7 (acc.map Nod.pv))])⟩) ms.length ⟨0,0,acc0,sa,Yl _,rfl,rfl,hR,s1,fun _=>ha0,rfl⟩ ?_
 clear hR
 rintro m st ⟨k,_,acc,s,hk,rfl,rfl,hR,hst,hac,rfl⟩;refine uA ?_;rw[lm];refine uC (fun hlt=>?_) (fun hlt=>?_)
 · refine qh ?_;have hlt':k<ms.length:=by simpa using hlt
   rw[Xf hlt',wS]at hR;obtain⟨mu,hmu⟩:∃mu,mu=ms[k]:=⟨_,rfl⟩;rw[<-hmu]at hR;refine Kx ?_;refine GH ?_;rw[qw hlt',<-hmu];refine Ku ?_;by_cases hb:s.bad=0;rotate_left
   · rw[Yi hb]at hR;rw[show(s.bad !=0)=true by simpa using hb];refine uC (fun hd=>?_) (fun hd=>?_);rotate_left
     · cases hd
     refine qC ?_;subst hR;have HM:=qaD hl s hst.2 [41];refine uR ?_;refine GU ?_;refine qe ?_;refine uD [5] [1,3,5,6] ?_;refine qT ?_;refine uQ ?_;exact MW
   rw[Yc (by simpa using hb)]at hR;rw[show(s.bad !=0)=false by simpa using hb];refine uC (fun hd=>?_) (fun hd=>?_)
   · cases hd
   refine qh ?_;have HP:=qopd_h hl IH acc s hst.2 (hac hb) (by have:=hst.1;omega) mu;have g1:=opd_stp hB acc s hst.2 mu;have g2:(opdQ l (zr l n) acc s mu).2.bad=0->(opdQ l (zr l n) acc s mu).1.length<=6000:=fun h0=>by
    have hq:(zr l n acc s).2.bad=0:=by
     unfold opdQ at h0;split at h0
     · exact h0
     · exact absurd h0 (wrong_bad _ _ _ DO)
    have:=(hB.len 6000 acc s DP (hac hb)).2 hn1 hq;show(zr l n acc s).1.1.length<=6000;omega
   generalize opdQ l (zr l n) acc s mu=q at*;obtain⟨qa,qs⟩:=q;simp only at HP g1 g2 hR;refine uR ?_;refine uW [(1000000,1000000),(1,1000001)] HP ?_;refine Ku ?_;refine⟨_,_,?_,qj [0,1,5,6,16,17,18] [(5,5),(6,6),(1000000,1000000),(31000,1)] rfl rfl,k+1,_,qa,qs,hlt',rfl,qq hlt' DP,hR,hst.trans g1,g2,rfl⟩;omega
 · refine qC ?_;have hkk:k=ms.length:=by simp at hlt;omega
   subst hkk;rw[List.drop_length,wS]at hR;subst hR;have HM:=qaD hl s hst.2 [41];refine uR ?_;refine GU ?_;refine qe ?_;refine uD [5] [1,3,5,6] ?_;refine qT ?_;refine uQ ?_;exact MW
end
theorem BoxOk.base {B B':Base} {Sx:Nat->Prop} {γ:Nat->Value} {own:List (Nat×Box)} {w:World} {i:Nat} {bx:Box} (h:BoxOk B Sx γ own w i bx) (hk:∀b,B'.kp b->B.kp b):BoxOk B' Sx γ own w i bx:=by
 cases h with
 |row h he hm h2=>exact .row h he hm fun b hb hB=>h2 b hb (hk b hB)
 |cells hg hB hh hl h h1=>exact .cells hg (fun hb=>hB (hk _ hb)) hh hl h h1
 |mp hg hB hh hl h=>exact .mp hg (fun hb=>hB (hk _ hb)) hh hl h
 |rws hr hz hpp hn hmid h hm h2=>exact .rws hr hz hpp hn hmid h hm fun b hb hB=>h2 b hb (hk b hB)
theorem HeapOk.base {B B':Base} {Sx:Nat->Prop} {γ:Nat->Value} {own:List (Nat×Box)} {w:World} (h:HeapOk B Sx γ own w) (hw:B'.w=B.w) (hk:∀b,B'.kp b↔B.kp b) (hf:∀i bx g,lk i own=some bx->B'.fx i=some g->γ i=g) (hl:∀i,i<1000000->B'.fx i=none):HeapOk B' Sx γ own w:=
 ⟨fun i bx hi=>(h.box i bx hi).base fun b=>(hk b).1,h.inj,fun b hb=>(hk b).2 (h.sx.sub b hb),fun b hb=>h.sx.lt b ((hk b).1 hb),hf,hl,
  ⟨fun g us hg=>by
   obtain⟨h1,h2,h3⟩:=h.sx.gl.1 g us hg;exact⟨(hk g).2 h1,h2,by rw[hw];exact h3⟩,fun g hg=>by
   obtain⟨h1,h2,h3⟩:=h.sx.gl.2 g hg;exact⟨(hk g).2 h1,h2,by rw[hw];exact h3⟩⟩⟩
theorem lk_end {own:List (Nat×Box)} {d:Nat} {bx:Box} (hd:lk d own=none) (i:Nat):lk i (own++[(d,bx)])=if i=d then some bx else lk i own:=by
 have:lk i (own++[(d,bx)])=match lk i own with|some x=>some x|none=>if i=d then some bx else none:=by
  clear hd
  induction own with
  |nil=>rw[Xe];exact qL _ _ _ _
  |cons x own ih=>
   obtain⟨a,b⟩:=x;rw[Y5,qL,qL,ih];by_cases h:i=a
   · rw[Yi h,Yi h]
   · rw[Yc h,Yc h]
 rw[this];by_cases h:i=d
 · subst h;rw[hd,Yi rfl]
 · rw[Yc h];cases lk i own with
   |none=>simp[h]
   |some x=>simp[h]
theorem HoldsW.nilarg {P:Program} {f:FuncId} {args args':List SV} {own own':List (Nat×Box)} {r:SV} {d z:Nat} {e:TypeId} (H:HoldsW P f args (own++[(d,.row e z [])]) r own') (hj:∀(i:Nat) (s:SV),args[i]?=some s->(∃s',args'[i]?=some s'/\(s'=s\/s=SV.row d/\s'=SV.p (.v (.slice none 0 0)))))
 (hla:args'.length=args.length) (hd:lk d own=none) (hd':lk d own'=none) (hge:1000000<=d):HoldsW P f args' own r own':=by
 have lkc:=lk_end (bx:=.row e z []) hd;refine⟨H.1,fun w Sx γ vs hh hl hr=>?_⟩;obtain⟨γ2,hγ⟩:∃γ2,γ2=upd γ d (.slice none 0 0):=⟨_,rfl⟩;have hu:∀i,i≠d->γ2 i=γ i:=fun i hi=>by rw[hγ];exact Yc hi
 have hud:γ2 d=.slice none 0 0:=by rw[hγ];exact Yi rfl
 obtain⟨own2,h2⟩:∃own2,own2=own++[(d,Box.row e z [])]:=⟨_,rfl⟩;rw[<-h2]at H lkc;have okn:∀b,okO Sx γ own b->okO Sx γ2 own2 b:=fun b hok=>⟨hok.1,fun i by_ hi hbi=>by
  rw[lkc]at hi;by_cases e:i=d
  · subst e;rw[hud]at hbi;cases hbi
  · rw[Yc e]at hi;rw[hu i e]at hbi;exact hok.2 i by_ hi hbi⟩
 have hpn:∀i,i≠d->hp γ2 own2 i=hp γ own i:=fun i hi=>by unfold hp;rw[lkc,Yc hi,hu i hi]
 have hkp:∀b,(wV w γ2 own2).kp b↔(wV w γ own).kp b:=fun b=>by
  refine and_congr Iff.rfl ⟨fun h i bx hi hb=>?_,fun h i bx hi hb=>?_⟩
  · have e:i≠d:=fun e=>by subst e;rw[hd]at hi;cases hi
    exact h i bx (by rw[lkc,Yc e];exact hi) (by rw[hu i e];exact hb)
  · rw[lkc]at hi;by_cases e:i=d
    · subst e;rw[hud]at hb;cases hb
    · rw[Yc e]at hi;rw[hu i e]at hb;exact h i bx hi hb
 have keepS:∀s u,RelS (okO Sx γ own) (hp γ own) w s u->RelS (okO Sx γ2 own2) (hp γ2 own2) w s u:=fun s u h=>
  h.keep2 (Yk _) (fun b _ hok=>⟨rfl,okn b hok⟩) fun k hk=>hpn k fun ek=>by subst ek;rw[h.live (jO hd)]at hk;cases hk
 have hh2:HeapOk (wV w γ2 own2) Sx γ2 own2 w:=by
  refine⟨fun i by_ hi=>?_,fun i j bi bj b hi hj hbi hbj=>?_,fun b hb=>(hkp b).2 (hh.sx.sub b hb),fun b hb=>hh.sx.lt b ((hkp b).1 hb),fun i bx g hi hg=>?_,fun i hi=>Yi hi,
   ⟨fun g us hg=>?_,fun g hg=>?_⟩⟩
  · rw[lkc]at hi;by_cases ei:i=d
    · subst ei;rw[Yi rfl]at hi;cases hi;refine .row ?_ DQ (Yl _) (fun b hb=>by rw[hud]at hb;cases hb);rw[hud];exact rowO_nil
    · rw[Yc ei]at hi;exact((hh.box i by_ hi).keep (Box.rel_refl _) (hu i ei) (Yk _) (fun b hb=>⟨rfl,(hh.blk hi hb).1⟩) (fun b hb hok=>⟨rfl,okn b hok⟩) fun s u s' this es=>by subst es;exact keepS _ u this).base fun b=>(hkp b).1
  · rw[lkc]at hi hj;by_cases e1:i=d
    · subst e1;rw[hud]at hbi;cases hbi
    · by_cases e2:j=d
      · subst e2;rw[hud]at hbj;cases hbj
      · rw[Yc e1]at hi;rw[Yc e2]at hj;rw[hu i e1]at hbi;rw[hu j e2]at hbj;exact hh.inj i j _ _ b hi hj hbi hbj
  · have hg':(if i<1000000 then none else hp γ2 own2 i)=some g:=hg;split at hg'
    · cases hg'
    · unfold hp at hg';rw[hi]at hg';cases hg';rfl
  · obtain⟨h1,h2,h3⟩:=hh.sx.gl.1 g us hg;exact⟨(hkp g).2 h1,h2,h3⟩
  · obtain⟨h1,h2,h3⟩:=hh.sx.gl.2 g hg;exact⟨(hkp g).2 h1,h2,h3⟩
 have hr2:∀(i:Nat) (s:SV) (u:Value),args[i]?=some s->vs[i]?=some u->RelS (okO Sx γ2 own2) (hp γ2 own2) w s u:=fun i s u hs hu'=>by
  obtain⟨s',h1,h2'⟩:=hj i s hs;have h3:=hr i s' u h1 hu';rcases h2' with rfl|⟨rfl,rfl⟩
  · exact keepS _ _ h3
  · rw[h3.v_inv];refine .row ?_;unfold hp;rw[lkc,Yi rfl,hud]
 refine(H.2 w Sx γ2 vs hh2 (by rw[hl,hla]) hr2).mono ?_;rintro ev w' ⟨v,γ',r',o',⟨rfl,rfl⟩,h3,h4,h5,h6⟩;refine⟨v,γ',r',o',⟨rfl,rfl⟩,h3,⟨h4.1,fun b hb=>h4.2 b ((hkp b).2 hb)⟩,h5.base rfl (fun b=>(hkp b).symm) (fun i bx g hi hg=>?_) (fun i hi=>Yi hi),h6⟩;refine h5.sx.fix i bx g hi ?_;have hg':(if i<1000000 then none else hp γ own i)=some g:=hg;show(if i<1000000 then none else hp γ2 own2 i)=some g;rw[hpn i (fun e=>by subst e;rw[hd']at hi;cases hi)];exact hg'
section
variable {l:List Tok} (hl:TokOk l)
include hl
def nodC (x:Nod):List SV:=[.p (pI x.op),.p (pI x.val.kind),.p (pI x.val.n),.p (pS x.val.s),.p (pI x.attr.cat),.p (pS x.attr.name),.p (pB x.attr.must)]
theorem qexp_h {n:Nat} (hn6:n<=6000) (IH:ExOk l n):ExOk l (n+1):=by
 intro acc s h ha hn;have HH:=qbh hl s h;have HT:=wu hl s h [40];have l5:=hl.len;unfold qab at HT;obtain⟨N,hN⟩:∃N,N=nodQ l (zr l n) acc s:=⟨_,rfl⟩;have e0:zr l (n+1) acc s=((N.1.1++[N.1.2],decide (N.1.2.op=2)),limQ l N.2 (decide (32<N.1.1.length+1))):=by rw[hN];rfl
 have hst:=(ex_b hl (n+1)).stp acc s h;have hle:=((ex_b hl (n+1)).len 6000 acc s DP ha).1;rw[e0]at hst hle⊢;clear e0
 replace hst:Stp l s N.2:=⟨by have:=hst.1;rwa [qba]at this,by have:=hst.2;rwa [qba]at this⟩
 replace hle:N.1.1.length<=13000:=by rw[Ya]at hle;omega
 have HL:=qlim_h hl N.2 hst.2 (decide (32<N.1.1.length+1));have hat:(limQ l N.2 (decide (32<N.1.1.length+1))).at_=N.2.at_:=qba _ _;show HoldsW _ _ _ _ (.tup [.row 0,.p (pB (decide (N.1.2.op=2)))]) (nodO l 0 (N.1.1++[N.1.2]) (limQ l N.2 (decide (32<N.1.1.length+1))));refine qE (ts:=[4,5]) func277 DG rfl rfl rfl ?_;refine uA ?_;refine Kq ?_;refine GF ?_;refine Lx ?_;refine SW.mono (Q:=fun e st=>e=.normal/\Wk st ⟨52,[(0,.ptr 1000000 0),(1,.row 1),(6,.ptr 6 0)],[(6,.cells (nodC N.1.2))]++(prsO l N.2++[(1,.row 155 7 (N.1.1.map Nod.pv))])⟩) ?_ ?_
 · unfold nodQ at hN;refine Lt ?_;refine Ko ?_;cases hi:isQ l s [40]with
   |true=>
    rw[hi]at HT hN;simp only[if_true]at HT hN;have HF:=qfun_h hl IH acc s.next (zE hl h (zG hi)) ha (by show _<n+(s.at_+1);omega);rw[<-hN]at HF;refine uC (fun hc=>?_) (fun hc=>?_);rotate_left
    · cases hc
    refine uR ?_;refine uW [(1000000,1000000),(1000001,1000001)] HF ?_;refine Ko ?_;exact⟨rfl,qj [0,1,6] [(6,6),(1000000,1000000),(20000,1)] rfl rfl⟩
   |false=>
    rw[hi]at HT hN;simp only[YC,if_false]at HT hN;have HA:=qattr_h hl s h;have HV:=qval_h hl s h;refine uC (fun hc=>?_) (fun hc=>?_)
    · cases hc
    refine uR ?_;generalize ze l s=t at*;by_cases hx:t.kind=1/\t.s≠wTrue/\t.s≠wFalse
    · rw[Yi hx]at hN;rw[show(t.kind==1)=true by simp[hx.1]];refine uS ?_;rw[beq_l,show(!decide (t.s=[116,114,117,101]))=true by simpa [wTrue]using hx.2.1];refine uS ?_;rw[beq_l,show(!decide (t.s=[102,97,108,115,101]))=true by simpa [wFalse]using hx.2.2];refine Ko ?_;refine uC (fun hc=>?_) (fun hc=>?_);rotate_left
      · cases hc
      refine uR ?_;refine uW [(1000000,1000000)] HA ?_;refine Ko ?_;rw[hN];exact Gp
    · rw[Yc hx]at hN;by_cases hk:t.kind=1
      · rw[show(t.kind==1)=true by simp[hk]];refine uS ?_;rw[beq_l];by_cases h1:t.s=wTrue
        · rw[show(!decide (t.s=[116,114,117,101]))=false by simpa [wTrue]using h1];refine Ko ?_;refine uC (fun hc=>?_) (fun hc=>?_)
          · cases hc
          refine uR ?_;refine MN ?_;refine Ko ?_;rw[hN];exact Gp
        · rw[show(!decide (t.s=[116,114,117,101]))=true by simpa [wTrue]using h1];refine uS ?_;rw[beq_l,show(!decide (t.s=[102,97,108,115,101]))=false by simpa [wFalse]using Classical.not_not.1 fun h2=>hx ⟨hk,h1,h2⟩];refine Ko ?_;refine uC (fun hc=>?_) (fun hc=>?_)
          · cases hc
          refine uR ?_;refine MN ?_;refine Ko ?_;rw[hN];exact Gp
      · rw[show(t.kind==1)=false by simp[hk]];refine Ko ?_;refine uC (fun hc=>?_) (fun hc=>?_)
        · cases hc
        refine uR ?_;refine MN ?_;refine Ko ?_;rw[hN];exact Gp
 clear hN hn h
 rintro e st ⟨rfl,hw⟩;refine V3 ?_;obtain⟨⟨N1,Nd⟩,Ns⟩:=N;simp only at*;refine uR ?_;refine XA ?_;refine Kt ?_;rw[show decide ((((N1.map Nod.pv++[[pI Nd.op,pI Nd.val.kind,pI Nd.val.n,pS Nd.val.s,pI Nd.attr.cat,pS Nd.attr.name,pB Nd.attr.must]]).length:Nat):Int)>32)=decide (32<N1.length+1)by simp only[Ya,Yb,Yg,List.length_nil];congr 1;apply propext;constructor<;>intro h<;>omega];refine Gj ?_;refine qe ?_;refine uD [] [1,3,5,7,9,11] ?_;refine qT ?_;refine uQ ?_;unfold nodO;rw[show(N1++[Nd]).map Nod.pv=N1.map Nod.pv++[[pI Nd.op,pI Nd.val.kind,pI Nd.val.n,pS Nd.val.s,pI Nd.attr.cat,pS Nd.attr.name,pB Nd.attr.must]]from Yr ..,show decide (Nd.op=2)=(Nd.op==2)from rfl];exact uF [(1000000,1000000),(42,0)]
end
section
variable {l:List Tok} (hl:TokOk l)
include hl
theorem ex_ok:∀n,n<=6000->ExOk l n
 |0,_=>fun acc s h _ hn=>by omega
 |n+1,h=>qexp_h hl DP (ex_ok n DP)
theorem qopdN_h (s:Prs) (h:s.at_<l.length) (must:Bool):HoldsW prog 234 [.ptr 1000000 0,.p (.v (.slice none 0 0)),.p (pB must)] (prsO l s) (.row 0) (nodO l 0 (opdQ l (zr l (l.length+1)) [] s must).1 (opdQ l (zr l (l.length+1)) [] s must).2):=
 (qopd_h hl (ex_ok hl (l.length+1) (by have:=hl.len;omega)) [] s h DQ DP must).nilarg (fun i s hs=>by
  match i,hs with
  |0,hs=>exact⟨s,hs,.inl rfl⟩
  |1,hs=>cases hs;exact⟨_,rfl,.inr ⟨rfl,rfl⟩⟩
  |2,hs=>exact⟨s,hs,.inl rfl⟩
  |n+3,hs=>simp at hs) rfl rfl rfl DO
theorem opdN_stp {s:Prs} (h:s.at_<l.length) (m:Bool):Stp l s (opdQ l (zr l (l.length+1)) [] s m).2:=opd_stp (ex_b hl _) [] s h m
theorem obl_stp {s:Prs} (h:s.at_<l.length):Stp l s (oblQ l s).2:=by
 have h1:=jD hl h wSides;have h2:=jD hl h1.2 wKinds;exact h1.trans (h2.trans ⟨name_le _,name_lt hl h2.2⟩)
theorem dut_stp {s:Prs} (h:s.at_<l.length):Stp l s (dutQ l s).2:=sep_stp hl (fun s h=>obl_stp hl h) _ _ _ h
theorem qdut_h (s:Prs) (h:s.at_<l.length):HoldsW prog 112 [.ptr 1000000 0] (prsO l s) (.p (zh (dutQ l s).1)) (prsO l (dutQ l s).2):=by
 have hn5:=hl.len;obtain⟨R,hR⟩:∃R,R=dutQ l s:=⟨_,rfl⟩;rw[<-hR];unfold dutQ at hR;refine qE (ts:=[2]) func112 DG rfl rfl rfl ?_;refine KH ?_;refine SW.wk (zw 3 900 64 3 rfl rfl) ?_;refine uZ [0,3] [(900,0),(1000000,1000000)] ?_;refine qG (fun m st=>∃(acc:List Obli) (s:Prs),R=sepQ l wOn (oblQ l) m acc s/\s.at_<l.length/\l.length<m+s.at_/\acc.length+m<=l.length+2/\st=⟨28,[(0,.ptr 1000000 0),(3,.row 0)],(0,.row 64 3 (acc.map Obli.pv))::prsO l s⟩) (l.length+1) ⟨[],s,hR,h,by omega,by simp,rfl⟩ ?_;clear hR h
 rintro m st ⟨acc,s,hq,hs,hm,ha,rfl⟩;obtain⟨n,rfl⟩:∃n,m=n+1:=⟨m-1,by omega⟩;have HT:=wu hl s hs wOn;unfold qab at HT;rw[sepQ]at hq;have hnx:∀hi:isQ l s wOn=true,s.next.at_<l.length:=fun hi=>zE hl hs (zG hi)
 cases hi:isQ l s wOn with
 |true=>
  rw[hi]at HT hq;simp only[if_true]at HT hq;have hlt:=hnx hi;have H1:=qamong_h hl s.next hlt wSides DO;have g1:=jD hl hlt wSides;have H2:=qamong_h hl _ g1.2 wKinds DO;have g2:=jD hl g1.2 wKinds;have H3:=qname_h hl _ g2.2;have hg:=obl_stp hl hlt;have HL:=qlim_h hl _ hg.2 (decide (8<acc.length+1));have h3:=lim_lt hg.2 (decide (8<acc.length+1));have h4:s.at_+1<=(limQ l (oblQ l s.next).2 (decide (8<acc.length+1))).at_:=by rw[qba];exact hg.1
  rw[show oblQ l s.next=(⟨(qO l s.next wSides).1,(qO l (qO l s.next wSides).2 wKinds).1,bs (zH l (qO l (qO l s.next wSides).2 wKinds).2).1⟩,(zH l (qO l (qO l s.next wSides).2 wKinds).2).2)from rfl]at hq HL h3 h4;simp only at hq HL h3 h4;generalize qO l s.next wSides=q1 at*;obtain⟨v1,s1⟩:=q1;simp only at H1 H2 H3 hq HL h3 h4;generalize qO l s1 wKinds=q2 at*;obtain⟨v2,s2⟩:=q2;simp only at H2 H3 hq HL h3 h4;generalize zH l s2=q3 at*;obtain⟨v3,s3⟩:=q3;simp only at H3 hq HL h3 h4;generalize limQ l s3 (decide (8<acc.length+1))=s4 at*;clear g1 g2 hg
  refine LA ?_;refine uC (fun hc=>?_) (fun hc=>?_);rotate_left
  · cases hc
  refine Lh ?_;refine Kq ?_;refine SWT.wk (qu (k:=8) rfl) ?_;refine GG ?_;refine Kt ?_;refine SWT.wk (qu (k:=12) rfl) ?_;refine MM ?_;refine Kt ?_;refine Kh ?_;refine Ko ?_;refine uZ [0,3,4] [(0,0),(4,4),(1000000,1000000)] ?_;change SW _ _ _ ⟨28,[(0,.ptr 1000000 0),(3,.row 0),(4,.ptr 4 0)],[(0,.row 64 3 (acc.map Obli.pv)),(4,.cells [.p (pI v1),.p (pI v2),.p (pL v3)]),(1000000,.cells [.p (.sl 4 (l.map Tok.pv)),.p (pI s3.at_),.p (pI s3.rules),.p (pI s3.bad),.p (pI s3.place)])]⟩;refine uR ?_;refine XA ?_;refine Kt ?_;rw[show decide ((((acc.map Obli.pv++[[pI v1,pI v2,pL v3]]).length:Nat):Int)>8)=decide (8<acc.length+1)by simp only[Ya,Yb,Yg,List.length_nil];congr 1;apply propext;constructor<;>intro h<;>omega];refine Gj ?_;refine qe ?_;refine⟨n,_,by omega,qj [0,3] [(21,0),(1000000,1000000)] rfl rfl,acc++[⟨v1,v2,bs v3⟩],s4,hq,h3,by omega,by simp only[Ya,YF];omega,?_⟩;rw[show(acc++[(⟨v1,v2,bs v3⟩:Obli)]).map Obli.pv=acc.map Obli.pv++[[pI v1,pI v2,pL v3]]from Yr ..];rfl
 |false=>
  rw[hi]at HT hq;simp only[YC,if_false]at HT hq;refine LA ?_;refine uC (fun hc=>?_) (fun hc=>?_)
  · cases hc
  refine qC ?_;rw[hq];refine Uj ?_;exact Lf
end
section
variable {l:List Tok} (hl:TokOk l)
include hl
theorem rul_stp (deny:Bool) {s:Prs} (h:s.at_<l.length):Stp l s (rulQ l deny s).2:=by
 have h1:Stp l s (zH l s).2:=⟨name_le s,name_lt hl h⟩;have h2:=h1.trans (tar_stp hl h1.2);have hc:Stp l (tarQ l (zH l s).2).2 (if isQ l (tarQ l (zH l s).2).2 wIf then opdQ l (zr l (l.length+1)) [] (tarQ l (zH l s).2).2.next false else([],(tarQ l (zH l s).2).2)).2:=by
  cases hi:isQ l (tarQ l (zH l s).2).2 wIf with
  |true=>
   simp only[if_true];have hx:=zE hl h2.2 (zG hi);have h3:=opdN_stp hl hx false;exact⟨Xj (Xr _) h3.1,h3.2⟩
  |false=>simp only[YC,if_false];exact⟨Yk _,h2.2⟩
 have h3:=h2.trans hc;have h4:=h3.trans (dut_stp hl h3.2);exact h4.trans (ww hl h4.2 _)
theorem qrul_h (deny:Bool) (s:Prs) (h:s.at_<l.length):HoldsW prog 176 [.ptr 1000000 0,.p (pB deny)] (prsO l s) (.p (.agg (zo (rulQ l deny s).1))) (prsO l (rulQ l deny s).2):=by
 have HN:=qname_h hl s h;have h1:=name_lt hl h;have HT:=qtar_h hl _ h1;have h2:=(tar_stp hl h1).2;obtain⟨R,hR⟩:∃R,R=rulQ l deny s:=⟨_,rfl⟩;rw[<-hR];unfold rulQ at hR;generalize zH l s=n at*;obtain⟨v1,s1⟩:=n;simp only at HN h1 HT h2 hR;generalize tarQ l s1=t at*;obtain⟨v2,s2⟩:=t;simp only at HT h2 hR;have HI:=wu hl s2 h2 wIf;unfold qab at HI;cases hi:isQ l s2 wIf with
 |true=>
  rw[hi]at HI hR;simp only[if_true]at HI hR;have h3:=zE hl h2 (zG hi);have HO:=qopdN_h hl s2.next h3 false;have h4:=(opdN_stp hl h3 false).2;generalize opdQ l (zr l (l.length+1)) [] s2.next false=o at*;obtain⟨v3,s3⟩:=o;simp only at HO h4 hR;have HD:=qdut_h hl s3 h4;have h5:=(dut_stp hl h4).2;generalize dutQ l s3=d at*;obtain⟨v4,s4⟩:=d;simp only at HD h5 hR;have HM:=qaD hl s4 h5 [59];generalize zT l s4 [59]=s5 at*;subst hR;refine qz (T:=TTab) qc func176 DG rfl rfl rfl ?_;refine Kq ?_;refine uW [(1000000,1000000)] HN ?_;refine uS ?_;refine VE ?_;refine Kt ?_;refine uW [(1000000,1000000)] HI ?_;refine qe ?_;refine uC (fun hc=>?_) (fun hc=>?_);rotate_left
  · cases hc
  refine uR ?_;refine uW [(1000000,1000000)] HO ?_;refine SWT.wk (qu (k:=16000) rfl) ?_;refine Kt ?_;refine uW [(1000000,1000000)] HD ?_;refine Kt ?_;refine GU ?_;refine Kt ?_;refine Ks ?_;exact XG
 |false=>
  rw[hi]at HI hR;simp only[YC,if_false]at HI hR;have HD:=qdut_h hl s2 h2;have h5:=(dut_stp hl h2).2;generalize dutQ l s2=d at*;obtain⟨v4,s4⟩:=d;simp only at HD h5 hR;have HM:=qaD hl s4 h5 [59];generalize zT l s4 [59]=s5 at*;subst hR;refine qz (T:=TTab) qc func176 DG rfl rfl rfl ?_;refine Kq ?_;refine uW [(1000000,1000000)] HN ?_;refine uS ?_;refine VE ?_;refine Kt ?_;refine uW [(1000000,1000000)] HI ?_;refine qe ?_;refine uC (fun hc=>?_) (fun hc=>?_)
  · cases hc
  refine Kv ?_;refine uW [(1000000,1000000)] HD ?_;refine Kt ?_;refine GU ?_;refine Kt ?_;refine Ks ?_;exact⟨Or.inr rfl,_,_,[(1000000,1000000)],_,Wk.refl _,rfl,rfl,.p (CvL.agg (.cons (.refl _) (.cons (.refl _) (.cons (.refl _) (.cons (.nil 7) (.cons (.refl _) .nil)))))),rfl,rfl⟩
end
section
variable {l:List Tok} (hl:TokOk l)
include hl
theorem isor_lt {s:Prs} (h:s.at_<l.length) {a b:Bs} (hi:(isQ l s a||isQ l s b)=true):s.at_+1<l.length:=by
 rcases Xm _ _ |>.mp hi with h1|h1<;>exact zE hl h (zG h1)
theorem some_stp:∀(n:Nat) (acc:List Rul) (s:Prs),s.at_<l.length->Stp l s (jY l n acc s).2
 |0,acc,s,h=>⟨Yk _,h⟩
 |n+1,acc,s,h=>by
  rw[jY];cases hi:(isQ l s wPermit||isQ l s qbo)with
  |false=>simp only[YC,if_false];exact⟨Yk _,h⟩
  |true=>
   simp only[if_true];have hx:=isor_lt hl h hi;have e:=qba (l:=l) s (decide (acc.length=16)||decide (s.rules=64));generalize limQ l s (decide (acc.length=16)||decide (s.rules=64))=s1 at*;by_cases hb:s1.bad≠0
   · rw[Yi hb];exact⟨by show s.at_<=s1.at_;omega,by show s1.at_<_;omega⟩
   · rw[Yc hb];have h1:=rul_stp hl (isQ l s1 qbo) (s:={s1 with rules:=Go.IntKind.i64.wrap (s1.rules+1),at_:=s1.at_+1}) (by show s1.at_+1<_;omega);have h2:=some_stp n (acc++[(rulQ l (isQ l s1 qbo) {s1 with rules:=Go.IntKind.i64.wrap (s1.rules+1),at_:=s1.at_+1}).1]) _ h1.2;have h3:=h1.trans h2;exact⟨by have:=h3.1;simp only at this;omega,h3.2⟩
theorem qsome_h (s:Prs) (h:s.at_<l.length):HoldsW prog 111 [.ptr 1000000 0] (prsO l s) (.p (.sl 5 ((jY l (l.length+1) [] s).1.map zo))) (prsO l (jY l (l.length+1) [] s).2):=by
 have hn5:=hl.len;obtain⟨R,hR⟩:∃R,R=jY l (l.length+1) [] s:=⟨_,rfl⟩;rw[<-hR];refine qE (ts:=[2]) func111 DG rfl rfl rfl ?_;refine KH ?_;refine SW.wk (zw 3 900 150 5 rfl rfl) ?_;refine uZ [0,3] [(900,0),(1000000,1000000)] ?_;refine qG (fun m st=>∃(acc:List Rul) (s:Prs),R=jY l m acc s/\s.at_<l.length/\l.length<m+s.at_/\acc.length+m<=l.length+2/\st=⟨51,[(0,.ptr 1000000 0),(3,.row 0)],(0,.row 150 5 (acc.map zo))::prsO l s⟩) (l.length+1) ⟨[],s,hR,h,by omega,by simp,rfl⟩ ?_;clear hR h
 rintro m st ⟨acc,s,hq,hs,hm,ha,rfl⟩;obtain⟨n,rfl⟩:∃n,m=n+1:=⟨m-1,by omega⟩;have H1:=qis_h hl s hs wPermit;have H2:=qis_h hl s hs qbo;rw[jY]at hq;have hx:=fun hi=>isor_lt hl hs (a:=wPermit) (b:=qbo) hi
 have HL:=qlim_h hl s hs (decide (acc.length=16)||decide (s.rules=64));have e:=qba (l:=l) s (decide (acc.length=16)||decide (s.rules=64));generalize isQ l s wPermit=b1 at*;generalize isQ l s qbo=b2 at*;refine Ut ?_;refine SW.mono (Q:=fun e st=>e=.normal/\Wk st ⟨51,[(0,.ptr 1000000 0),(3,.row 0),(10,.p (pB (b1||b2)))],(0,.row 150 5 (acc.map zo))::prsO l s⟩) ?_ ?_
 · cases b1 with
   |true=>
    refine uR ?_;refine GG ?_;refine Ko ?_;exact⟨rfl,qj [0,3,10] [(0,0),(1000000,1000000)] rfl rfl⟩
   |false=>
    refine uR ?_;refine GG ?_;refine uS ?_;refine MM ?_;refine Ko ?_;exact⟨rfl,qj [0,3,10] [(0,0),(1000000,1000000)] rfl rfl⟩
 rintro e st ⟨rfl,hw⟩;refine V3 ?_;cases hb:(b1||b2)with
 |true=>
  rw[hb]at hq hx;simp only[if_true]at hq;have hx:=hx rfl;obtain⟨S1,hS⟩:∃S1,S1=limQ l s (decide (acc.length=16)||decide (s.rules=64)):=⟨_,rfl⟩;rw[<-hS]at HL hq e;clear hS
  have H3:=qis_h hl {S1 with rules:=IntKind.i64.wrap (S1.rules+1)} (by show S1.at_<_;omega) qbo;have HR:=qrul_h hl (isQ l S1 qbo) {S1 with rules:=IntKind.i64.wrap (S1.rules+1),at_:=S1.at_+1} (by show S1.at_+1<_;omega);have hr:=rul_stp hl (isQ l S1 qbo) (s:={S1 with rules:=IntKind.i64.wrap (S1.rules+1),at_:=S1.at_+1}) (by show S1.at_+1<_;omega);rw[show isQ l {S1 with rules:=IntKind.i64.wrap (S1.rules+1)} qbo=isQ l S1 qbo from rfl]at H3;generalize isQ l S1 qbo=dn at*;generalize rulQ l dn {S1 with rules:=IntKind.i64.wrap (S1.rules+1),at_:=S1.at_+1}=rr at*;obtain⟨rv,rs⟩:=rr;simp only at HR hr hq;refine uC (fun hc=>?_) (fun hc=>?_);rotate_left
  · cases hc
  refine Lh ?_;refine Ut ?_;refine SW.mono (Q:=fun e st=>e=.normal/\Wk st ⟨51,[(0,.ptr 1000000 0),(3,.row 0)],(0,.row 150 5 (acc.map zo))::prsO l S1⟩) ?_ ?_
  · refine uR ?_;rw[show((((acc.map zo).length:Nat):Int)==16)=decide (acc.length=16)by rw[YO,Yb];simp only[beq_iff_eq,Yf];omega];cases h16:decide (acc.length=16)with
    |true=>
     rw[h16]at HL;refine uS ?_;refine Gj ?_;refine Ko ?_;exact⟨rfl,qj [0,3] [(0,0),(1000000,1000000)] rfl rfl⟩
    |false=>
     rw[h16]at HL;refine uS ?_;refine Gj ?_;refine Ko ?_;exact⟨rfl,qj [0,3] [(0,0),(1000000,1000000)] rfl rfl⟩
  rintro e' st ⟨rfl,hw⟩;refine V3 ?_;refine uR ?_;refine qe ?_;rw[show(S1.bad !=0)=decide (S1.bad≠0)by rw[YO];simp];by_cases hbd:S1.bad≠0
  · rw[Yi hbd]at hq;rw[Yz hbd];refine uC (fun hc=>?_) (fun hc=>?_);rotate_left
    · cases hc
    refine qC ?_;rw[hq];refine Uj ?_;exact Lf
  · rw[Yc hbd]at hq;rw[YB hbd];refine uC (fun hc=>?_) (fun hc=>?_)
    · cases hc
    refine qh ?_;refine Kq ?_;refine Kh ?_;refine Kt ?_;rw[show IntKind.i64.wrap ((S1.at_:Int)+1)=((S1.at_+1:Nat):Int)from YD _ DP];refine Ko ?_;refine uZ [0,3,4] [(0,0),(1000000,1000000)] ?_;change SW _ _ _ ⟨51,[(0,.ptr 1000000 0),(3,.row 0),(4,.p (pB dn))],(0,.row 150 5 (acc.map zo))::prsO l {S1 with rules:=IntKind.i64.wrap (S1.rules+1),at_:=S1.at_+1}⟩;refine uR ?_;refine uW [(1000000,1000000)] HR ?_;refine Lj ?_;refine Ko ?_;refine⟨n,_,by omega,qj [0,3] [(49,0),(1000000,1000000)] rfl rfl,acc++[rv],rs,hq,hr.2,by have:=hr.1;simp only at this;omega,by simp only[Ya,YF];omega,?_⟩;rw[show(acc++[rv]).map zo=acc.map zo++[zo rv]from Yr ..];rfl
 |false=>
  rw[hb]at hq;simp only[YC,if_false]at hq;refine uC (fun hc=>?_) (fun hc=>?_)
  · cases hc
  refine qC ?_;rw[hq];refine Uj ?_;exact Lf
end
section
variable {l:List Tok} (hl:TokOk l)
include hl
theorem among_adv {s:Prs} (h:s.at_<l.length) {w:Bs} {ws:List Bs} (hw:w∈ws) (h1:w.length≠1) (hi:isQ l s w=true):(qO l s ws).2=s.next:=by
 have hx:=hi;unfold isQ at hx;simp only[Yp,Xm,Yf]at hx;obtain⟨⟨_,hs⟩,hk⟩:=hx;have hk1:(ze l s).kind=1:=by
  rcases hk with hk|hk
  · exact hk
  · have:=hl.one (ze l s) (by rw[hereQ_at h];exact Yn _) hk;rw[hs]at this;exact absurd this h1
 unfold qO;rw[Yi ⟨hk1,by rw[hs];exact hw,by rw[hs];exact hi⟩]
def PkS (l:List Tok) (pk:Prs->Pol×Prs):Prop:=∀s:Prs,s.at_<l.length->Stp l s (pk s).2/\((isQ l s zx||isQ l s wSet)=true->s.at_+1<=(pk s).2.at_)
def PkH (l:List Tok) (pk:Prs->Pol×Prs) (d:Int):Prop:=∀s:Prs,s.at_<l.length->HoldsW prog 58 [.ptr 1000000 0,.p (pI d)] (prsO l s) (.p (.agg (polP (pk s).1))) (prsO l (pk s).2)
omit hl in
theorem lim_bad (s:Prs):(limQ l s true).bad≠0:=by
 unfold limQ;rw[Yi rfl];exact wrong_bad s 6 _ DO
omit hl in
theorem lim_eq {s:Prs} {b:Bool} (h:(limQ l s b).bad=0):limQ l s b=s:=by
 cases b with
 |true=>exact absurd h (lim_bad s)
 |false=>rfl
omit hl in
theorem lim_d {s:Prs} {n:Nat} {d:Int} (h:¬(limQ l s (decide (n=16)||decide (d>4))).bad≠0):d<=4/\limQ l s (decide (n=16)||decide (d>4))=s:=by
 refine⟨?_,lim_eq (Classical.not_not.1 h)⟩;apply Xa;intro hd;apply h;rw[show(decide (n=16)||decide (d>4))=true by rw[Yz (show d>4 by omega),Bool.or_true]];exact lim_bad s
omit hl in
theorem kids_stp {pk:Prs->Pol×Prs} (d:Int) (hS:d<=4->PkS l pk):∀(n:Nat) (acc:List Pol) (s:Prs),s.at_<l.length->Stp l s (ju l pk d n acc s).2
 |0,acc,s,h=>⟨Yk _,h⟩
 |n+1,acc,s,h=>by
  rw[ju];cases hi:(isQ l s zx||isQ l s wSet)with
  |false=>simp only[YC,if_false];exact⟨Yk _,h⟩
  |true=>
   simp only[if_true];have e:=qba (l:=l) s (decide (acc.length=16)||decide (d>4));by_cases hb:(limQ l s (decide (acc.length=16)||decide (d>4))).bad≠0
   · rw[Yi hb];exact⟨by show s.at_<=(limQ l s _).at_;omega,by show(limQ l s _).at_<_;omega⟩
   · rw[Yc hb];obtain⟨hd,es⟩:=lim_d hb;rw[es];have h1:=(hS hd s h).1;exact h1.trans (kids_stp d hS n (acc++[(pk s).1]) _ h1.2)
theorem qkids_h {pk:Prs->Pol×Prs} (d:Int) (hS:d<=4->PkS l pk) (hP:d<=4->PkH l pk d) (s:Prs) (h:s.at_<l.length):HoldsW prog 110 [.ptr 1000000 0,.p (pI d)] (prsO l s) (.p (.sl 7 ((ju l pk d (l.length+1) [] s).1.map polP))) (prsO l (ju l pk d (l.length+1) [] s).2):=by
 have hn5:=hl.len;obtain⟨R,hR⟩:∃R,R=ju l pk d (l.length+1) [] s:=⟨_,rfl⟩;rw[<-hR];refine qE (ts:=[4]) func110 DG rfl rfl rfl ?_;refine KH ?_;refine SW.wk (zw 5 900 38 7 rfl rfl) ?_;refine uZ [0,1,5] [(900,0),(1000000,1000000)] ?_;refine qG (fun m st=>∃(acc:List Pol) (s:Prs),R=ju l pk d m acc s/\s.at_<l.length/\l.length<m+s.at_/\acc.length+m<=l.length+2/\st=⟨33,[(0,.ptr 1000000 0),(1,.p (pI d)),(5,.row 0)],(0,.row 38 7 (acc.map polP))::prsO l s⟩) (l.length+1) ⟨[],s,hR,h,by omega,by simp,rfl⟩ ?_;clear hR h
 rintro m st ⟨acc,s,hq,hs,hm,ha,rfl⟩;obtain⟨n,rfl⟩:∃n,m=n+1:=⟨m-1,by omega⟩;have H1:=qis_h hl s hs zx;have H2:=qis_h hl s hs wSet;rw[ju]at hq;have hx:=fun hi=>isor_lt hl hs (a:=zx) (b:=wSet) hi
 have HL:=qlim_h hl s hs (decide (acc.length=16)||decide (d>4));have e:=qba (l:=l) s (decide (acc.length=16)||decide (d>4));have hSs:=fun hd=>(hS hd s hs).2
 generalize isQ l s zx=b1 at*;generalize isQ l s wSet=b2 at*;refine Ut ?_;refine SW.mono (Q:=fun e st=>e=.normal/\Wk st ⟨33,[(0,.ptr 1000000 0),(1,.p (pI d)),(5,.row 0),(11,.p (pB (b1||b2)))],(0,.row 38 7 (acc.map polP))::prsO l s⟩) ?_ ?_
 · cases b1 with
   |true=>
    refine uR ?_;refine GG ?_;refine Ko ?_;exact⟨rfl,qj [0,1,5,11] [(0,0),(1000000,1000000)] rfl rfl⟩
   |false=>
    refine uR ?_;refine GG ?_;refine uS ?_;refine MM ?_;refine Ko ?_;exact⟨rfl,qj [0,1,5,11] [(0,0),(1000000,1000000)] rfl rfl⟩
 rintro e st ⟨rfl,hw⟩;refine V3 ?_;cases hb:(b1||b2)with
 |true=>
  rw[hb]at hq hx;simp only[hb,forall_const]at hSs;simp only[if_true]at hq;have hx:=hx rfl;obtain⟨S1,hS1⟩:∃S1,S1=limQ l s (decide (acc.length=16)||decide (d>4)):=⟨_,rfl⟩;rw[<-hS1]at HL hq e;refine uC (fun hc=>?_) (fun hc=>?_);rotate_left
  · cases hc
  refine Lh ?_;refine Ut ?_;refine SW.mono (Q:=fun e st=>e=.normal/\Wk st ⟨33,[(0,.ptr 1000000 0),(1,.p (pI d)),(5,.row 0)],(0,.row 38 7 (acc.map polP))::prsO l S1⟩) ?_ ?_
  · clear hS1
    refine uR ?_;rw[show((((acc.map polP).length:Nat):Int)==16)=decide (acc.length=16)by rw[YO,Yb];simp only[beq_iff_eq,Yf];omega];cases h16:decide (acc.length=16)with
    |true=>
     rw[h16]at HL;refine uS ?_;refine Gj ?_;refine Ko ?_;exact⟨rfl,qj [0,1,5] [(0,0),(1000000,1000000)] rfl rfl⟩
    |false=>
     rw[h16]at HL;refine uS ?_;refine Gj ?_;refine Ko ?_;exact⟨rfl,qj [0,1,5] [(0,0),(1000000,1000000)] rfl rfl⟩
  rintro e' st ⟨rfl,hw⟩;refine V3 ?_;refine uR ?_;refine qe ?_;rw[show(S1.bad !=0)=decide (S1.bad≠0)by rw[YO];simp];by_cases hbd:S1.bad≠0
  · rw[Yi hbd]at hq;rw[Yz hbd];refine uC (fun hc=>?_) (fun hc=>?_);rotate_left
    · cases hc
    refine qC ?_;rw[hq];refine Uj ?_;exact Lf
  · rw[Yc hbd]at hq;rw[YB hbd];rw[hS1]at hbd;obtain⟨hd,hss⟩:=lim_d hbd;rw[<-hS1]at hss;have HK:=hP hd s hs;have hst:=(hS hd s hs).1;have hSs:=hSs hd;subst hss;clear hS1 HL
    rw[qY]at HK;generalize hk:pk S1=kk at*;obtain⟨kv,ks⟩:=kk;simp only at HK hst hq hSs;refine uC (fun hc=>?_) (fun hc=>?_)
    · cases hc
    refine Kv ?_;refine uW [(1000000,1000000)] HK ?_;refine Lj ?_;refine Ko ?_;refine⟨n,_,by omega,qj [0,1,5] [(31,0),(1000000,1000000)] rfl rfl,acc++[kv],ks,hq,hst.2,by omega,by simp only[Ya,YF];omega,?_⟩;rw[show(acc++[kv]).map polP=acc.map polP++[polP kv]from Yr ..,qY kv];rfl
 |false=>
  rw[hb]at hq;simp only[YC,if_false]at hq;refine uC (fun hc=>?_) (fun hc=>?_)
  · cases hc
  refine qC ?_;rw[hq];refine Uj ?_;exact Lf
end
section
variable {l:List Tok} (hl:TokOk l)
include hl
def PolkOk (l:List Tok) (n:Nat):Prop:=PkH l (polQ l n) (6-(n:Int))/\PkS l (polQ l n)
theorem pol_s {n:Nat} (hS:(6-(n:Int))<=4->PkS l (polQ l n)):PkS l (polQ l (n+1)):=by
 intro s h;have h0:=jD hl h [zx,wSet];have hadv:(isQ l s zx||isQ l s wSet)=true->(qO l s [zx,wSet]).2=s.next:=fun hi=>by
  rcases Xm _ _ |>.mp hi with h1|h1
  · exact among_adv hl h DQ DO h1
  · exact among_adv hl h DQ DO h1
 have key:Stp l (qO l s [zx,wSet]).2 (polQ l (n+1) s).2:=by
  rw[polQ];generalize qO l s [zx,wSet]=k at*;simp only;have h1:Stp l k.2 (zH l k.2).2:=⟨name_le _,name_lt hl h0.2⟩;generalize zH l k.2=i at*;have h2:=h1.trans (jD hl h1.2 wAlgs);generalize qO l i.2 wAlgs=g at*;have h3:=h2.trans (tar_stp hl h2.2);generalize tarQ l g.2=t at*;have h4:=h3.trans (ww hl h3.2 [123]);generalize zT l t.2 [123]=s1 at*;have h5:Stp l k.2 (if k.1=2 then ju l (polQ l n) (6-n) (l.length+1) [] s1 else([],s1)).2:=by
   split
   · exact h4.trans (kids_stp _ hS _ _ _ h4.2)
   · exact h4
  generalize (if k.1=2 then ju l (polQ l n) (6-n) (l.length+1) [] s1 else([],s1))=ks at*;have h6:Stp l k.2 (if k.1=2 then([],ks.2)else jY l (l.length+1) [] s1).2:=by
   split
   · exact h5
   · exact h4.trans (some_stp hl _ _ _ h4.2)
  generalize (if k.1=2 then([],ks.2)else jY l (l.length+1) [] s1)=rs at*;have h7:=h6.trans (ww hl h6.2 [125]);exact h7.trans (dut_stp hl h7.2)
 refine⟨h0.trans key,fun hi=>?_⟩;rw[hadv hi]at key;exact key.1
theorem policy_k {n:Nat} (hn:n<=4) (IH:(6-(n:Int))<=4->PolkOk l n):PolkOk l (n+1):=by
 have hS:=fun hd=>(IH hd).2
 refine⟨fun s h=>?_,pol_s hl hS⟩;obtain⟨R,hR⟩:∃R,R=polQ l (n+1) s:=⟨_,rfl⟩;rw[<-hR];rw[polQ]at hR;have H1:=qamong_h hl s h [zx,wSet] DO;have s1:=(jD hl h [zx,wSet]).2;generalize qO l s [zx,wSet]=q1 at*;obtain⟨v1,p1⟩:=q1;simp only at H1 s1 hR;have H2:=qname_h hl p1 s1;have s2:=name_lt hl s1;generalize zH l p1=q2 at*;obtain⟨v2,p2⟩:=q2;simp only at H2 s2 hR;have H3:=qamong_h hl p2 s2 wAlgs DO;have s3:=(jD hl s2 wAlgs).2;generalize qO l p2 wAlgs=q3 at*;obtain⟨v3,p3⟩:=q3;simp only at H3 s3 hR;have H4:=qtar_h hl p3 s3;have s4:=(tar_stp hl s3).2;generalize tarQ l p3=q4 at*;obtain⟨v4,p4⟩:=q4;simp only at H4 s4 hR;have H5:=qaD hl p4 s4 [123];have s5:=(ww hl s4 [123]).2;generalize zT l p4 [123]=p5 at*;by_cases hv:v1=2
 · simp only[Yi hv]at hR;have H6:=qkids_h hl (6-(n:Int)) hS (fun hd=>(IH hd).1) p5 s5;have s6:=(kids_stp (6-(n:Int)) hS (l.length+1) [] p5 s5).2;generalize ju l (polQ l n) (6-(n:Int)) (l.length+1) [] p5=q6 at*;obtain⟨v6,p6⟩:=q6;simp only at H6 s6 hR;have H7:=qaD hl p6 s6 [125];have s7:=(ww hl s6 [125]).2;generalize zT l p6 [125]=p7 at*;have H8:=qdut_h hl p7 s7;generalize dutQ l p7=q8 at*;obtain⟨v8,p8⟩:=q8;simp only at H8 hR;subst hR;rw[qY];refine qz (T:=TTab) qc func58 DG rfl rfl rfl ?_;refine uA ?_;refine Kq ?_;refine SWT.wk (qu (k:=7) rfl) ?_;refine GG ?_;refine Kt ?_;refine MM ?_;refine Kt ?_;refine SWT.wk (qu (k:=15) rfl) ?_;refine Kh ?_;refine Kt ?_;refine uW [(1000000,1000000)] H4 ?_;refine Kt ?_;refine uW [(1000000,1000000)] H5 ?_;refine Kt ?_;refine qe ?_;refine uZ [0,1,4,5,24] [(4,4),(5,5),(1000000,1000000)] ?_;change SW _ _ _ ⟨39,[(0,.ptr 1000000 0),(1,.p (pI (6-((n+1:Nat):Int)))),(4,.ptr 4 0),(5,.ptr 5 0),(24,.p (pB (v1==2)))],[(4,.cells [.p (pS ⟨#[]⟩),.p (pB false),.p (pI 0),.p nilV,.p nilV,.p nilV,.p nilV]),(5,.cells [.p (pL v2),.p (pB (v1==2)),.p (pI v3),.p (tgtP v4),.p nilV,.p nilV,.p nilV])]++prsO l p5⟩;rw[show(v1==2)=true by simp[hv]];refine uC (fun hc=>?_) (fun hc=>?_);rotate_left
   · cases hc
   refine uR ?_;rw[show IntKind.i64.wrap (6-((n+1:Nat):Int)+1)=6-(n:Int)by rw[YD _ DP];omega];refine uW [(1000000,1000000)] H6 ?_;refine Kt ?_;refine uW [(1000000,1000000)] H7 ?_;refine Kt ?_;refine uW [(1000000,1000000)] H8 ?_;refine Kt ?_;refine Ks ?_;rw[show decide (v1=2)=true by simp[hv]];exact⟨Or.inr rfl,_,_,[(1000000,1000000)],_,Wk.refl _,rfl,rfl,.p (CvL.agg (.cons (.refl _) (.cons (.refl _) (.cons (.refl _) (.cons (.refl _) (.cons (.nil 5) (.cons (.refl _) (.cons (.refl _) .nil)))))))),rfl,rfl⟩
 · simp only[Yc hv]at hR;have H6:=qsome_h hl p5 s5;have s6:=(some_stp hl (l.length+1) [] p5 s5).2;generalize jY l (l.length+1) [] p5=q6 at*;obtain⟨v6,p6⟩:=q6;simp only at H6 s6 hR;have H7:=qaD hl p6 s6 [125];have s7:=(ww hl s6 [125]).2;generalize zT l p6 [125]=p7 at*;have H8:=qdut_h hl p7 s7;generalize dutQ l p7=q8 at*;obtain⟨v8,p8⟩:=q8;simp only at H8 hR;subst hR;rw[qY];refine qz (T:=TTab) qc func58 DG rfl rfl rfl ?_;refine uA ?_;refine Kq ?_;refine SWT.wk (qu (k:=7) rfl) ?_;refine GG ?_;refine Kt ?_;refine MM ?_;refine Kt ?_;refine SWT.wk (qu (k:=15) rfl) ?_;refine Kh ?_;refine Kt ?_;refine uW [(1000000,1000000)] H4 ?_;refine Kt ?_;refine uW [(1000000,1000000)] H5 ?_;refine Kt ?_;refine qe ?_;refine uZ [0,1,4,5,24] [(4,4),(5,5),(1000000,1000000)] ?_;change SW _ _ _ ⟨39,[(0,.ptr 1000000 0),(1,.p (pI (6-((n+1:Nat):Int)))),(4,.ptr 4 0),(5,.ptr 5 0),(24,.p (pB (v1==2)))],[(4,.cells [.p (pS ⟨#[]⟩),.p (pB false),.p (pI 0),.p nilV,.p nilV,.p nilV,.p nilV]),(5,.cells [.p (pL v2),.p (pB (v1==2)),.p (pI v3),.p (tgtP v4),.p nilV,.p nilV,.p nilV])]++prsO l p5⟩;rw[show(v1==2)=false by simp[hv]];refine uC (fun hc=>?_) (fun hc=>?_)
   · cases hc
   refine uR ?_;refine uW [(1000000,1000000)] H6 ?_;refine Kt ?_;refine uW [(1000000,1000000)] H7 ?_;refine Kt ?_;refine uW [(1000000,1000000)] H8 ?_;refine Kt ?_;refine Ks ?_;rw[show decide (v1=2)=false by simp[hv]];exact⟨Or.inr rfl,_,_,[(1000000,1000000)],_,Wk.refl _,rfl,rfl,.p (CvL.agg (.cons (.refl _) (.cons (.refl _) (.cons (.refl _) (.cons (.refl _) (.cons (.refl _) (.cons (.nil 7) (.cons (.refl _) .nil)))))))),rfl,rfl⟩
theorem policy_ok:∀n,n<=5->1<=n->PolkOk l n
 |1,_,_=>policy_k hl DP fun h=>by simp at h
 |n+2,h,_=>policy_k hl DP fun _=>policy_ok (n+1) DP DP
end
end
section
end
section
theorem decA_len:∀(l:Bs) (n:Nat),(∀c∈l,za c=true)->decA n l<(n+1)*10^l.length/\n*10^l.length<=decA n l
 |[],n,_=>by show n<(n+1)*1/\n*1<=n;omega
 |c::l,n,h=>by
  have hc:=isDigB_iff.1 (h c DQ);have ih:=decA_len l (10*n+(c.toNat-48)) fun c hc=>h c (Y3 _ hc)
  have e:decA n (c::l)=decA (10*n+(c.toNat-48)) l:=rfl;rw[e,Yg,Nat.pow_succ];generalize 10^l.length=p at*;have h1:(10*n+(c.toNat-48)+1)*p<=(n+1)*(p*10):=by
   have:10*n+(c.toNat-48)+1<=(n+1)*10:=by omega
   calc (10*n+(c.toNat-48)+1)*p<=((n+1)*10)*p:=Xl _ this
    _=(n+1)*(p*10):=by rw[Nat.mul_assoc,Nat.mul_comm 10 p]
  have h2:n*(p*10)<=(10*n+(c.toNat-48))*p:=by
   have:n*10<=10*n+(c.toNat-48):=by omega
   calc n*(p*10)=(n*10)*p:=by rw[Nat.mul_assoc,Nat.mul_comm 10 p]
    _<=_:=Xl _ this
  exact⟨Xs ih.1 h1,Xj h2 ih.2⟩
def canon (d:Bs):Prop:=(∀c∈d,za c=true)/\1<=d.length/\(1<d.length->(d.head?.map (·.toNat))≠some 48)
theorem canon_bounds {d:Bs} (h:canon d):decV d<10^d.length/\(1<d.length->10^(d.length-1)<=decV d):=by
 obtain⟨h1,h2,h3⟩:=h
 match d,h1,h2,h3 with
 |c::r,h1,_,h3=>
  have hc:=isDigB_iff.1 (h1 c DQ);have hr:=decA_len r (10*0+(c.toNat-48)) fun c hc=>h1 c (Y3 _ hc)
  have e:decV (c::r)=decA (10*0+(c.toNat-48)) r:=rfl;rw[e,Yg,Nat.pow_succ,Nat.add_sub_cancel];generalize 10^r.length=p at*;refine⟨Xs hr.1 ?_,fun hl=>?_⟩
  · calc (10*0+(c.toNat-48)+1)*p<=10*p:=Xl _ DP
     _=p*10:=Nat.mul_comm _ _
  · have h48:c.toNat≠48:=fun e=>h3 hl (by simp[e])
    calc p=1*p:=(Nat.one_mul _).symm
     _<=(10*0+(c.toNat-48))*p:=Xl _ DP
     _<=_:=hr.2
theorem canon_len {a b:Bs} (ha:canon a) (hb:canon b) (e:decV a=decV b):a.length=b.length:=by
 have key:∀{a b:Bs},canon a->canon b->decV a=decV b->¬a.length<b.length:=fun{a b} ha hb e hl=>by
  have h1:=(canon_bounds ha).1;have h2:=(canon_bounds hb).2 (by have:=ha.2.1;omega);have h3:10^a.length<=10^(b.length-1):=Nat.pow_le_pow_right DP DP;omega
 have h1:=key ha hb e;have h2:=key hb ha e.symm;omega
theorem magL_canon {l:Bs} {m k:Nat} (h:magL l=some (m,k)):canon (l.takeWhile za)/\decV (l.takeWhile za)=m/\(l.takeWhile za).length=k:=by
 unfold magL at h;split at h
 · cases h
 · rename_i hn;cases h;refine⟨⟨fun c hc=>YE.1 (all_takeWhile za l) c hc,by omega,fun h1 h2=>hn (.inr ⟨h1,?_⟩)⟩,rfl,rfl⟩;cases l with
   |nil=>cases h1
   |cons c r=>
    rw[List.takeWhile_cons]at h1 h2;split at h1
    · rename_i hc;rw[Yi hc]at h2;exact h2
    · simp at h1
theorem decF_canon {u:Nat} (h:u<10^20):canon (decF 20 u):=by
 obtain⟨h1,_,h3,h4,_⟩:=decF_ok 20 u h DP;exact⟨YE.1 h1,h3,h4⟩
theorem magL_dlen {l:Bs} {m k:Nat} (h:magL l=some (m,k)) (hm:m<10^20):(decF 20 m).length=k:=by
 obtain⟨h1,h2,h3⟩:=magL_canon h;rw[<-h3];exact canon_len (decF_canon hm) h1 (by rw[h2];exact(decF_ok 20 m hm DP).2.1)
theorem qB_plain {c:UInt8} (h:jH c=true):(qB c).length=1:=by
 rw[oddB_plain]at h;unfold qB;rw[Yc DA];rfl
theorem qB_odd {c:UInt8} (h:jH c=false):(qB c).length=3:=by
 rw[oddB_plain]at h;unfold qB;rw[Yi DA];rfl
theorem textL_len2:∀(n:Nat) {l:Bs} {t:Bs} {k:Nat},l.length<=n->wX l=some (t,k)->k=(t.flatMap qB).length+1
 |_,[],t,k,_,h=>by cases h
 |n+1,c::r,t,k,hn,h=>by
  simp only[Yg]at hn;rw[qah]at h;split at h
  · cases h;rfl
  · split at h
    · rename_i hp;cases hr:wX r with
      |none=>rw[hr]at h;cases h
      |some p=>
       obtain⟨t',k'⟩:=p;rw[hr]at h;cases h;have ih:=textL_len2 n DP hr;show k'+1=((c::t').flatMap qB).length+1;rw[YW,Ya,qB_plain hp];omega
    · split at h
      · match r,h,hn with
        |a::b::r',h,hn=>
         unfold oddT at h;simp only at h;split at h
         · split at h
           · cases h
           · rename_i hp;cases hr:wX r' with
             |none=>rw[hr]at h;cases h
             |some p=>
              obtain⟨t',k'⟩:=p;rw[hr]at h;cases h;have ih:=textL_len2 n (by simp at hn;omega) hr;show k'+3=((_::t').flatMap qB).length+1;rw[YW,Ya,qB_odd (by simpa using hp)];omega
         · cases h
      · cases h
def okK (k n:Int) (s:Bs):Prop:=(k=1/\n=0)\/(k=2/\R64 n/\s=[])\/(k=3/\0<=n/\n<=1099511627776/\s=[])\/(k=4/\n=0/\nameL s=true)\/(k=5/\n=0/\s.length<=64)\/(k=6/\n=0)
theorem tokL_okK:∀{l:Bs} {t:TokP},tokL l=some t->okK t.kind t.n t.s/\(writeT t.kind t.n t.s).length=t.len/\t.s.length<=t.len
 |c::r,t,h=>by
  rw[tokL]at h;split at h
  · split at h
    · cases h;exact⟨.inl ⟨rfl,rfl⟩,rfl,Yk _⟩
    · cases h
  · split at h
    · split at h
      · rename_i m k hm;split at h
        · rename_i hb;cases h;exact⟨.inr (.inl ⟨rfl,show R64 (m:Int)from⟨by omega,by omega⟩,rfl⟩),magL_dlen hm DP,Yl _⟩
        · cases h
      · cases h
    · split at h
      · split at h
        · rename_i m k hm;split at h
          · rename_i hb;cases h;refine⟨.inr (.inl ⟨rfl,show R64 (-(m:Int))from⟨by omega,by omega⟩,rfl⟩),?_,Yl _⟩;show(qbd (-(m:Int))).length=k+1;rw[itoaF_neg hb.1,Yg,magL_dlen hm DP]
          · cases h
        · cases h
      · split at h
        · split at h
          · rename_i m k hm;split at h
            · rename_i hb;cases h;refine⟨.inr (.inr (.inl ⟨rfl,show 0<=(m:Int)by omega,show(m:Int)<=1099511627776 by omega,rfl⟩)),?_,Yl _⟩;show(64::decF 20 m).length=k+1;rw[Yg,magL_dlen hm DP]
            · cases h
          · cases h
        · split at h
          · split at h
            · rename_i hn;cases h;exact⟨.inr (.inr (.inr (.inl ⟨rfl,rfl,hn⟩))),rfl,Xr _⟩
            · cases h
          · split at h
            · split at h
              · rename_i t' k hm;split at h
                · rename_i hb;cases h;have h2:=textL_len2 r.length (Yk _) hm;have h3:t'.length<=(t'.flatMap qB).length:=by
                   clear hm h2 hb
                   induction t' with
                   |nil=>simp
                   |cons x t' ih=>
                    rw[YW,Ya,Yg];cases hp:jH x with
                    |true=>rw[qB_plain hp];omega
                    |false=>rw[qB_odd hp];omega
                  refine⟨.inr (.inr (.inr (.inr (.inl ⟨rfl,rfl,hb⟩)))),?_,by show t'.length<=k+1;omega⟩;show(34::t'.flatMap qB++[34]).length=k+1;rw[Ya,Yg];simp only[Yg,List.length_nil];omega
                · cases h
              · cases h
            · split at h
              · cases h;exact⟨.inr (.inr (.inr (.inr (.inr ⟨rfl,rfl⟩)))),rfl,Yk _⟩
              · cases h
theorem lexF_okK:∀{f k:Nat} {l:Bs} {a:List Tok},lexF f k l=.ok a->(∀t∈a.dropLast,okK t.kind t.n t.s)/\((a.dropLast.map fun t=>(writeT t.kind t.n t.s).length).sum<=l.length)/\a.length<=l.length+1
 |f+1,k,[],a,h=>by cases h;exact⟨fun t ht=>(nomatch ht),Yk _,Yk _⟩
 |f+1,k,c::r,a,h=>by
  rw[lexF]at h;split at h
  · obtain⟨h1,h2,h3⟩:=lexF_okK h;exact⟨h1,by rw[Yg];omega,by rw[Yg];omega⟩
  · cases ht:tokL (c::r)with
    |none=>rw[ht]at h;cases h
    |some t=>
     have hl:=qae ht;obtain⟨h4,h5,_⟩:=tokL_okK ht;rw[ht]at h;simp only at h;cases hr:lexF f (k+t.len) ((c::r).drop t.len)with
     |error e=>rw[hr]at h;cases h
     |ok a'=>
      rw[hr]at h;simp only at h;cases h;obtain⟨h1,h2,h3⟩:=lexF_okK hr;rw[Yo]at h2 h3;rw[List.dropLast_cons_of_ne_nil (lexF_ok_ne hr)];refine⟨fun x hx=>?_,?_,?_⟩
      · rcases Y0.1 hx with rfl|hx
        · exact h4
        · exact h1 x hx
      · rw[Y2,List.sum_cons];show(writeT t.kind t.n t.s).length+_<=_;omega
      · rw[Yg];omega
end
section
open Go.RowKit
theorem tokL_one:∀{l:Bs} {t:TokP},tokL l=some t->t.kind=6->t.s.length=1
 |c::r,t,h,hk=>by
  rw[tokL]at h
  repeat' split at h
  all_goals first
   |(cases h;rfl)
   |(cases h;first|exact absurd hk (show¬(1:Int)=6 by decide)|exact absurd hk (show¬(2:Int)=6 by decide)|exact absurd hk (show¬(3:Int)=6 by decide)|exact absurd hk (show¬(4:Int)=6 by decide)|exact absurd hk (show¬(5:Int)=6 by decide))
   |cases h
theorem r64_le {n:Int} (h1:-9223372036854775808<=n) (h2:n<=9223372036854775807):R64 n:=⟨h1,h2⟩
theorem r64_0:R64 0:=⟨by decide,by decide⟩
theorem r64_1:R64 1:=⟨by decide,by decide⟩
theorem r64_2:R64 2:=⟨by decide,by decide⟩
theorem r64_3:R64 3:=⟨by decide,by decide⟩
theorem r64_4:R64 4:=⟨by decide,by decide⟩
theorem r64_5:R64 5:=⟨by decide,by decide⟩
theorem okK_num {k n:Int} {s:Bs} (h:okK k n s):R64 n:=by
 unfold okK at h;rcases h with h|h|h|h|h|h
 · rw[h.2];exact r64_le DO DO
 · exact h.2.1
 · exact r64_le DP DP
 · rw[h.2.1];exact r64_le DO DO
 · rw[h.2.1];exact r64_le DO DO
 · rw[h.2];exact r64_le DO DO
theorem lexF_tok:∀{f k:Nat} {l:Bs} {a:List Tok},lexF f k l=.ok a->∀t∈a,t.s.length<=l.length/\(t.kind=6->t.s.length=1)/\R64 t.n
 |f+1,k,[],a,h=>by
  cases h;intro t ht;rw[YA]at ht;subst ht;exact⟨Yk _,fun h=>absurd h (show¬(7:Int)=6 by decide),r64_0⟩
 |f+1,k,c::r,a,h=>by
  rw[lexF]at h;split at h
  · intro t ht;obtain⟨h1,h2⟩:=lexF_tok h t ht;exact⟨by rw[Yg];omega,h2⟩
  · cases ht:tokL (c::r)with
    |none=>rw[ht]at h;cases h
    |some t=>
     have hl:=qae ht;obtain⟨h4,_,h5⟩:=tokL_okK ht;have h6:=tokL_one ht;rw[ht]at h;simp only at h;cases hr:lexF f (k+t.len) ((c::r).drop t.len)with
     |error e=>rw[hr]at h;cases h
     |ok a'=>
      rw[hr]at h;simp only at h;cases h;intro x hx;rcases Y0.1 hx with rfl|hx
      · exact⟨by show t.s.length<=_;omega,h6,okK_num h4⟩
      · obtain⟨h1,h2⟩:=lexF_tok hr x hx;rw[Yo]at h1;exact⟨by omega,h2⟩
theorem tokOk_of {b:Bs} (hb:b.length<=4096) {l:List Tok} (h:lexL b=.ok l):TokOk l:=by
 have h1:=lexF_tok h;have h2:=(lexF_okK h).2.2;have h3:=lexL_end h;refine⟨by omega,fun k hk hne=>?_,fun t ht=>by have:=(h1 t ht).1;omega,fun t ht=>(h1 t ht).2.1,fun t ht=>(h1 t ht).2.2⟩;apply Xa;intro hlt;rw[List.getLast?_eq_getElem?,show l.length-1=k by omega,Yj hk]at h3;have h4:=YS h3;rw[h4]at hne;exact hne rfl
section
variable {l:List Tok} (hl:TokOk l)
include hl
theorem here_fit (s:Prs):(ze l s).s.length<=5000/\R64 (ze l s).n:=by
 unfold ze;rw[List.getD_eq_getElem?_getD];cases h:l[s.at_]? with
 |none=>exact⟨Yl _,r64_le DO DO⟩
 |some t=>exact⟨hl.tx t (YI h),hl.num t (YI h)⟩
theorem bs_fit (s:Prs):(bs (ze l s).s).size<=reachBytes:=by
 have:=(here_fit hl s).1;show(ze l s).s.length<=_;unfold reachBytes;omega
theorem name_fit (s:Prs):(zH l s).1.length<=5000:=by
 unfold zH;dsimp only;generalize (if(ze l s).kind=1 then s else synQ l s)=s1;split
 · exact Yl _
 · exact(here_fit hl s).1
theorem names_fit (s:Prs):(bs (zH l s).1).size<=reachBytes:=by
 have:=name_fit hl s;show(zH l s).1.length<=_;unfold reachBytes;omega
omit hl in
theorem am_fit (s:Prs) (ws:List Bs) (hw:ws.length<=100) (k:Int) (hk:0<=k/\k<=10):R64 (k+(qO l s ws).1):=by
 have:=among_range (l:=l) s ws;exact r64_le DP DP
omit hl in
theorem am_fit0 (s:Prs) (ws:List Bs) (hw:ws.length<=100):R64 (qO l s ws).1:=by
 have:=among_range (l:=l) s ws;exact r64_le DP DP
theorem atr_fit (s:Prs):(qaY l s).1.Fit:=⟨am_fit0 _ _ DO,names_fit hl _⟩
omit hl in
theorem noV_fit:noV.Fit:=⟨r64_le DO DO,r64_le DO DO,Nat.zero_le _⟩
theorem val_fit (s:Prs):(valQ l s).1.Fit:=by
 unfold valQ;cases h:valK l s with
 |none=>exact noV_fit
 |some v=>
  simp only;split
  · exact noV_fit
  · unfold valK at h;have h1:=(here_fit hl s).2;have h2:=bs_fit hl s;have h0:(⟨#[]⟩:DT).size<=reachBytes:=Yl _;simp only at h
    repeat' split at h
    all_goals first
     |(cases h;first
      |exact⟨r64_2,h1,h2⟩
      |exact⟨r64_3,h1,h2⟩
      |exact⟨r64_4,h1,h2⟩
      |exact⟨r64_5,h1,h2⟩
      |exact⟨r64_1,r64_1,h0⟩
      |exact⟨r64_1,r64_0,h0⟩)
     |cases h
omit hl in
theorem mop_fit (s:Prs):R64 (mopQ l s).1:=by
 unfold mopQ
 repeat' split
 all_goals first|exact r64_0|exact r64_1|exact r64_2|exact r64_3
theorem mat_fit (s:Prs):(matQ l s).1.Fit:=⟨atr_fit hl s,mop_fit _,val_fit hl _⟩
omit hl in
theorem sep_all {β:Type} {w:Bs} {g:Prs->β×Prs} {F:β->Prop} (hg:∀s,F (g s).1):∀(n:Nat) (acc:List β) (s:Prs),(∀x∈acc,F x)->∀x∈(sepQ l w g n acc s).1,F x
 |0,acc,s,h=>h
 |n+1,acc,s,h=>by
  rw[sepQ];split
  · refine sep_all hg n _ _ fun x hx=>?_
    rcases YL.1 hx with hx|hx
    · exact h x hx
    · rw[YA]at hx;subst hx;exact hg _
  · exact h
theorem all_fit (s:Prs):∀m∈(allQ l s).1,m.Fit:=sep_all (fun s=>mat_fit hl s) _ _ _ fun x hx=>by rw[List.mem_singleton]at hx;subst hx;exact mat_fit hl s
theorem any_fit (s:Prs):∀y∈(anyQ l s).1,∀m∈y,m.Fit:=sep_all (fun s=>all_fit hl s) _ _ _ fun x hx=>by rw[List.mem_singleton]at hx;subst hx;exact all_fit hl _
theorem tar_fit (s:Prs):TarFit (tarQ l s).1:=by
 unfold tarQ;split
 · exact sep_all (fun s=>any_fit hl s) _ _ _ fun x hx=>by rw[YA]at hx;subst hx;exact any_fit hl _
 · intro x hx;cases hx
def exF (ex:List Nod->Prs->(List Nod×Bool)×Prs):Prop:=∀acc s,(∀x∈acc,x.Fit)->∀x∈(ex acc s).1.1,x.Fit
omit hl in
theorem opds_fit {ex:List Nod->Prs->(List Nod×Bool)×Prs} (he:exF ex):∀(ms:List Bool) (acc:List Nod) (s:Prs),(∀x∈acc,x.Fit)->∀x∈(wS l ex ms acc s).1,x.Fit
 |[],acc,s,h=>h
 |m::ms,acc,s,h=>by
  rw[wS];split
  · exact h
  · exact opds_fit he ms _ _ (he acc s h)
omit hl in
theorem noAtr_fit:noAtr.Fit:=⟨r64_le DO DO,Nat.zero_le _⟩
theorem nod_fit {ex:List Nod->Prs->(List Nod×Bool)×Prs} (he:exF ex) (acc:List Nod) (s:Prs) (h:∀x∈acc,x.Fit):(∀x∈(nodQ l ex acc s).1.1,x.Fit)/\(nodQ l ex acc s).1.2.Fit:=by
 unfold nodQ;split
 · exact⟨opds_fit he _ _ _ h,am_fit _ _ DO 2 DO,noV_fit,noAtr_fit⟩
 · split
   · exact⟨h,r64_2,noV_fit,atr_fit hl s⟩
   · exact⟨h,r64_1,val_fit hl s,noAtr_fit⟩
theorem ex_fit:∀n,exF (zr l n)
 |0=>fun acc s h=>h
 |n+1=>fun acc s h x hx=>by
  obtain⟨h1,h2⟩:=nod_fit hl (ex_fit n) acc s h;have hx':x∈(nodQ l (zr l n) acc s).1.1++[(nodQ l (zr l n) acc s).1.2]:=hx;rcases YL.1 hx' with hx|hx
  · exact h1 x hx
  · rw[YA]at hx;subst hx;exact h2
theorem obl_fit (s:Prs):(oblQ l s).1.Fit:=⟨am_fit0 _ _ DO,am_fit0 _ _ DO,names_fit hl _⟩
theorem dut_fit (s:Prs):∀o∈(dutQ l s).1,o.Fit:=sep_all (fun s=>obl_fit hl s) _ _ _ fun x hx=>by cases hx
theorem rul_fitQ (deny:Bool) (s:Prs):RulFit (rulQ l deny s).1:=by
 refine⟨names_fit hl _,tar_fit hl _,?_,dut_fit hl _⟩;show∀n∈(if isQ l (tarQ l (zH l s).2).2 wIf then opdQ l (zr l (l.length+1)) [] (tarQ l (zH l s).2).2.next false else([],(tarQ l (zH l s).2).2)).1,n.Fit;split
 · exact ex_fit hl _ _ _ fun x hx=>by cases hx
 · intro n hn;cases hn
theorem some_fit:∀(n:Nat) (acc:List Rul) (s:Prs),(∀r∈acc,RulFit r)->(∀r∈(jY l n acc s).1,RulFit r)/\(jY l n acc s).1.length<=acc.length+n
 |0,acc,s,h=>⟨h,Yk _⟩
 |n+1,acc,s,h=>by
  rw[jY];split
  · dsimp only;split
    · exact Kf
    · refine⟨(some_fit n _ _ fun x hx=>?_).1,Xj (some_fit n _ _ fun x hx=>?_).2 (by rw[Ya,YF];omega)⟩
      all_goals
       rcases YL.1 hx with hx|hx
       · exact h x hx
       · rw[YA]at hx;subst hx;exact rul_fitQ hl _ _
  · exact Kf
omit hl in
theorem kids_fit {pk:Prs->Pol×Prs} {F:Pol->Prop} (hp:∀s,F (pk s).1) (d:Int):∀(n:Nat) (acc:List Pol) (s:Prs),(∀r∈acc,F r)->(∀r∈(ju l pk d n acc s).1,F r)/\(ju l pk d n acc s).1.length<=acc.length+n
 |0,acc,s,h=>⟨h,Yk _⟩
 |n+1,acc,s,h=>by
  rw[ju];split
  · dsimp only;split
    · exact Kf
    · refine⟨(kids_fit hp d n _ _ fun x hx=>?_).1,Xj (kids_fit hp d n _ _ fun x hx=>?_).2 (by rw[Ya,YF];omega)⟩
      all_goals
       rcases YL.1 hx with hx|hx
       · exact h x hx
       · rw[YA]at hx;subst hx;exact hp _
  · exact Kf
theorem pol_fitQ:∀(n:Nat) (s:Prs),PolF (n+1) (polQ l n s).1
 |0,s=>by
  rw[polQ];exact⟨⟨Yl _,fun x hx=>(nomatch hx),fun x hx=>(nomatch hx),fun x hx=>(nomatch hx),Yl _,Yl _⟩,r64_0,fun k hk=>(nomatch hk)⟩
 |n+1,s=>by
  have hl5:=hl.len;rw[polQ];simp only;generalize qO l s [zx,wSet]=k;have hi:=names_fit hl k.2;generalize zH l k.2=i at*;have hg:=am_fit0 (l:=l) i.2 wAlgs DO;generalize qO l i.2 wAlgs=g at*;have ht:=tar_fit hl g.2;generalize tarQ l g.2=t at*;generalize zT l t.2 [123]=s1 at*;have hk:(∀x∈(if k.1=2 then ju l (polQ l n) (6-n) (l.length+1) [] s1 else([],s1)).1,PolF (n+1) x)/\(if k.1=2 then ju l (polQ l n) (6-n) (l.length+1) [] s1 else([],s1)).1.length<=10000:=by
   split
   · obtain⟨h1,h2⟩:=kids_fit (l:=l) (fun s=>pol_fitQ n s) (6-n) (l.length+1) [] s1 fun x hx=>by cases hx
     exact⟨h1,by simp only[List.length_nil]at h2;omega⟩
   · exact⟨fun x hx=>(nomatch hx),Yl _⟩
  generalize (if k.1=2 then ju l (polQ l n) (6-n) (l.length+1) [] s1 else([],s1))=ks at*;have hr:(∀x∈(if k.1=2 then([],ks.2)else jY l (l.length+1) [] s1).1,RulFit x)/\(if k.1=2 then([],ks.2)else jY l (l.length+1) [] s1).1.length<=10000:=by
   split
   · exact⟨fun x hx=>(nomatch hx),Yl _⟩
   · obtain⟨h1,h2⟩:=some_fit hl (l.length+1) [] s1 fun x hx=>by cases hx
     exact⟨h1,by simp only[List.length_nil]at h2;omega⟩
  generalize (if k.1=2 then([],ks.2)else jY l (l.length+1) [] s1)=rs at*;refine⟨⟨hi,ht,hr.1,dut_fit hl _,by show rs.1.length<=_;unfold reachBytes;omega,by show ks.1.length<=_;unfold reachBytes;omega⟩,hg,hk.1⟩
end
def opS (o:Opn):List SV:=[.p (pI o.kind),.p (pS o.subj),.p (pS o.case_),.p (pS o.field),.p (pS o.to_),.p (pI o.val.kind),.p (pI o.val.n),.p (pS o.val.s),.p (pI o.rev),.p (pS o.text),.p (pS o.reason),.p (pB o.glass)]
theorem glsW_len (s:Bs):(glsW s).2.1.length<=s.length/\(glsW s).2.2.length<=s.length:=by
 unfold glsW;split
 · rename_i r;have:=jt r;simp only[Yg];omega
 · exact⟨Yl _,Yk _⟩
theorem glsW_no {s:Bs} (h:s.head?≠some 33):glsW s=(false,[],s):=by
 unfold glsW;split
 · exact absurd rfl h
 · rfl
theorem numW_r (b:Bs):R64 (numW b):=by
 unfold numW;split
 · exact⟨by decide,by decide⟩
 · split
   · exact⟨by decide,by decide⟩
   · rename_i h;split
     · rename_i hd;have:=decV_small _ DP hd;exact V5
     · exact⟨by decide,by decide⟩
theorem tokV_fit {t:Tok} {v:Val} (ht:t.s.length<=5000) (hn:R64 t.n) (h:tokV t=some v):v.s.size<=1000000/\R64 v.n/\R64 v.kind:=by
 have hs:(bs t.s).size<=1000000:=by show t.s.length<=_;omega
 have h0:e0.size<=1000000:=by decide
 unfold tokV at h
 repeat' split at h
 all_goals first
  |(cases h;done)
  |(cases h;refine⟨by first|exact hs|exact h0,by first|exact hn|exact r64_1|exact r64_0,by first|exact r64_1|exact r64_2|exact r64_3|exact r64_4|exact r64_5⟩)
theorem litW_fit {b:Bs} (hb:b.length<=4096) {v:Val} (h:litW b=some v):v.s.size<=1000000/\R64 v.n/\R64 v.kind:=by
 unfold litW at h;cases hl:lexL b with
 |error e=>rw[hl]at h;cases h
 |ok l=>
  rw[hl]at h;simp only at h;split at h
  · have ht:=tokOk_of hb hl;cases hx:l[0]? with
    |none=>rw[hx]at h;cases h
    |some t=>
     rw[hx]at h;exact tokV_fit (ht.tx t (YI hx)) (ht.num t (YI hx)) h
  · cases h
theorem ok0:e0.size<=1000000:=by decide
theorem bs_ok {b:Bs} (h:b.length<=1000000):(bs b).size<=1000000:=h
theorem kindO_ok {k:Int} {o o':Opn} (ho:o.Ok) {s:Bs} (hs:s.length<=4096) (h:kindO k o s=some o'):o'.Ok:=by
 have n1:=jt s;have n2:=jt (cutW s).2;have n3:=jt (cutW (cutW s).2).2;unfold kindO at h;split at h
 · cases h;exact⟨ho.subj,bs_ok DP,ho.field,ho.to_,ho.val,ho.text,ho.reason,ho.rev,ho.kind⟩
 split at h
 · cases h;exact⟨ho.subj,bs_ok DP,bs_ok DP,ho.to_,ho.val,ho.text,ho.reason,ho.rev,ho.kind⟩
 split at h
 · cases hv:litW (cutW (cutW s).2).2 with
   |none=>rw[hv]at h;cases h
   |some v=>
    rw[hv]at h;cases h;exact⟨ho.subj,bs_ok DP,bs_ok DP,ho.to_,litW_fit DP hv,ho.text,ho.reason,ho.rev,ho.kind⟩
 split at h
 · cases h;exact⟨ho.subj,bs_ok DP,ho.field,bs_ok DP,ho.val,ho.text,ho.reason,ho.rev,ho.kind⟩
 split at h
 · cases h;exact⟨ho.subj,ho.case_,ho.field,ho.to_,ho.val,ho.text,ho.reason,numW_r s,ho.kind⟩
 split at h
 · cases h;exact⟨ho.subj,ho.case_,ho.field,ho.to_,ho.val,bs_ok DP,ho.reason,ho.rev,ho.kind⟩
 · cases h;exact ho
theorem kindW_r (w:DT):R64 (kindW w):=by
 unfold kindW
 repeat' split
 all_goals exact⟨by decide,by decide⟩
theorem parseL_h (l:Bs) (hl:l.length<=4096):Holds prog 17 [pL l] (.tup [.p (.agg ((qaa l).getD noOp).pv),.p (pB (qaa l).isSome)]) []:=by
 have HW1:=word_h l DP;have n1:=jt l;obtain⟨R,hR⟩:∃R,R=qaa l:=⟨_,rfl⟩;rw[<-hR];unfold qaa rawW at hR;refine Vd ?_;show HoldsW _ _ [.p (pL l)] [] _ _;refine qz (T:=TTab) qc func17 DG rfl rfl rfl ?_;refine Kr ?_;refine Kq ?_;refine uK HW1 ?_;refine Ko ?_;refine uZ [0,2,3,4,6] [(2,2),(4,4)] ?_;change SW _ _ _ ⟨95,[(0,.p (pL (cutW l).2)),(2,.ptr 2 0),(3,.p (pB false)),(4,.ptr 4 0),(6,.p (pB true))],[(2,.cells (opS noOp)),(4,.cells (opS (mkO (cutW l).1 false [] 0)))]⟩;generalize (cutW l).2=s1 at*;generalize (cutW l).1=w1 at*;have n2:=glsW_len s1;refine uR ?_;refine uK (hasPre_h s1 DP) ?_;refine Ko ?_;(repeat refine qA ?_)
 refine SW.mono (Q:=fun e st=>e=.normal/\Wk st ⟨95,[(0,.p (pL (glsW s1).2.2)),(2,.ptr 2 0),(3,.p (pB false)),(4,.ptr 4 0),(6,.p (pB true))],[(2,.cells (opS noOp)),(4,.cells (opS (mkO w1 (glsW s1).1 (glsW s1).2.1 0)))]⟩) ?_ ?_
 · by_cases h33:s1.head?=some 33
   · rw[Yz h33];obtain⟨r,rfl⟩:∃r,s1=33::r:=by
      cases s1 with
      |nil=>cases h33
      |cons c r=>simp at h33;exact⟨r,by rw[h33]⟩
     have hlr:r.length<=1000000:=by have:=n1;simp only[Yg]at this;omega
     refine uC (fun hc=>?_) (fun hc=>?_);rotate_left
     · cases hc
     refine Kq ?_;refine qm qc rfl rfl (by rw[show(⟨⟨33::r⟩⟩:DT).size=r.length+1 from rfl];omega) rfl ?_;rw[show(⟨⟨33::r⟩⟩:DT).extract (Int.toNat 1) (Int.toNat (((⟨⟨33::r⟩⟩:DT).size:Nat):Int))=⟨⟨r⟩⟩from extW_from (33::r) 1 _ (Yk _)];refine uK (word_h r hlr) ?_;refine Ko ?_;exact⟨rfl,qj [0,2,3,4,6] [(2,2),(4,4)] rfl rfl⟩
   · rw[YB h33];refine uC (fun hc=>?_) (fun hc=>?_)
     · cases hc
     rw[glsW_no h33];refine qh ?_;exact⟨rfl,qj [0,2,3,4,6] [(2,2),(4,4)] rfl rfl⟩
 rintro e st ⟨rfl,hw⟩;refine V3 ?_;clear hw
 generalize (glsW s1).2.2=s2 at*;generalize (glsW s1).2.1=w2 at*;generalize (glsW s1).1=g at*;have HW3:=word_h s2 DP;have n3:=jt s2;refine uR ?_;refine uK HW3 ?_;refine Kt ?_;refine uK (kindW_h (bs (cutW s2).1)) ?_;refine Ko ?_;refine uZ [0,2,3,4,6] [(2,2),(4,4)] ?_;change SW _ _ _ ⟨95,[(0,.p (pL (cutW s2).2)),(2,.ptr 2 0),(3,.p (pB false)),(4,.ptr 4 0),(6,.p (pB true))],[(2,.cells (opS noOp)),(4,.cells (opS (mkO w1 g w2 (kindW (bs (cutW s2).1)))))]⟩;have hk:=kindW_r (bs (cutW s2).1);generalize kindW (bs (cutW s2).1)=k at*;generalize (cutW s2).2=s3 at*;obtain⟨o,ho⟩:∃o:Opn,o=mkO w1 g w2 k:=⟨_,rfl⟩;have hok:o.Ok:=by rw[ho];exact⟨bs_ok DP,ok0,ok0,ok0,⟨ok0,r64_0,r64_0⟩,ok0,bs_ok DP,r64_0,hk⟩
 have hok2:o.kind=k:=by rw[ho];rfl
 rw[<-ho]at hR⊢;clear ho
 have n4:=jt s3;have n5:=jt (cutW s3).2;obtain⟨X,hX⟩:∃X:Opn,X={o with case_:=bs (cutW s3).1,field:=bs (cutW (cutW s3).2).1,val:=noV}:=⟨_,rfl⟩;have hXk:X.Ok:=by rw[hX];exact⟨hok.subj,bs_ok DP,bs_ok DP,hok.to_,⟨ok0,r64_0,r64_0⟩,hok.text,hok.reason,hok.rev,hok.kind⟩
 have hall:((kindO k o s3).getD X).Ok:=by
  cases hq:kindO k o s3 with
  |none=>exact hXk
  |some o'=>exact kindO_ok hok DP hq
 refine uA ?_;rw[hok2];(repeat refine qA ?_)
 refine SW.mono (Q:=fun e st=>e=.normal/\Wk st ⟨95,[(2,.ptr 2 0),(3,.p (pB false)),(4,.ptr 4 0),(6,.p (pB (kindO k o s3).isSome))],[(2,.cells (opS noOp)),(4,.cells (opS ((kindO k o s3).getD X)))]⟩) ?_ ?_
 · unfold kindO;refine Kz ?_;by_cases k1:k=1
   · rw[Yi k1];rw[show(k==1)=true by simpa using k1];refine uC (fun hc=>?_) (fun hc=>?_);rotate_left
     · cases hc
     refine uA ?_;exact VK
   rw[show(k==1)=false by simpa using k1];(try rw[Yc k1])
   refine uC (fun hc=>?_) (fun hc=>?_)
   · cases hc
   refine uA ?_;by_cases k2:k=2
   · rw[Yi (Or.inl k2)];rw[show(k==2)=true by simpa using k2];refine uC (fun hc=>?_) (fun hc=>?_);rotate_left
     · cases hc
     refine qh ?_;refine uC (fun hc=>?_) (fun hc=>?_);rotate_left
     · cases hc
     refine El ?_;refine Ko ?_;exact VK
   rw[show(k==2)=false by simpa using k2];(try rw[Yc k2])
   refine uC (fun hc=>?_) (fun hc=>?_)
   · cases hc
   refine uA ?_;by_cases k6:k=6
   · rw[Yi (Or.inr k6)];rw[show(k==6)=true by simpa using k6];refine uC (fun hc=>?_) (fun hc=>?_);rotate_left
     · cases hc
     refine El ?_;refine Ko ?_;exact VK
   rw[Yc (fun h:k=2\/k=6=>h.elim k2 k6),show(k==6)=false by simpa using k6];refine uC (fun hc=>?_) (fun hc=>?_)
   · cases hc
   refine uA ?_;by_cases k3:k=3
   · rw[Yi k3];rw[show(k==3)=true by simpa using k3];refine uC (fun hc=>?_) (fun hc=>?_);rotate_left
     · cases hc
     refine El ?_;refine Kt ?_;refine uK (word_h (cutW s3).2 DP) ?_;refine Ko ?_;have HL:=literal_h (cutW (cutW s3).2).2 (by have:=jt (cutW s3).2;omega);cases hv:litW (cutW (cutW s3).2).2 with
     |none=>
      rw[hv]at HL;refine uR ?_;refine uK HL ?_;refine Ko ?_;subst X;exact VK
     |some v=>
      rw[hv]at HL;refine uR ?_;refine uK HL ?_;refine Ko ?_;exact VK
   rw[show(k==3)=false by simpa using k3];(try rw[Yc k3])
   refine uC (fun hc=>?_) (fun hc=>?_)
   · cases hc
   refine uA ?_;by_cases k4:k=4
   · rw[Yi k4];rw[show(k==4)=true by simpa using k4];refine uC (fun hc=>?_) (fun hc=>?_);rotate_left
     · cases hc
     refine El ?_;refine Ko ?_;exact VK
   rw[show(k==4)=false by simpa using k4];(try rw[Yc k4])
   refine uC (fun hc=>?_) (fun hc=>?_)
   · cases hc
   refine uA ?_;by_cases k5:k=5
   · rw[Yi (Or.inl k5)];rw[show(k==5)=true by simpa using k5];refine uC (fun hc=>?_) (fun hc=>?_);rotate_left
     · cases hc
     refine qh ?_;refine uC (fun hc=>?_) (fun hc=>?_);rotate_left
     · cases hc
     refine uR ?_;refine uK (snumber_h s3 DP) ?_;refine Ko ?_;exact VK
   rw[show(k==5)=false by simpa using k5];(try rw[Yc k5])
   refine uC (fun hc=>?_) (fun hc=>?_)
   · cases hc
   refine uA ?_;by_cases k8:k=8
   · rw[Yi (Or.inr k8)];rw[show(k==8)=true by simpa using k8];refine uC (fun hc=>?_) (fun hc=>?_);rotate_left
     · cases hc
     refine uR ?_;refine uK (snumber_h s3 DP) ?_;refine Ko ?_;exact VK
   rw[Yc (fun h:k=5\/k=8=>h.elim k5 k8),show(k==8)=false by simpa using k8];refine uC (fun hc=>?_) (fun hc=>?_)
   · cases hc
   refine uA ?_;by_cases k7:k=7
   · rw[Yi k7];rw[show(k==7)=true by simpa using k7];refine uC (fun hc=>?_) (fun hc=>?_);rotate_left
     · cases hc
     refine uA ?_;exact VK
   rw[show(k==7)=false by simpa using k7];(try rw[Yc k7])
   refine uC (fun hc=>?_) (fun hc=>?_)
   · cases hc
   refine qh ?_;exact VK
 rintro e st ⟨rfl,hw⟩;refine V3 ?_;clear hw
 generalize hK:kindO k o s3=K at*;cases K with
 |none=>
  subst hR;refine uR ?_;refine qe ?_;refine uC (fun hc=>?_) (fun hc=>?_);rotate_left
  · cases hc
  refine Kp ?_;exact XY
 |some o'=>
  have HF:=form_h o' hall;simp only at hR;refine uR ?_;refine uK HF ?_;cases hf:wm o' with
  |false=>
   rw[hf,Yc Bool.false_ne_true]at hR;subst hR;refine Ko ?_;refine uC (fun hc=>?_) (fun hc=>?_);rotate_left
   · cases hc
   refine Kp ?_;exact XY
  |true=>
   rw[hf,Yi rfl]at hR;subst hR;refine Ko ?_;refine uC (fun hc=>?_) (fun hc=>?_)
   · cases hc
   refine KA ?_;exact XY
theorem etruth_h (g:Bool):Holds prog 180 [pB g] (.p (.agg (truthV g).pv)) []:=by
 refine Vd ?_;show HoldsW _ _ [.p (pB g)] [] _ _;cases g with
 |true=>
  refine qz (T:=TTab) qc func180 DG rfl rfl rfl ?_;refine LN ?_;refine uC (fun hc=>?_) (fun hc=>?_);rotate_left
  · cases hc
  refine KX ?_;exact XC
 |false=>
  refine qz (T:=TTab) qc func180 DG rfl rfl rfl ?_;refine LN ?_;refine uC (fun hc=>?_) (fun hc=>?_)
  · cases hc
  refine KA ?_;exact XC
theorem textB_h (b:Bs) (hb:b.length<=190000) (s:DT) (hs:s.size<=100000):Holds prog 178 [bP b,pS s] (.row 0) (rowB 0 (b++putT s)):=by
 obtain⟨⟨l⟩⟩:=s;have h:=ptext_h b DP l hs;rw[YU]at h;exact h
theorem zJ (s:DT):(putT s).length<=s.size+10:=by
 unfold putT;have:=jl (s.size:Int);rw[Ya];have e:s.data.toList.length=s.size:=rfl;omega
theorem putV_len (v:Val):(putV v).length<=v.s.size+30:=by
 unfold putV;have h1:=jl v.kind;have h2:=jl v.n;have h3:=jl (v.s.size:Int);have e:v.s.data.toList.length=v.s.size:=rfl;rw[Ya];split
 · rw[Ya];omega
 · omega
structure Opn.Sz (o:Opn):Prop where
 ok:o.Ok
 subj:o.subj.size<=5000
 case_:o.case_.size<=5000
 field:o.field.size<=5000
 to_:o.to_.size<=5000
 val:o.val.s.size<=5000
 text:o.text.size<=5000
 reason:o.reason.size<=5000
theorem put_h (o:Opn) (h:o.Sz):Holds prog 113 [.agg o.pv] (.row 0) (rowB 0 (putO o)):=by
 have n0:=jl o.kind;have n1:=zJ o.subj;have n2:=zJ o.case_;have n3:=zJ o.field;have n4:=zJ o.to_;have n5:=putV_len o.val;have n6:=jl o.rev;have n7:=zJ o.text;have n8:=zJ o.reason;have n9:=putV_len (truthV o.glass);have s1:=h.subj;have s2:=h.case_;have s3:=h.field;have s4:=h.to_;have s5:=h.val;have s6:=h.text;have s7:=h.reason;have HK:=(pnum_h [] DQ o.kind h.ok.kind).cv (args':=[.v (.slice none 0 0),pI o.kind]) (.cons (.nil 1) (.cons (.refl _) .nil));refine Vd ?_;show HoldsW _ _ [.p (.agg o.pv)] [] _ _;refine qE (ts:=[2]) func113 DG rfl rfl rfl ?_;refine Kq ?_;refine uO HK ?_;refine Ku ?_;refine uB ?_;refine SW.wk ((qu (k:=17) rfl).trans (qu (k:=9000) rfl)) ?_;refine uZ [1,3,17,18,19] [(1,1)] ?_;obtain⟨T,hT⟩:∃T:List DT,T=[o.subj,o.case_,o.field,o.to_]:=⟨_,rfl⟩;have hT4:T.length=4:=by rw[hT];rfl
 have hTs:∀x∈T,x.size<=5000:=by rw[hT];simp;exact⟨s1,s2,s3,s4⟩
 have lT:(T.map fun s=>[pS s]).length=4:=by rw[Yb];exact hT4
 have accL:∀k,(putN o.kind++(T.take k).flatMap putT).length<=10+4*5010:=fun k=>by
  have h1:∀l:List DT,(∀x∈l,x.size<=5000)->(l.flatMap putT).length<=l.length*5010:=fun l hl=>by
   induction l with
   |nil=>simp
   |cons x l ih=>
    have h2:=zJ x;have h3:=hl x DQ;have h4:=ih fun y hy=>hl y (by simp[hy])
    rw[YW,Ya,Yg];omega
  have h2:=h1 (T.take k) fun x hx=>hTs x (Xd hx)
  have h3:(T.take k).length<=4:=by rw[Yd];omega
  rw[Ya];omega
 refine qG (fun m s=>∃k:Nat,k<=4/\m=4-k/\s=⟨46,[(1,.ptr 1 0),(3,.p (bP (putN o.kind++(T.take k).flatMap putT))),(17,.p (.sl 1 (T.map fun s=>[pS s]))),(18,.p (pI 4)),(19,.p (pI (k:Int)))],[(1,.cells (opS o))]⟩) 4 ⟨0,by omega,rfl,by rw[List.take_zero,List.flatMap_nil,Y9,hT];rfl⟩ ?_;rintro m s ⟨k,hk,rfl,rfl⟩;have ak:=accL k;refine uA ?_;by_cases hlt:k<4
 · rw[show decide ((k:Int)<4)=true by rw[Yf];omega];refine uC (fun hc=>?_) (fun hc=>?_);rotate_left
   · cases hc
   refine Lh ?_;have hkT:k<T.length:=by omega
   refine uR ?_;refine qm qc rfl rfl (by rw[lT];omega) rfl ?_;rw[qw hkT];refine Ko ?_;have hTk:=hTs T[k] (Yn hkT);refine uR ?_;have HX:=textB_h (putN o.kind++(T.take k).flatMap putT) DP T[k] DP;refine uO HX ?_;refine Ko ?_;refine SW.wk (qu (k:=26000) rfl) ?_;refine uA ?_;refine⟨_,_,?_,qj [1,3,17,18,19] [(1,1)] rfl rfl,k+1,hlt,rfl,by rw[qq hlt DP,Ym hkT,List.flatMap_append,YW,List.flatMap_nil,Y9,<-YU];rfl⟩;omega
 rw[show decide ((k:Int)<4)=false by rw[Yh];omega];refine uC (fun hc=>?_) (fun hc=>?_)
 · cases hc
 refine qC ?_;have hk4:k=T.length:=by omega
 rw[hk4,Yu,hT];rw[hk4,Yu]at ak;have eL:putN o.kind++List.flatMap putT [o.subj,o.case_,o.field,o.to_]=putN o.kind++putT o.subj++putT o.case_++putT o.field++putT o.to_:=by simp
 rw[hT,eL]at ak;rw[eL];have ePut:putO o=putN o.kind++putT o.subj++putT o.case_++putT o.field++putT o.to_++putV o.val++putN o.rev++putT o.text++putT o.reason++putV (truthV o.glass):=rfl;rw[ePut];generalize putN o.kind++putT o.subj++putT o.case_++putT o.field++putT o.to_=a at*;have hvf:o.val.Fit:=⟨h.ok.val.2.2,h.ok.val.2.1,by unfold reachBytes;omega⟩;have H1:=vput_h a DP o.val hvf DP h.ok.val.2.2;have H2:=pnum_h (a++putV o.val) (by rw[Ya];omega) o.rev h.ok.rev;have H3:=textB_h (a++putV o.val++putN o.rev) E1 o.text DP;have H4:=textB_h (a++putV o.val++putN o.rev++putT o.text) E1 o.reason DP;have H5:=etruth_h o.glass;have hg:(truthV o.glass).Fit/\(truthV o.glass).s.size<=100000/\R64 (truthV o.glass).kind:=by
  cases o.glass<;>exact⟨⟨r64_1,by first|exact r64_1|exact r64_0,by decide⟩,by decide,r64_1⟩
 have H6:=vput_h (a++putV o.val++putN o.rev++putT o.text++putT o.reason) E1 (truthV o.glass) hg.1 hg.2.1 hg.2.2;refine uZ [1,3] [(1,1)] ?_;refine uD [] [1,3,5,9,11,6,12,15] ?_;refine uo H1 ?_;refine SWM.wkg ?_ (wkg_frz (k:=31000) rfl) rfl;refine uT ?_;refine uo H2 ?_;refine KG ?_;refine SW.wk (qu (k:=34000) rfl) ?_;refine uZ [1,3] [(1,1)] ?_;refine uD [] [1,3,5,9,11,6,12,15] ?_;refine uo H3 ?_;refine SWM.wkg ?_ (wkg_frz (k:=38000) rfl) rfl;refine uT ?_;refine uo H4 ?_;refine KG ?_;refine SW.wk (qu (k:=41000) rfl) ?_;refine uZ [1,3] [(1,1)] ?_;refine uR ?_;refine uK H5 ?_;refine uS ?_;refine uO H6 ?_;refine Ks ?_;exact uF [(46000,0)]
theorem putO_len (o:Opn) (h:o.Sz):(putO o).length<=36000:=by
 have n0:=jl o.kind;have n1:=zJ o.subj;have n2:=zJ o.case_;have n3:=zJ o.field;have n4:=zJ o.to_;have n5:=putV_len o.val;have n6:=jl o.rev;have n7:=zJ o.text;have n8:=zJ o.reason;have n9:=putV_len (truthV o.glass);have e:(truthV o.glass).s.size=0:=rfl;have s1:=h.subj;have s2:=h.case_;have s3:=h.field;have s4:=h.to_;have s5:=h.val;have s6:=h.text;have s7:=h.reason;unfold putO;simp only[Ya];omega
theorem leW_snoc (k h:Nat):leW (k+1) h=leW k h++[UInt8.ofNat (h/256^k%256)]:=by
 unfold leW;rw[leB_snoc,Yr];rfl
theorem rec_h (h:Nat) (hh:h<18446744073709551616) (o:Opn) (ho:o.Sz):Holds prog 63 [pW64 h,.agg o.pv] (.p (bP (recW h o))) []:=by
 have HP:=put_h o ho;have hl:=putO_len o ho;refine Vd ?_;show HoldsW _ _ [.p (pW64 h),.p (.agg o.pv)] [] _ _;refine qE (ts:=[4]) func63 DG rfl rfl rfl ?_;refine Lr ?_;refine SW.wk (zw 5 900 5 1 rfl rfl) ?_;refine uZ [0,3,5,6] [(3,3),(900,5)] ?_;refine qG (fun m s=>∃k:Nat,k<=8/\m=8-k/\s=⟨20,[(0,.p (pW64 (h/256^k))),(3,.ptr 3 0),(5,.row 5),(6,.p (pI (k:Int)))],[(3,.cells (opS o)),(5,.row 5 1 (bR (leW k h)))]⟩) 8 ⟨0,by omega,rfl,by rw[Nat.pow_zero,Nat.div_one];rfl⟩ ?_;rintro m s ⟨k,hk,rfl,rfl⟩;have hd:h/256^k<18446744073709551616:=Nat.lt_of_le_of_lt (Nat.div_le_self _ _) hh;refine uA ?_;by_cases h8:k<8
 · rw[show decide ((k:Int)<8)=true by rw[Yf];omega];refine uC (fun hc=>?_) (fun hc=>?_);rotate_left
   · cases hc
   refine Li ?_;rw[u8_w];refine uS ?_;refine qy rfl (qp qc rfl rfl rfl rfl rfl rfl rfl rfl rfl rfl rfl rfl rfl rfl rfl rfl (by simp only[zY,Yg,List.length_nil,qbj];unfold reachBytes;omega) (by simp only[zY,Yg,List.length_nil,qbj];show(_+_)*1<=_;omega) ?_);refine Kt ?_;refine Vw ?_;rw[shr64_8];refine Ku ?_;refine⟨_,_,?_,qj [0,3,5,6] [(3,3),(12,5)] rfl rfl,k+1,h8,rfl,by rw[qq h8 DP,Nat.pow_succ,<-Nat.div_div_eq_div_mul,leW_snoc,bR_app];rfl⟩;omega
 rw[show decide ((k:Int)<8)=false by rw[Yh];omega];refine uC (fun hc=>?_) (fun hc=>?_)
 · cases hc
 refine qC ?_;have hk8:k=8:=by omega
 subst hk8;refine uR ?_;refine uO HP ?_;refine uS ?_;refine qy rfl (qp qc rfl rfl rfl rfl rfl rfl rfl rfl rfl rfl rfl rfl rfl rfl rfl rfl (by simp only[zY,qbj];unfold reachBytes;omega) (by simp only[zY,qbj];show(_+_)*1<=_;omega) ?_);refine Ks ?_;unfold bP recW;rw[bR_app];exact⟨Or.inr rfl,_,_,[],qu (k:=19) rfl,rfl,rfl,rfl,rfl⟩
end
section
open Go.RowKit Go.Lib
attribute [local go_sem] wY jA
attribute [local go_sem low] jz zZ
theorem jL {w:World} {g:Nat} {cur:Array Value} {t:TypeId} (h:w.heap[g]?=some (.cells cur t (0,0))) (k:Nat):w.cell? ⟨g,k,none⟩=cur[k]?:=by
 unfold World.cell?;rw[h];simp
theorem wB (g o j:Nat):(⟨g,o,none⟩:Addr).add j=⟨g,o+j,none⟩:=by unfold Addr.add;split<;>simp_all
theorem drop_cell {cur:Array Value} {cs:List Value} {a b j:Nat} {v:Value} (hcs:cur.toList.take b=cs) (h:(cs.drop a)[j]?=some v):cur[a+j]?=some v:=by
 rw[YV,<-hcs,Xv]at h;split at h
 · simpa using h
 · cases h
theorem wM {cur:Array Value} {vs:List Value} {b j:Nat} {v:Value} (hcs:cur.toList.take b=vs) (h:vs[j]?=some v):cur[j]?=some v:=by
 have:=drop_cell (a:=0) hcs DA;simpa using this
theorem push_modify (h:Array Obj) (o:Obj) (f:Obj->Obj):(h.push o).modify h.size f=h.push (f o):=by
 apply Array.ext
 · simp
 · intro k h1 h2;rw[Array.getElem_modify];simp only[Array.getElem_push];split
   · rename_i hk;subst hk;simp
   · rename_i hk;have:k<h.size:=by simp at h1;omega
     simp[this]
theorem ins_shiftF (w:World) (g n c i vb vc:Nat) (cur curv:Array Value) (cs vs:List Value) (hi:i<n) (hroom:n+1<=c) (hc63:c<=9223372036854775807) (hvb:vb≠g)
 (hh:w.heap[g]?=some (.cells cur 96 (0,0))) (hcs:cur.toList.take (n*4)=cs) (hsz:cur.size=c*4)
 (hh2:w.heap[vb]?=some (.cells curv 96 (0,0))) (hvs:curv.toList.take 4=vs) (hvz:4<=curv.size) (h1c:∀v∈cs,v.oneCell'=true) (h1v:∀v∈vs,v.oneCell'=true):
 Calls prog 192 #[.slice (some ⟨g,0,none⟩) n c,.int .i64 i,.slice (some ⟨vb,0,none⟩) 1 vc] w fun e w'=>
  e=.returned (.slice (some ⟨g,0,none⟩) (n+1) c)/\∃X:Array Value,LikeW (w.setRow g X) w'/\X.size=cur.size/\X.toList.take ((n+1)*4)=cs.take (i*4)++vs++cs.drop (i*4):=by
 have hov:∀la lb cb ca o,(callFunc 243 #[.slice (some ⟨vb,0,none⟩) la ca,.slice (some ⟨g,o,none⟩) lb cb]).run prog w=.ok (.value (.bool false)) w:=fun la lb cb ca o=>by
  rw[run_callFunc_extern func243 DG DG DG (e:=Extern.SlicesOverlaps.overlaps #[88,88] #[4]) DG,
   Lib.run_overlaps_apart w 88 4 96 underlying88 4 sizeOf96 ⟨vb,0,none⟩ ⟨g,o,none⟩ la ca lb cb hvb 96 96 curv.size cur.size (by unfold World.shape?;rw[hh2]) (by unfold World.shape?;rw[hh]) DP ER ER]
  rfl
 have hw1:IntKind.i64.wrap ((i:Int)+1)=(i:Int)+1:=YD _ DP;have mixed:prog.follows .mixedOrders=true:=by kernel_rfl
 have hz2:¬((i:Int)=(n:Int)):=by omega
 have hb1:(0:Int)<=(i:Int)+1:=by omega
 have hin:i<=n:=by omega
 have htn:((i:Int)+1).toNat=i+1:=by omega
 have hb2:¬(c=i+1):=by omega
 have hb3:(i:Int)<=(n:Int)+1:=by omega
 have hb5:¬(c=i):=by omega
 have hb4:¬((n:Int)+1>(c:Int)):=by omega
 have hs4:(prog.info? 96).map (·.size)=some 4:=by kernel_rfl
 have hcl:cs.length=n*4:=by rw[<-hcs,Yd,Yx];omega
 have hvl:vs.length=4:=by rw[<-hvs,Yd,Yx];omega
 have hdl:(cs.drop (i*4)).length=(n-i)*4:=by rw[Yo,hcl];omega
 have hcp1:∀(W:World),W.heap=w.heap->∀ty dc sc,(Builtin.copy_ #[88,88] ty #[.slice (some ⟨g,(i+1)*4,none⟩) (n+1-(i+1)) dc,.slice (some ⟨g,i*4,none⟩) (n+1-i) sc]).run prog W=.ok (goInt ((n-i:Nat):Int)) (W.setRow g (cur.toList.take (i*4+4)++cs.drop (i*4)++cur.toList.drop (i*4+4+(cs.drop (i*4)).length)).toArray):=fun W hW ty dc sc=>by
  have hm:Nat.min (n+1-i) (n+1-(i+1))=n-i:=by show min _ _=_;omega
  have hg:W.heap[g]?=some (.cells cur 96 (0,0)):=by rw[hW];exact hh
  have:=jT (P:=prog) W 88 88 ty 96 4 g ((i+1)*4) (n+1-(i+1)) dc ⟨g,i*4,none⟩ (n+1-i) sc cur 96 (cs.drop (i*4)) underlying88 hs4 hg Db
   (fun j v hj=>by rw[wB,jL hg];exact drop_cell hcs hj) (by rw[hdl,hsz];omega) (fun v hv=>h1c v (YX hv))
  rw[hm,show(i+1)*4=i*4+4 by omega]at this;rw[show(i+1)*4=i*4+4 by omega];exact this
 obtain⟨X1,hX1⟩:∃X1:Array Value,X1=(cur.toList.take (i*4+4)++cs.drop (i*4)++cur.toList.drop (i*4+4+(cs.drop (i*4)).length)).toArray:=⟨_,rfl⟩;rw[<-hX1]at hcp1;have hX1s:X1.size=cur.size:=by
  rw[hX1];simp only[Xt,Ya,Yd,Yo,Yx,hcl];omega
 have hX1l:X1.toList=cur.toList.take (i*4+4)++cs.drop (i*4)++cur.toList.drop (i*4+4+(cs.drop (i*4)).length):=by rw[hX1]
 obtain⟨X2,hX2⟩:∃X2:Array Value,X2=(X1.toList.take (i*4)++vs++X1.toList.drop (i*4+vs.length)).toArray:=⟨_,rfl⟩;have hcp2:∀(W:World),W.heap=(w.setRow g X1).heap->∀ty dc sc,(Builtin.copy_ #[88,88] ty #[.slice (some ⟨g,i*4,none⟩) (n+1-i) dc,.slice (some ⟨vb,0,none⟩) 1 sc]).run prog W=.ok (goInt ((1:Nat):Int)) (W.setRow g X2):=fun W hW ty dc sc=>by
  have hm:Nat.min 1 (n+1-i)=1:=by show min _ _=_;omega
  have hg:W.heap[g]?=some (.cells X1 96 (0,0)):=by rw[hW];exact setRow_heap w g cur X1 96 (0,0) hh
  have hg2:W.heap[vb]?=some (.cells curv 96 (0,0)):=by rw[hW,setRow_other w g vb X1 hvb];exact hh2
  have:=jT (P:=prog) W 88 88 ty 96 4 g (i*4) (n+1-i) dc ⟨vb,0,none⟩ 1 sc X1 96 vs underlying88 hs4 hg Dy
   (fun j v hj=>by rw[wB,jL hg2,Xk];exact wM hvs hj) (by rw[hvl,hX1s,hsz];omega) h1v
  rw[hm,<-hX2]at this;exact this
 have hfin:X2.size=cur.size/\X2.toList.take ((n+1)*4)=cs.take (i*4)++vs++cs.drop (i*4):=by
  have hl2:X2.toList=X1.toList.take (i*4)++vs++X1.toList.drop (i*4+vs.length):=by rw[hX2]
  refine⟨?_,?_⟩
  · rw[<-Yx,hl2];simp only[Ya,Yd,Yo,Yx,hvl,hX1s];omega
  · rw[hl2,hX1l,show(n+1)*4=n*4+4 by omega];exact ins_list cur.toList cs vs (i*4) (n*4) 4 DP hcs hcl hvl (by rw[Yx];omega)
 replace hX1:=hide hX1
 replace hX2:=hide hX2
 clear hX1l hX1s
 go_enter func192,ntmps192
 go_wp2_with (simp only[hov])
 go_region_law_o (refine qaA rfl _ _ 88 88 rfl (.slice (some ⟨g,(i+1)*4,none⟩) (n+1-(i+1)) (c-(i+1))) (.slice (some ⟨g,i*4,none⟩) (n+1-i) (c-i)) EU EU (hcp1 w.drew rfl _ _ _) ?_)
 have hcp3:=hcp2 (w.drew.setRow g X1) rfl;go_wp2_with (simp only[hcp3])
 go_ret
 exact⟨rfl,X2,⟨by rw[<-setRow_setRow w g X1 X2];rfl,rfl,rfl,rfl⟩,hfin⟩
theorem ins_growF (w:World) (g n c i vb vc:Nat) (cur curv:Array Value) (cs vs:List Value) (hi:i<n) (hnc:n<=c) (hroom:c<n+1) (hn:n<=1000) (hvb:vb≠g)
 (hh:w.heap[g]?=some (.cells cur 96 (0,0))) (hcs:cur.toList.take (n*4)=cs) (hsz:cur.size=c*4)
 (hh2:w.heap[vb]?=some (.cells curv 96 (0,0))) (hvs:curv.toList.take 4=vs) (hvz:4<=curv.size) (h1c:∀v∈cs,v.oneCell'=true) (h1v:∀v∈vs,v.oneCell'=true):
 Calls prog 192 #[.slice (some ⟨g,0,none⟩) n c,.int .i64 i,.slice (some ⟨vb,0,none⟩) 1 vc] w fun e w'=>
  ∃G,e=.returned (.slice (some ⟨w.heap.size,0,none⟩) (n+1) G)/\n+1<=G/\G<=maxLen/\∃X:Array Value,LikeW (w.alloc (.cells X 96)) w'/\X.size=G*4/\X.toList.take ((n+1)*4)=cs.take (i*4)++vs++cs.drop (i*4):=by
 obtain⟨i0,zv,hi0,hzs,hzb,hz0,hzc⟩:=(qc 96 _ rfl).info;have hs4:(prog.info? 96).map (·.size)=some 4:=by kernel_rfl
 have mixed:prog.follows .mixedOrders=true:=by kernel_rfl
 have hzs4:i0.size=4:=hzs;have hzb4:i0.bytes<=1000:=by rw[hzb];decide
 have hcl:cs.length=n*4:=by rw[<-hcs,Yd,Yx];omega
 have hvl:vs.length=4:=by rw[<-hvs,Yd,Yx];omega
 have hdl:(cs.drop (i*4)).length=(n-i)*4:=by rw[Yo,hcl];omega
 have hz2:¬((i:Int)=(n:Int)):=by omega
 have hz3:(c:Int)<(n:Int)+1:=by omega
 have hbw:g<w.heap.size:=lt_of_block hh;have hvw:vb<w.heap.size:=lt_of_block hh2;have hkk:(n:Int)+1-(i:Int)=((n+1-i:Nat):Int):=by omega
 have hik:i+(n+1-i)=n+1:=by omega
 have hbig:(n+1)*i0.bytes<=140737488355328:=by
  have:=Nat.mul_le_mul (show n+1<=1001 by omega) hzb4;omega
 have hold:(Builtin.firstCells i0.size i (.slice (some ⟨g,0,none⟩) i c)).run prog w.drew=.ok (cs.take (i*4)).toArray w.drew:=by
  rw[hzs4];exact run_firstCells_some w.drew 4 i ⟨g,0,none⟩ i c (cs.take (i*4)) E5 (fun j v hj=>by
   rw[wB,show w.drew.cell? ⟨g,0+j,none⟩=w.cell? ⟨g,0+j,none⟩from rfl,jL hh,Xk];rw[Xv]at hj;split at hj
   · exact wM hcs hj
   · cases hj)
 have hrz:∀ty,(Builtin.append_ #[88,3] ty #[.slice (some ⟨g,0,none⟩) i c,.int .i64 ((n:Int)+1-(i:Int))]).run prog w=
  .ok (.slice (some ⟨w.heap.size,0,none⟩) (n+1) (grownCap w (n+1) c 96)) (w.drew.alloc (.cells ((cs.take (i*4)).toArray++Builtin.zeroCells zv.cells (n+1-i)++Builtin.zeroCells zv.cells (grownCap w (n+1) c 96-(n+1))) 96)):=fun ty=>by
  have h:=Lib.run_append_grow_zeros w 88 3 ty 96 i0 zv .i64 .i64 underlying88 underlying3 hi0 hz0 (some ⟨g,0,none⟩) i c (cs.take (i*4)) hold (n+1-i) DP DP DP DP Ev EG;rw[hik]at h;rw[hkk];exact h
 obtain⟨G,hG⟩:∃G,G=grownCap w (n+1) c 96:=⟨_,rfl⟩;obtain⟨ROW,hROW⟩:∃ROW:Array Value,ROW=(cs.take (i*4)).toArray++Builtin.zeroCells zv.cells (n+1-i)++Builtin.zeroCells zv.cells (G-(n+1)):=⟨_,rfl⟩;rw[<-hG]at hrz;rw[<-hROW]at hrz;have hGn:n+1<=G:=by rw[hG];exact grownCap_ge w _ _ _
 have hGm:G<=maxLen:=by
  have:=grownCap_le_maxLen w (n+1) c 96 E2;rwa [<-hG]at this
 have hG63:G<=9223372036854775807:=by unfold maxLen at hGm;omega
 have hzc4:zv.cells.size=4:=by rw[<-Yx,hzc];rfl
 have hRs:ROW.size=G*4:=by
  rw[hROW];simp only[Array.size_append,Xt,Yd,hcl,Builtin.zeroCells,Array.size_map,Array.size_range,hzc4];omega
 have hRt:ROW.toList.take (i*4)=cs.take (i*4):=by
  rw[hROW];simp only[Array.toList_append,YU];rw[Y7 E5,YN Dw]
 obtain⟨W1,hW1⟩:∃W1,W1=w.drew.alloc (.cells ROW 96):=⟨_,rfl⟩;have hN:W1.heap[w.heap.size]?=some (.cells ROW 96 (0,0)):=by rw[hW1];exact heap_alloc_new w.drew _
 have hO:∀b,b<w.heap.size->W1.heap[b]?=w.heap[b]?:=fun b hb=>by rw[hW1];exact((Below.refl _ w.drew).alloc (Yk _) _).block b hb
 obtain⟨X1,hX1⟩:∃X1:Array Value,X1=(ROW.toList.take (i*4)++vs++ROW.toList.drop (i*4+vs.length)).toArray:=⟨_,rfl⟩;have hcp1:∀(W:World),W.heap=W1.heap->∀ty dc sc,(Builtin.copy_ #[88,88] ty #[.slice (some ⟨w.heap.size,i*4,none⟩) (n+1-i) dc,.slice (some ⟨vb,0,none⟩) 1 sc]).run prog W=.ok (goInt ((1:Nat):Int)) (W.setRow w.heap.size X1):=fun W hW ty dc sc=>by
  have hm:Nat.min 1 (n+1-i)=1:=by show min _ _=_;omega
  have hg:W.heap[w.heap.size]?=some (.cells ROW 96 (0,0)):=by rw[hW];exact hN
  have hg2:W.heap[vb]?=some (.cells curv 96 (0,0)):=by rw[hW,hO vb hvw];exact hh2
  have:=jT (P:=prog) W 88 88 ty 96 4 w.heap.size (i*4) (n+1-i) dc ⟨vb,0,none⟩ 1 sc ROW 96 vs underlying88 hs4 hg Dy
   (fun j v hj=>by rw[wB,jL hg2,Xk];exact wM hvs hj) (by rw[hvl,hRs];omega) h1v
  rw[hm,<-hX1]at this;exact this
 have hX1l:X1.toList=cs.take (i*4)++vs++ROW.toList.drop (i*4+4):=by rw[hX1,hRt,hvl]
 have hX1s:X1.size=G*4:=by
  rw[<-Yx,hX1l];simp only[Ya,Yd,Yo,Yx,hvl,hRs,hcl];omega
 obtain⟨X2,hX2⟩:∃X2:Array Value,X2=(X1.toList.take ((i+1)*4)++cs.drop (i*4)++X1.toList.drop ((i+1)*4+(cs.drop (i*4)).length)).toArray:=⟨_,rfl⟩;have hcp2:∀(W:World),W.heap=(W1.setRow w.heap.size X1).heap->∀ty dc sc,(Builtin.copy_ #[88,88] ty #[.slice (some ⟨w.heap.size,(i+1)*4,none⟩) (n+1-(i+1)) dc,.slice (some ⟨g,i*4,none⟩) (n-i) sc]).run prog W=.ok (goInt ((n-i:Nat):Int)) (W.setRow w.heap.size X2):=fun W hW ty dc sc=>by
  have hm:Nat.min (n-i) (n+1-(i+1))=n-i:=by show min _ _=_;omega
  have hg:W.heap[w.heap.size]?=some (.cells X1 96 (0,0)):=by rw[hW];exact setRow_heap W1 w.heap.size ROW X1 96 (0,0) hN
  have hg2:W.heap[g]?=some (.cells cur 96 (0,0)):=by rw[hW,setRow_other W1 w.heap.size g X1 DP,hO g hbw];exact hh
  have:=jT (P:=prog) W 88 88 ty 96 4 w.heap.size ((i+1)*4) (n+1-(i+1)) dc ⟨g,i*4,none⟩ (n-i) sc X1 96 (cs.drop (i*4)) underlying88 hs4 hg Db
   (fun j v hj=>by rw[wB,jL hg2];exact drop_cell hcs hj) (by rw[hdl,hX1s];omega) (fun v hv=>h1c v (YX hv))
  rw[hm,<-hX2]at this;exact this
 have hfin:X2.size=G*4/\X2.toList.take ((n+1)*4)=cs.take (i*4)++vs++cs.drop (i*4):=by
  have hl2:X2.toList=X1.toList.take ((i+1)*4)++cs.drop (i*4)++X1.toList.drop ((i+1)*4+(cs.drop (i*4)).length):=by rw[hX2]
  refine⟨?_,?_⟩
  · rw[<-Yx,hl2];simp only[Ya,Yd,Yo,Yx,hX1s,hcl];omega
  · have ht:X1.toList.take ((i+1)*4)=cs.take (i*4)++vs:=by
     exact M1
    exact Ma
 have hw1:IntKind.i64.wrap ((i:Int)+1)=(i:Int)+1:=YD _ DP;have hw2:IntKind.i64.wrap ((n:Int)+1)=(n:Int)+1:=YD _ DP;have hw3:IntKind.i64.wrap ((n:Int)+1-(i:Int))=(n:Int)+1-(i:Int):=YD _ DP;have hb1:(0:Int)<=(i:Int)+1:=by omega
 have hin:i<=n:=by omega
 have htn:((i:Int)+1).toNat=i+1:=by omega
 have hb3:(i:Int)<=(n:Int):=by omega
 have hb6:(i:Int)<=(n:Int)+1:=by omega
 have hGi:¬(G=i):=by omega
 have hGim:¬(G=i+1):=by omega
 have hci:¬(c=i):=by omega
 have hW1':=hW1;rw[<-hW1]at hrz;replace hX1:=hide hX1
 replace hX2:=hide hX2
 replace hROW:=hide hROW
 replace hW1:=hide hW1
 replace hG:=hide hG
 clear hkk hik hold hX1l hX1s hRt hRs hW1' hN hO
 go_enter func192,ntmps192
 go_wp2_with (at_builtin;refine Lib.wpList_append_run _ rfl _ _ _ _ rfl _ _ rfl rfl _ _ (hrz _) ?_)
 go_region_law_o (refine qaA rfl _ _ 88 88 rfl (.slice (some ⟨w.heap.size,(i+1)*4,none⟩) (n+1-(i+1)) (G-(i+1))) (.slice (some ⟨g,i*4,none⟩) (n-i) (c-i)) EU EU (hcp2 (W1.setRow w.heap.size X1).drew rfl _ _ _) ?_)
 go_wp2
 go_ret
 refine⟨G,rfl,hGn,hGm,X2,?_,hfin⟩;have hW:=hW1.out;refine⟨?_,?_,?_,?_⟩
 · have e1:W1.heap=(w.alloc (.cells ROW 96)).heap:=by rw[hW];rfl
   have e2:((W1.setRow w.heap.size X1).drew.setRow w.heap.size X2).heap=(W1.setRow w.heap.size X2).heap:=by rw[<-setRow_setRow W1 w.heap.size X1 X2];rfl
   show((W1.setRow w.heap.size X1).drew.setRow w.heap.size X2).heap=_;rw[e2];unfold World.setRow;rw[e1];simp only[World.alloc];exact push_modify w.heap _ _
 · rw[hW];rfl
 · rw[hW];rfl
 · rw[hW];rfl
theorem ins_shiftC (w:World) (g n c i vb vc:Nat) (cur curv:Array Value) (cs vs:List Value) (hi:i<n) (hroom:n+1<=c) (hc63:c<=9223372036854775807) (hvb:vb≠g)
 (hh:w.heap[g]?=some (.cells cur 91 (0,0))) (hcs:cur.toList.take (n*5)=cs) (hsz:cur.size=c*5)
 (hh2:w.heap[vb]?=some (.cells curv 91 (0,0))) (hvs:curv.toList.take 5=vs) (hvz:5<=curv.size) (h1c:∀v∈cs,v.oneCell'=true) (h1v:∀v∈vs,v.oneCell'=true):
 Calls prog 129 #[.slice (some ⟨g,0,none⟩) n c,.int .i64 i,.slice (some ⟨vb,0,none⟩) 1 vc] w fun e w'=>
  e=.returned (.slice (some ⟨g,0,none⟩) (n+1) c)/\∃X:Array Value,LikeW (w.setRow g X) w'/\X.size=cur.size/\X.toList.take ((n+1)*5)=cs.take (i*5)++vs++cs.drop (i*5):=by
 have hov:∀la lb cb ca o,(callFunc 189 #[.slice (some ⟨vb,0,none⟩) la ca,.slice (some ⟨g,o,none⟩) lb cb]).run prog w=.ok (.value (.bool false)) w:=fun la lb cb ca o=>by
  rw[run_callFunc_extern func189 DG DG DG (e:=Extern.SlicesOverlaps.overlaps #[28,28] #[4]) DG,
   Lib.run_overlaps_apart w 28 4 91 underlying28 5 sizeOf91 ⟨vb,0,none⟩ ⟨g,o,none⟩ la ca lb cb hvb 91 91 curv.size cur.size (by unfold World.shape?;rw[hh2]) (by unfold World.shape?;rw[hh]) DP ER ER]
  rfl
 have hw1:IntKind.i64.wrap ((i:Int)+1)=(i:Int)+1:=YD _ DP;have mixed:prog.follows .mixedOrders=true:=by kernel_rfl
 have hz2:¬((i:Int)=(n:Int)):=by omega
 have hb1:(0:Int)<=(i:Int)+1:=by omega
 have hin:i<=n:=by omega
 have htn:((i:Int)+1).toNat=i+1:=by omega
 have hb2:¬(c=i+1):=by omega
 have hb3:(i:Int)<=(n:Int)+1:=by omega
 have hb5:¬(c=i):=by omega
 have hb4:¬((n:Int)+1>(c:Int)):=by omega
 have hs4:(prog.info? 91).map (·.size)=some 5:=by kernel_rfl
 have hcl:cs.length=n*5:=by rw[<-hcs,Yd,Yx];omega
 have hvl:vs.length=5:=by rw[<-hvs,Yd,Yx];omega
 have hdl:(cs.drop (i*5)).length=(n-i)*5:=by rw[Yo,hcl];omega
 have hcp1:∀(W:World),W.heap=w.heap->∀ty dc sc,(Builtin.copy_ #[28,28] ty #[.slice (some ⟨g,(i+1)*5,none⟩) (n+1-(i+1)) dc,.slice (some ⟨g,i*5,none⟩) (n+1-i) sc]).run prog W=.ok (goInt ((n-i:Nat):Int)) (W.setRow g (cur.toList.take (i*5+5)++cs.drop (i*5)++cur.toList.drop (i*5+5+(cs.drop (i*5)).length)).toArray):=fun W hW ty dc sc=>by
  have hm:Nat.min (n+1-i) (n+1-(i+1))=n-i:=by show min _ _=_;omega
  have hg:W.heap[g]?=some (.cells cur 91 (0,0)):=by rw[hW];exact hh
  have:=jT (P:=prog) W 28 28 ty 91 5 g ((i+1)*5) (n+1-(i+1)) dc ⟨g,i*5,none⟩ (n+1-i) sc cur 91 (cs.drop (i*5)) underlying28 hs4 hg Db
   (fun j v hj=>by rw[wB,jL hg];exact drop_cell hcs hj) (by rw[hdl,hsz];omega) (fun v hv=>h1c v (YX hv))
  rw[hm,show(i+1)*5=i*5+5 by omega]at this;rw[show(i+1)*5=i*5+5 by omega];exact this
 obtain⟨X1,hX1⟩:∃X1:Array Value,X1=(cur.toList.take (i*5+5)++cs.drop (i*5)++cur.toList.drop (i*5+5+(cs.drop (i*5)).length)).toArray:=⟨_,rfl⟩;rw[<-hX1]at hcp1;have hX1s:X1.size=cur.size:=by
  rw[hX1];simp only[Xt,Ya,Yd,Yo,Yx,hcl];omega
 have hX1l:X1.toList=cur.toList.take (i*5+5)++cs.drop (i*5)++cur.toList.drop (i*5+5+(cs.drop (i*5)).length):=by rw[hX1]
 obtain⟨X2,hX2⟩:∃X2:Array Value,X2=(X1.toList.take (i*5)++vs++X1.toList.drop (i*5+vs.length)).toArray:=⟨_,rfl⟩;have hcp2:∀(W:World),W.heap=(w.setRow g X1).heap->∀ty dc sc,(Builtin.copy_ #[28,28] ty #[.slice (some ⟨g,i*5,none⟩) (n+1-i) dc,.slice (some ⟨vb,0,none⟩) 1 sc]).run prog W=.ok (goInt ((1:Nat):Int)) (W.setRow g X2):=fun W hW ty dc sc=>by
  have hm:Nat.min 1 (n+1-i)=1:=by show min _ _=_;omega
  have hg:W.heap[g]?=some (.cells X1 91 (0,0)):=by rw[hW];exact setRow_heap w g cur X1 91 (0,0) hh
  have hg2:W.heap[vb]?=some (.cells curv 91 (0,0)):=by rw[hW,setRow_other w g vb X1 hvb];exact hh2
  have:=jT (P:=prog) W 28 28 ty 91 5 g (i*5) (n+1-i) dc ⟨vb,0,none⟩ 1 sc X1 91 vs underlying28 hs4 hg Dy
   (fun j v hj=>by rw[wB,jL hg2,Xk];exact wM hvs hj) (by rw[hvl,hX1s,hsz];omega) h1v
  rw[hm,<-hX2]at this;exact this
 have hfin:X2.size=cur.size/\X2.toList.take ((n+1)*5)=cs.take (i*5)++vs++cs.drop (i*5):=by
  have hl2:X2.toList=X1.toList.take (i*5)++vs++X1.toList.drop (i*5+vs.length):=by rw[hX2]
  refine⟨?_,?_⟩
  · rw[<-Yx,hl2];simp only[Ya,Yd,Yo,Yx,hvl,hX1s];omega
  · rw[hl2,hX1l,show(n+1)*5=n*5+5 by omega];exact ins_list cur.toList cs vs (i*5) (n*5) 5 DP hcs hcl hvl (by rw[Yx];omega)
 replace hX1:=hide hX1
 replace hX2:=hide hX2
 clear hX1l hX1s
 go_enter func129,ntmps129
 go_wp2_with (simp only[hov])
 go_region_law_o (refine qaA rfl _ _ 28 28 rfl (.slice (some ⟨g,(i+1)*5,none⟩) (n+1-(i+1)) (c-(i+1))) (.slice (some ⟨g,i*5,none⟩) (n+1-i) (c-i)) EU EU (hcp1 w.drew rfl _ _ _) ?_)
 have hcp3:=hcp2 (w.drew.setRow g X1) rfl;go_wp2_with (simp only[hcp3])
 go_ret
 exact⟨rfl,X2,⟨by rw[<-setRow_setRow w g X1 X2];rfl,rfl,rfl,rfl⟩,hfin⟩
theorem ins_growC (w:World) (g n c i vb vc:Nat) (cur curv:Array Value) (cs vs:List Value) (hi:i<n) (hnc:n<=c) (hroom:c<n+1) (hn:n<=1000) (hvb:vb≠g)
 (hh:w.heap[g]?=some (.cells cur 91 (0,0))) (hcs:cur.toList.take (n*5)=cs) (hsz:cur.size=c*5)
 (hh2:w.heap[vb]?=some (.cells curv 91 (0,0))) (hvs:curv.toList.take 5=vs) (hvz:5<=curv.size) (h1c:∀v∈cs,v.oneCell'=true) (h1v:∀v∈vs,v.oneCell'=true):
 Calls prog 129 #[.slice (some ⟨g,0,none⟩) n c,.int .i64 i,.slice (some ⟨vb,0,none⟩) 1 vc] w fun e w'=>
  ∃G,e=.returned (.slice (some ⟨w.heap.size,0,none⟩) (n+1) G)/\n+1<=G/\G<=maxLen/\∃X:Array Value,LikeW (w.alloc (.cells X 91)) w'/\X.size=G*5/\X.toList.take ((n+1)*5)=cs.take (i*5)++vs++cs.drop (i*5):=by
 obtain⟨i0,zv,hi0,hzs,hzb,hz0,hzc⟩:=(qc 91 _ rfl).info;have hs4:(prog.info? 91).map (·.size)=some 5:=by kernel_rfl
 have mixed:prog.follows .mixedOrders=true:=by kernel_rfl
 have hzs4:i0.size=5:=hzs;have hzb4:i0.bytes<=1000:=by rw[hzb];decide
 have hcl:cs.length=n*5:=by rw[<-hcs,Yd,Yx];omega
 have hvl:vs.length=5:=by rw[<-hvs,Yd,Yx];omega
 have hdl:(cs.drop (i*5)).length=(n-i)*5:=by rw[Yo,hcl];omega
 have hz2:¬((i:Int)=(n:Int)):=by omega
 have hz3:(c:Int)<(n:Int)+1:=by omega
 have hbw:g<w.heap.size:=lt_of_block hh;have hvw:vb<w.heap.size:=lt_of_block hh2;have hkk:(n:Int)+1-(i:Int)=((n+1-i:Nat):Int):=by omega
 have hik:i+(n+1-i)=n+1:=by omega
 have hbig:(n+1)*i0.bytes<=140737488355328:=by
  have:=Nat.mul_le_mul (show n+1<=1001 by omega) hzb4;omega
 have hold:(Builtin.firstCells i0.size i (.slice (some ⟨g,0,none⟩) i c)).run prog w.drew=.ok (cs.take (i*5)).toArray w.drew:=by
  rw[hzs4];exact run_firstCells_some w.drew 5 i ⟨g,0,none⟩ i c (cs.take (i*5)) E5 (fun j v hj=>by
   rw[wB,show w.drew.cell? ⟨g,0+j,none⟩=w.cell? ⟨g,0+j,none⟩from rfl,jL hh,Xk];rw[Xv]at hj;split at hj
   · exact wM hcs hj
   · cases hj)
 have hrz:∀ty,(Builtin.append_ #[28,3] ty #[.slice (some ⟨g,0,none⟩) i c,.int .i64 ((n:Int)+1-(i:Int))]).run prog w=
  .ok (.slice (some ⟨w.heap.size,0,none⟩) (n+1) (grownCap w (n+1) c 91)) (w.drew.alloc (.cells ((cs.take (i*5)).toArray++Builtin.zeroCells zv.cells (n+1-i)++Builtin.zeroCells zv.cells (grownCap w (n+1) c 91-(n+1))) 91)):=fun ty=>by
  have h:=Lib.run_append_grow_zeros w 28 3 ty 91 i0 zv .i64 .i64 underlying28 underlying3 hi0 hz0 (some ⟨g,0,none⟩) i c (cs.take (i*5)) hold (n+1-i) DP DP DP DP Ev EG;rw[hik]at h;rw[hkk];exact h
 obtain⟨G,hG⟩:∃G,G=grownCap w (n+1) c 91:=⟨_,rfl⟩;obtain⟨ROW,hROW⟩:∃ROW:Array Value,ROW=(cs.take (i*5)).toArray++Builtin.zeroCells zv.cells (n+1-i)++Builtin.zeroCells zv.cells (G-(n+1)):=⟨_,rfl⟩;rw[<-hG]at hrz;rw[<-hROW]at hrz;have hGn:n+1<=G:=by rw[hG];exact grownCap_ge w _ _ _
 have hGm:G<=maxLen:=by
  have:=grownCap_le_maxLen w (n+1) c 91 E2;rwa [<-hG]at this
 have hG63:G<=9223372036854775807:=by unfold maxLen at hGm;omega
 have hzc4:zv.cells.size=5:=by rw[<-Yx,hzc];rfl
 have hRs:ROW.size=G*5:=by
  rw[hROW];simp only[Array.size_append,Xt,Yd,hcl,Builtin.zeroCells,Array.size_map,Array.size_range,hzc4];omega
 have hRt:ROW.toList.take (i*5)=cs.take (i*5):=by
  rw[hROW];simp only[Array.toList_append,YU];rw[Y7 E5,YN Dw]
 obtain⟨W1,hW1⟩:∃W1,W1=w.drew.alloc (.cells ROW 91):=⟨_,rfl⟩;have hN:W1.heap[w.heap.size]?=some (.cells ROW 91 (0,0)):=by rw[hW1];exact heap_alloc_new w.drew _
 have hO:∀b,b<w.heap.size->W1.heap[b]?=w.heap[b]?:=fun b hb=>by rw[hW1];exact((Below.refl _ w.drew).alloc (Yk _) _).block b hb
 obtain⟨X1,hX1⟩:∃X1:Array Value,X1=(ROW.toList.take (i*5)++vs++ROW.toList.drop (i*5+vs.length)).toArray:=⟨_,rfl⟩;have hcp1:∀(W:World),W.heap=W1.heap->∀ty dc sc,(Builtin.copy_ #[28,28] ty #[.slice (some ⟨w.heap.size,i*5,none⟩) (n+1-i) dc,.slice (some ⟨vb,0,none⟩) 1 sc]).run prog W=.ok (goInt ((1:Nat):Int)) (W.setRow w.heap.size X1):=fun W hW ty dc sc=>by
  have hm:Nat.min 1 (n+1-i)=1:=by show min _ _=_;omega
  have hg:W.heap[w.heap.size]?=some (.cells ROW 91 (0,0)):=by rw[hW];exact hN
  have hg2:W.heap[vb]?=some (.cells curv 91 (0,0)):=by rw[hW,hO vb hvw];exact hh2
  have:=jT (P:=prog) W 28 28 ty 91 5 w.heap.size (i*5) (n+1-i) dc ⟨vb,0,none⟩ 1 sc ROW 91 vs underlying28 hs4 hg Dy
   (fun j v hj=>by rw[wB,jL hg2,Xk];exact wM hvs hj) (by rw[hvl,hRs];omega) h1v
  rw[hm,<-hX1]at this;exact this
 have hX1l:X1.toList=cs.take (i*5)++vs++ROW.toList.drop (i*5+5):=by rw[hX1,hRt,hvl]
 have hX1s:X1.size=G*5:=by
  rw[<-Yx,hX1l];simp only[Ya,Yd,Yo,Yx,hvl,hRs,hcl];omega
 obtain⟨X2,hX2⟩:∃X2:Array Value,X2=(X1.toList.take ((i+1)*5)++cs.drop (i*5)++X1.toList.drop ((i+1)*5+(cs.drop (i*5)).length)).toArray:=⟨_,rfl⟩;have hcp2:∀(W:World),W.heap=(W1.setRow w.heap.size X1).heap->∀ty dc sc,(Builtin.copy_ #[28,28] ty #[.slice (some ⟨w.heap.size,(i+1)*5,none⟩) (n+1-(i+1)) dc,.slice (some ⟨g,i*5,none⟩) (n-i) sc]).run prog W=.ok (goInt ((n-i:Nat):Int)) (W.setRow w.heap.size X2):=fun W hW ty dc sc=>by
  have hm:Nat.min (n-i) (n+1-(i+1))=n-i:=by show min _ _=_;omega
  have hg:W.heap[w.heap.size]?=some (.cells X1 91 (0,0)):=by rw[hW];exact setRow_heap W1 w.heap.size ROW X1 91 (0,0) hN
  have hg2:W.heap[g]?=some (.cells cur 91 (0,0)):=by rw[hW,setRow_other W1 w.heap.size g X1 DP,hO g hbw];exact hh
  have:=jT (P:=prog) W 28 28 ty 91 5 w.heap.size ((i+1)*5) (n+1-(i+1)) dc ⟨g,i*5,none⟩ (n-i) sc X1 91 (cs.drop (i*5)) underlying28 hs4 hg Db
   (fun j v hj=>by rw[wB,jL hg2];exact drop_cell hcs hj) (by rw[hdl,hX1s];omega) (fun v hv=>h1c v (YX hv))
  rw[hm,<-hX2]at this;exact this
 have hfin:X2.size=G*5/\X2.toList.take ((n+1)*5)=cs.take (i*5)++vs++cs.drop (i*5):=by
  have hl2:X2.toList=X1.toList.take ((i+1)*5)++cs.drop (i*5)++X1.toList.drop ((i+1)*5+(cs.drop (i*5)).length):=by rw[hX2]
  refine⟨?_,?_⟩
  · rw[<-Yx,hl2];simp only[Ya,Yd,Yo,Yx,hX1s,hcl];omega
  · have ht:X1.toList.take ((i+1)*5)=cs.take (i*5)++vs:=by
     exact M1
    exact Ma
 have hw1:IntKind.i64.wrap ((i:Int)+1)=(i:Int)+1:=YD _ DP;have hw2:IntKind.i64.wrap ((n:Int)+1)=(n:Int)+1:=YD _ DP;have hw3:IntKind.i64.wrap ((n:Int)+1-(i:Int))=(n:Int)+1-(i:Int):=YD _ DP;have hb1:(0:Int)<=(i:Int)+1:=by omega
 have hin:i<=n:=by omega
 have htn:((i:Int)+1).toNat=i+1:=by omega
 have hb3:(i:Int)<=(n:Int):=by omega
 have hb6:(i:Int)<=(n:Int)+1:=by omega
 have hGi:¬(G=i):=by omega
 have hGim:¬(G=i+1):=by omega
 have hci:¬(c=i):=by omega
 have hW1':=hW1;rw[<-hW1]at hrz;replace hX1:=hide hX1
 replace hX2:=hide hX2
 replace hROW:=hide hROW
 replace hW1:=hide hW1
 replace hG:=hide hG
 clear hkk hik hold hX1l hX1s hRt hRs hW1' hN hO
 go_enter func129,ntmps129
 go_wp2_with (at_builtin;refine Lib.wpList_append_run _ rfl _ _ _ _ rfl _ _ rfl rfl _ _ (hrz _) ?_)
 go_region_law_o (refine qaA rfl _ _ 28 28 rfl (.slice (some ⟨w.heap.size,(i+1)*5,none⟩) (n+1-(i+1)) (G-(i+1))) (.slice (some ⟨g,i*5,none⟩) (n-i) (c-i)) EU EU (hcp2 (W1.setRow w.heap.size X1).drew rfl _ _ _) ?_)
 go_wp2
 go_ret
 refine⟨G,rfl,hGn,hGm,X2,?_,hfin⟩;have hW:=hW1.out;refine⟨?_,?_,?_,?_⟩
 · have e1:W1.heap=(w.alloc (.cells ROW 91)).heap:=by rw[hW];rfl
   have e2:((W1.setRow w.heap.size X1).drew.setRow w.heap.size X2).heap=(W1.setRow w.heap.size X2).heap:=by rw[<-setRow_setRow W1 w.heap.size X1 X2];rfl
   show((W1.setRow w.heap.size X1).drew.setRow w.heap.size X2).heap=_;rw[e2];unfold World.setRow;rw[e1];simp only[World.alloc];exact push_modify w.heap _ _
 · rw[hW];rfl
 · rw[hW];rfl
 · rw[hW];rfl
end
section
open Go.RowKit
theorem qar {α:Type} (p:α->Bool) (l:List α):decide ((if l.findIdx p<l.length then(l.findIdx p:Int)else-1)>=0)=l.any p:=by
 by_cases h:l.findIdx p<l.length
 · rw[Yi h];have:l.any p=true:=List.any_eq_true.2 ⟨_,Yn h,List.findIdx_getElem (w:=h)⟩
   rw[this];simp
 · rw[Yc h];have h2:∀x∈l,p x=false:=List.findIdx_eq_length.1 (Nat.le_antisymm List.findIdx_le_length DP);rw[List.any_eq_false.2 fun x hx=>by simp[h2 x hx]];rfl
theorem cas_ix (l:List Cas) (hn:l.length<=1000000) (f:FuncId) (caps:List PV) (p:Cas->Bool) (hF:∀g,Holds prog f ([.agg g.pv]++caps) (.p (pB (p g))) []):
 Holds prog 147 [wc l,.fn f caps] (.p (pI (if l.findIdx p<l.length then(l.findIdx p:Int)else-1))) []:=by
 refine qo (ts:=[4]) func147 DG rfl rfl rfl ?_;refine KH ?_;refine GS ?_;refine qG (fun n s=>∃(k:Nat) (kk:Int),k<=l.length/\n=l.length-k/\kk=k/\(∀g∈l.take k,p g=false)/\s=⟨19,[(0,.p (wc l)),(1,.p (.fn f caps)),(7,.p (pI (l.map Cas.pv).length)),(8,.p (pI kk))],[]⟩) l.length ⟨0,0,Yl _,rfl,rfl,by simp,rfl⟩ ?_;rintro n s ⟨k,_,hk,rfl,rfl,ha,rfl⟩;refine uA ?_;refine uC (fun hlt=>?_) (fun hlt=>?_)
 · refine qh ?_;simp only[Yb,Yf]at hlt;have hlt':k<l.length:=by omega
   refine uB ?_;refine Kq ?_;refine Lp ?_;refine Eh ?_;refine qe ?_;refine uC (fun hp=>?_) (fun hp=>?_)
   · refine KC ?_;have e:l.findIdx p=k:=(Xx hlt').2 ⟨hp,fun j hj=>ha _ (List.mem_take_iff_getElem.2 ⟨j,by omega,rfl⟩)⟩;rw[e,Yi hlt']
   · refine Kw ?_;refine⟨_,_,?_,qj [0,1,7,8] [] rfl rfl,k+1,_,hlt',rfl,qq hlt' DP,?_,rfl⟩
     · omega
     · intro g hg;rw[Ym hlt',YL,YA]at hg;rcases hg with hg|rfl
       · exact ha g hg
       · exact hp
 · refine qC ?_;simp only[Yb,Yh]at hlt;have hkk:k=l.length:=by omega
   subst hkk;refine KC ?_;rw[Yu]at ha;rw[Yc];have:=Xg ha;omega
theorem fld_ix (l:List Fld) (hn:l.length<=1000000) (f:FuncId) (caps:List PV) (p:Fld->Bool) (hF:∀g,Holds prog f ([.agg g.pv]++caps) (.p (pB (p g))) []):
 Holds prog 133 [fldsP l,.fn f caps] (.p (pI (if l.findIdx p<l.length then(l.findIdx p:Int)else-1))) []:=by
 refine qo (ts:=[4]) func133 DG rfl rfl rfl ?_;refine KH ?_;refine GS ?_;refine qG (fun n s=>∃(k:Nat) (kk:Int),k<=l.length/\n=l.length-k/\kk=k/\(∀g∈l.take k,p g=false)/\s=⟨19,[(0,.p (fldsP l)),(1,.p (.fn f caps)),(7,.p (pI (l.map Fld.pv).length)),(8,.p (pI kk))],[]⟩) l.length ⟨0,0,Yl _,rfl,rfl,by simp,rfl⟩ ?_;rintro n s ⟨k,_,hk,rfl,rfl,ha,rfl⟩;refine uA ?_;refine uC (fun hlt=>?_) (fun hlt=>?_)
 · refine qh ?_;simp only[Yb,Yf]at hlt;have hlt':k<l.length:=by omega
   refine uB ?_;refine Kq ?_;refine Lp ?_;refine Eh ?_;refine qe ?_;refine uC (fun hp=>?_) (fun hp=>?_)
   · refine KC ?_;have e:l.findIdx p=k:=(Xx hlt').2 ⟨hp,fun j hj=>ha _ (List.mem_take_iff_getElem.2 ⟨j,by omega,rfl⟩)⟩;rw[e,Yi hlt']
   · refine Kw ?_;refine⟨_,_,?_,qj [0,1,7,8] [] rfl rfl,k+1,_,hlt',rfl,qq hlt' DP,?_,rfl⟩
     · omega
     · intro g hg;rw[Ym hlt',YL,YA]at hg;rcases hg with hg|rfl
       · exact ha g hg
       · exact hp
 · refine qC ?_;simp only[Yb,Yh]at hlt;have hkk:k=l.length:=by omega
   subst hkk;refine KC ?_;rw[Yu]at ha;rw[Yc];have:=Xg ha;omega
theorem obl_ix (l:List Obli) (hn:l.length<=1000000) (f:FuncId) (caps:List PV) (p:Obli->Bool) (hF:∀g,Holds prog f ([.agg g.pv]++caps) (.p (pB (p g))) []):
 Holds prog 193 [zh l,.fn f caps] (.p (pI (if l.findIdx p<l.length then(l.findIdx p:Int)else-1))) []:=by
 refine qo (ts:=[4]) func193 DG rfl rfl rfl ?_;refine KH ?_;refine GS ?_;refine qG (fun n s=>∃(k:Nat) (kk:Int),k<=l.length/\n=l.length-k/\kk=k/\(∀g∈l.take k,p g=false)/\s=⟨19,[(0,.p (zh l)),(1,.p (.fn f caps)),(7,.p (pI (l.map Obli.pv).length)),(8,.p (pI kk))],[]⟩) l.length ⟨0,0,Yl _,rfl,rfl,by simp,rfl⟩ ?_;rintro n s ⟨k,_,hk,rfl,rfl,ha,rfl⟩;refine uA ?_;refine uC (fun hlt=>?_) (fun hlt=>?_)
 · refine qh ?_;simp only[Yb,Yf]at hlt;have hlt':k<l.length:=by omega
   refine uB ?_;refine Kq ?_;refine Lp ?_;refine Eh ?_;refine qe ?_;refine uC (fun hp=>?_) (fun hp=>?_)
   · refine KC ?_;have e:l.findIdx p=k:=(Xx hlt').2 ⟨hp,fun j hj=>ha _ (List.mem_take_iff_getElem.2 ⟨j,by omega,rfl⟩)⟩;rw[e,Yi hlt']
   · refine Kw ?_;refine⟨_,_,?_,qj [0,1,7,8] [] rfl rfl,k+1,_,hlt',rfl,qq hlt' DP,?_,rfl⟩
     · omega
     · intro g hg;rw[Ym hlt',YL,YA]at hg;rcases hg with hg|rfl
       · exact ha g hg
       · exact hp
 · refine qC ?_;simp only[Yb,Yh]at hlt;have hkk:k=l.length:=by omega
   subst hkk;refine KC ?_;rw[Yu]at ha;rw[Yc];have:=Xg ha;omega
theorem hap_ix (l:List Hap) (hn:l.length<=1000000) (f:FuncId) (caps:List PV) (p:Hap->Bool) (hF:∀g,Holds prog f ([.agg g.pv]++caps) (.p (pB (p g))) []):
 Holds prog 227 [hapsP l,.fn f caps] (.p (pI (if l.findIdx p<l.length then(l.findIdx p:Int)else-1))) []:=by
 refine qo (ts:=[4]) func227 DG rfl rfl rfl ?_;refine KH ?_;refine GS ?_;refine qG (fun n s=>∃(k:Nat) (kk:Int),k<=l.length/\n=l.length-k/\kk=k/\(∀g∈l.take k,p g=false)/\s=⟨19,[(0,.p (hapsP l)),(1,.p (.fn f caps)),(7,.p (pI (l.map Hap.pv).length)),(8,.p (pI kk))],[]⟩) l.length ⟨0,0,Yl _,rfl,rfl,by simp,rfl⟩ ?_;rintro n s ⟨k,_,hk,rfl,rfl,ha,rfl⟩;refine uA ?_;refine uC (fun hlt=>?_) (fun hlt=>?_)
 · refine qh ?_;simp only[Yb,Yf]at hlt;have hlt':k<l.length:=by omega
   refine uB ?_;refine Kq ?_;refine Lp ?_;refine Eh ?_;refine qe ?_;refine uC (fun hp=>?_) (fun hp=>?_)
   · refine KC ?_;have e:l.findIdx p=k:=(Xx hlt').2 ⟨hp,fun j hj=>ha _ (List.mem_take_iff_getElem.2 ⟨j,by omega,rfl⟩)⟩;rw[e,Yi hlt']
   · refine Kw ?_;refine⟨_,_,?_,qj [0,1,7,8] [] rfl rfl,k+1,_,hlt',rfl,qq hlt' DP,?_,rfl⟩
     · omega
     · intro g hg;rw[Ym hlt',YL,YA]at hg;rcases hg with hg|rfl
       · exact ha g hg
       · exact hp
 · refine qC ?_;simp only[Yb,Yh]at hlt;have hkk:k=l.length:=by omega
   subst hkk;refine KC ?_;rw[Yu]at ha;rw[Yc];have:=Xg ha;omega
theorem rev_ix (l:List Rev) (hn:l.length<=1000000) (f:FuncId) (caps:List PV) (p:Rev->Bool) (hF:∀g,Holds prog f ([.agg g.pv]++caps) (.p (pB (p g))) []):
 Holds prog 237 [jX l,.fn f caps] (.p (pI (if l.findIdx p<l.length then(l.findIdx p:Int)else-1))) []:=by
 refine qo (ts:=[4]) func237 DG rfl rfl rfl ?_;refine KH ?_;refine GS ?_;refine qG (fun n s=>∃(k:Nat) (kk:Int),k<=l.length/\n=l.length-k/\kk=k/\(∀g∈l.take k,p g=false)/\s=⟨19,[(0,.p (jX l)),(1,.p (.fn f caps)),(7,.p (pI (l.map Rev.pv).length)),(8,.p (pI kk))],[]⟩) l.length ⟨0,0,Yl _,rfl,rfl,by simp,rfl⟩ ?_;rintro n s ⟨k,_,hk,rfl,rfl,ha,rfl⟩;refine uA ?_;refine uC (fun hlt=>?_) (fun hlt=>?_)
 · refine qh ?_;simp only[Yb,Yf]at hlt;have hlt':k<l.length:=by omega
   refine uB ?_;refine Kq ?_;refine Lp ?_;refine Eh ?_;refine qe ?_;refine uC (fun hp=>?_) (fun hp=>?_)
   · refine KC ?_;have e:l.findIdx p=k:=(Xx hlt').2 ⟨hp,fun j hj=>ha _ (List.mem_take_iff_getElem.2 ⟨j,by omega,rfl⟩)⟩;rw[e,Yi hlt']
   · refine Kw ?_;refine⟨_,_,?_,qj [0,1,7,8] [] rfl rfl,k+1,_,hlt',rfl,qq hlt' DP,?_,rfl⟩
     · omega
     · intro g hg;rw[Ym hlt',YL,YA]at hg;rcases hg with hg|rfl
       · exact ha g hg
       · exact hp
 · refine qC ?_;simp only[Yb,Yh]at hlt;have hkk:k=l.length:=by omega
   subst hkk;refine KC ?_;rw[Yu]at ha;rw[Yc];have:=Xg ha;omega
theorem cas_cf (l:List Cas) (hn:l.length<=1000000) (f:FuncId) (caps:List PV) (p:Cas->Bool) (hF:∀g,Holds prog f ([.agg g.pv]++caps) (.p (pB (p g))) []):
 Holds prog 136 [wc l,.fn f caps] (.p (pB (l.any p))) []:=by
 refine qo (ts:=[4]) func136 DG rfl rfl rfl ?_;refine Kq ?_;refine uK (cas_ix l hn f caps p hF) ?_;refine Ks ?_;exact zf rfl (qar p l)
theorem obl_cf (l:List Obli) (hn:l.length<=1000000) (f:FuncId) (caps:List PV) (p:Obli->Bool) (hF:∀g,Holds prog f ([.agg g.pv]++caps) (.p (pB (p g))) []):
 Holds prog 131 [zh l,.fn f caps] (.p (pB (l.any p))) []:=by
 refine qo (ts:=[4]) func131 DG rfl rfl rfl ?_;refine Kq ?_;refine uK (obl_ix l hn f caps p hF) ?_;refine Ks ?_;exact zf rfl (qar p l)
theorem hap_cf (l:List Hap) (hn:l.length<=1000000) (f:FuncId) (caps:List PV) (p:Hap->Bool) (hF:∀g,Holds prog f ([.agg g.pv]++caps) (.p (pB (p g))) []):
 Holds prog 164 [hapsP l,.fn f caps] (.p (pB (l.any p))) []:=by
 refine qo (ts:=[4]) func164 DG rfl rfl rfl ?_;refine Kq ?_;refine uK (hap_ix l hn f caps p hF) ?_;refine Ks ?_;exact zf rfl (qar p l)
theorem rev_cf (l:List Rev) (hn:l.length<=1000000) (f:FuncId) (caps:List PV) (p:Rev->Bool) (hF:∀g,Holds prog f ([.agg g.pv]++caps) (.p (pB (p g))) []):
 Holds prog 185 [jX l,.fn f caps] (.p (pB (l.any p))) []:=by
 refine qo (ts:=[4]) func185 DG rfl rfl rfl ?_;refine Kq ?_;refine uK (rev_ix l hn f caps p hF) ?_;refine Ks ?_;exact zf rfl (qar p l)
theorem find1_h (id:DT) (c:Cas):Holds prog 148 [.agg c.pv,.rp [pS id]] (.p (pB (!jx c.id id))) []:=by
 refine qo (ts:=[3]) func148 DG rfl rfl rfl ?_;refine KX ?_;exact Ur
theorem field1_h (name:DT) (f:Fld):Holds prog 134 [.agg f.pv,.rp [pS name]] (.p (pB (decide (f.name=name)))) []:=by
 refine qo (ts:=[3]) func134 DG rfl rfl rfl ?_;refine KX ?_;exact zf rfl (beqB _ _)
theorem took1_h (subj:DT) (h:Hap):Holds prog 165 [.agg h.pv,.rp [pS subj]] (.p (pB (decide (h.actor=subj)))) []:=by
 refine qo (ts:=[3]) func165 DG rfl rfl rfl ?_;refine KX ?_;exact zf rfl (beqB _ _)
theorem hides1_h (field:DT) (x:Obli):Holds prog 132 [.agg x.pv,.rp [pS field]] (.p (pB (decide (x.kind=2)&&decide (x.arg=field)))) []:=by
 refine qo (ts:=[3]) func132 DG rfl rfl rfl ?_;refine uA ?_;refine KB ?_;refine Lg ?_;rw[beqB];show(bif decide (x.kind=2)then decide (x.arg=field)else false)=_;cases decide (x.kind=2)<;>rfl
theorem write1_h (name:DT) (f:Fld):Holds prog 191 [.agg f.pv,.rp [pS name]] (.p (pB (!jx f.name name))) []:=by
 refine qo (ts:=[3]) func191 DG rfl rfl rfl ?_;refine KX ?_;exact Ur
theorem over1_h (c:Cas):Holds prog 137 [.agg c.pv] (.p (pB (decide (256<c.log.length)))) []:=by
 refine qo (ts:=[2]) func137 DG rfl rfl rfl ?_;refine KX ?_;refine VI ?_;rw[Yb,YO];simp only[Yf];omega
theorem logs1_h (o:Opn) (c:Cas):Holds prog 194 [.agg c.pv,.rp o.pv] (.p (pB (decide (c.id=o.case_)))) []:=by
 refine qo (ts:=[3]) func194 DG rfl rfl rfl ?_;refine KX ?_;exact zf rfl (beqB _ _)
theorem late1_h (subj:DT) (s:Sto) (r:Rev):Holds prog 186 [.agg r.pv,.rp [pS subj],.rp s.pv] (.p (pB (decide (r.subj=subj)&&lateR s r))) []:=by
 refine qo (ts:=[4]) func186 DG rfl rfl rfl ?_;refine uA ?_;refine KB ?_;refine Lg ?_;rw[beqB];show(bif (bif decide (r.subj=subj)then r.open_ else false)then decide (IntKind.i64.wrap (s.tick-r.tick)>=100)else false)=(decide (r.subj=subj)&&(r.open_&&decide (100<=IntKind.i64.wrap (s.tick-r.tick))));cases decide (r.subj=subj)<;>cases r.open_<;>rfl
theorem rolix_h (l:List Rol) (subj role:DT) (hn:l.length<=1000000):Holds prog 104 [zi l,.agg [pS subj,pS role]] (.p (pI (if l.findIdx (fun r=>decide (r.subj=subj)&&decide (r.role=role))<l.length then(l.findIdx (fun r=>decide (r.subj=subj)&&decide (r.role=role)):Int)else-1))) []:=by
 refine qo (ts:=[4]) func104 DG rfl rfl rfl ?_;refine KH ?_;refine uZ [0,3,7,8] [(3,3)] ?_;refine qG (fun n s=>∃(k:Nat) (kk:Int),k<=l.length/\n=l.length-k/\kk=k/\(∀g∈l.take k,(decide (g.subj=subj)&&decide (g.role=role))=false)/\s=⟨19,[(0,.p (zi l)),(3,.ptr 3 0),(7,.p (pI (l.map Rol.pv).length)),(8,.p (pI kk))],[(3,.cells [.p (pS subj),.p (pS role)])]⟩) l.length ⟨0,0,Yl _,rfl,rfl,by simp,rfl⟩ ?_;rintro n s ⟨k,_,hk,rfl,rfl,ha,rfl⟩;refine uA ?_;refine uC (fun hlt=>?_) (fun hlt=>?_)
 · refine qh ?_;simp only[Yb,Yf]at hlt;have hlt':k<l.length:=by omega
   refine Kz ?_;refine uD [] [1,3,5,7,9,11] ?_;refine X3 ?_;rw[qw hlt'];refine uT ?_;refine LF ?_;rw[beqB,beqB,show(decide (subj=l[k].subj)&&(decide (role=l[k].role)&&true))=(decide (l[k].subj=subj)&&decide (l[k].role=role))by rw[Bool.and_true];congr 1<;>(apply decide_eq_decide.2;exact eq_comm)];refine uC (fun hp=>?_) (fun hp=>?_)
   · refine KC ?_;have e:l.findIdx (fun r=>decide (r.subj=subj)&&decide (r.role=role))=k:=(Xx hlt').2 ⟨hp,fun j hj=>ha _ (List.mem_take_iff_getElem.2 ⟨j,by omega,rfl⟩)⟩;rw[e,Yi hlt']
   · refine Kw ?_;refine⟨_,_,?_,qj [0,3,7,8] [(3,3)] rfl rfl,k+1,_,hlt',rfl,qq hlt' DP,?_,rfl⟩
     · omega
     · intro g hg;rw[Ym hlt',YL,YA]at hg;rcases hg with hg|rfl
       · exact ha g hg
       · exact hp
 · refine qC ?_;simp only[Yb,Yh]at hlt;have hkk:k=l.length:=by omega
   subst hkk;refine KC ?_;rw[Yu]at ha;rw[Yc];have:=Xg ha;omega
theorem rolct_h (l:List Rol) (subj role:DT) (hn:l.length<=1000000):Holds prog 56 [zi l,.agg [pS subj,pS role]] (.p (pB (hasC l subj role))) []:=by
 refine qo (ts:=[4]) func56 DG rfl rfl rfl ?_;refine Kq ?_;refine uK (rolix_h l subj role hn) ?_;refine Ks ?_;exact zf rfl (qar _ l)
theorem hass_h (s:Sto) (hn:s.roles.length<=1000000) (subj role:DT):Holds prog 24 [.agg s.pv,pS subj,pS role] (.p (pB (hasC s.roles subj role))) []:=by
 refine qo (ts:=[6]) func24 DG rfl rfl rfl ?_;refine Kq ?_;refine uK (rolct_h s.roles subj role hn) ?_;exact Ek
theorem fieldC_h (c:Cas) (name:DT) (hn:c.fields.length<=1000000):Holds prog 76 [.agg c.pv,pS name] (.p (.agg (qao c name).pv)) []:=by
 refine Vd ?_;show HoldsW _ _ [.p (.agg c.pv),.p (pS name)] [] _ _;unfold qao;obtain⟨k,hk⟩:∃k,k=c.fields.findIdx (fun f=>decide (f.name=name)):=⟨_,rfl⟩;have H:=fld_ix c.fields hn _ _ (fun f=>decide (f.name=name)) (fun f=>field1_h name f);rw[<-hk]at H⊢;by_cases hlt:k<c.fields.length
 · rw[Yi hlt]at H;rw[Yj hlt];refine qz (T:=TTab) qc func76 DG rfl rfl rfl ?_;refine LC ?_;refine Ku ?_;rw[show decide ((k:Int)>=0)=true by simp];refine uC (fun hc=>?_) (fun hc=>?_);rotate_left
   · cases hc
   refine uR ?_;refine Vc ?_;rw[qw hlt];refine Ks ?_;exact XC
 · rw[Yc hlt]at H;rw[YT DP];refine qz (T:=TTab) qc func76 DG rfl rfl rfl ?_;refine LC ?_;refine Ku ?_;refine uC (fun hc=>?_) (fun hc=>?_)
   · cases hc
   refine KA ?_;exact XC
theorem find_h (s:Sto) (hn:s.cases.length<=1000000) (id:DT):Holds prog 84 [.agg s.pv,pS id] (.tup [.p (pI (jG s.cases id:Int)),.p (pB (findB s.cases id))]) []:=by
 have H:=cas_ix s.cases hn _ _ (fun c=>!jx c.id id) (fun c=>find1_h id c);rw[show List.findIdx (fun c=>!jx c.id id) s.cases=jG s.cases id from rfl]at H;unfold findB;by_cases hlt:jG s.cases id<s.cases.length
 · rw[Yi hlt]at H;rw[Yj hlt];generalize jG s.cases id=k at*;refine qo (ts:=[4,5]) func84 DG rfl rfl rfl ?_;refine LC ?_;refine Ku ?_;rw[show decide ((k:Int)<0)=false by simp];refine uC (fun hc=>?_) (fun hc=>?_)
   · cases hc
   refine qh ?_;refine uD [] [1,3,5,7,9,11,13,15,17,19,21] ?_;refine X3 ?_;rw[qw hlt];refine KG ?_;refine uQ ?_;rw[beqB];exact Vf
 · have hk:jG s.cases id=s.cases.length:=Nat.le_antisymm List.findIdx_le_length DP;rw[Yc hlt]at H;rw[YT DP,hk];refine qo (ts:=[4,5]) func84 DG rfl rfl rfl ?_;refine LC ?_;refine Ku ?_;refine uC (fun hc=>?_) (fun hc=>?_);rotate_left
   · cases hc
   refine Kp ?_;rw[Yb];exact Vf
theorem tookC_h (c:Cas) (subj:DT) (hn:c.log.length<=1000000):Holds prog 103 [.agg c.pv,pS subj] (.p (.agg (tookC c subj).pv)) []:=by
 refine Vd ?_;show HoldsW _ _ [.p (.agg c.pv),.p (pS subj)] [] _ _;have H:=hap_cf c.log hn _ _ (fun h=>decide (h.actor=subj)) (fun h=>took1_h subj h);unfold tookC;generalize c.log.any (fun h=>decide (h.actor=subj))=b at*;refine qz (T:=TTab) qc func103 DG rfl rfl rfl ?_;refine uA ?_;refine LC ?_;refine qe ?_;cases b with
 |true=>
  refine uC (fun hc=>?_) (fun hc=>?_);rotate_left
  · cases hc
  refine KX ?_;exact XC
 |false=>
  refine uC (fun hc=>?_) (fun hc=>?_)
  · cases hc
  refine KA ?_;exact XC
theorem hides_h (l:List Obli) (field:DT) (hn:l.length<=1000000):Holds prog 75 [zh l,pS field] (.p (pB (hidC l field))) []:=by
 refine qo (ts:=[4]) func75 DG rfl rfl rfl ?_;refine Kq ?_;refine uK (obl_cf l hn _ _ (fun x=>decide (x.kind=2)&&decide (x.arg=field)) (fun x=>hides1_h field x)) ?_;exact Ek
theorem lateC_h (s:Sto) (subj:DT) (hn:s.revs.length<=1000000):Holds prog 122 [.agg s.pv,pS subj] (.p (pB (lateC s subj))) []:=by
 refine qo (ts:=[4]) func122 DG rfl rfl rfl ?_;refine Kq ?_;refine uK (rev_cf s.revs hn _ _ (fun r=>decide (r.subj=subj)&&lateR s r) (fun r=>late1_h subj s r)) ?_;exact Ek
theorem overC_h (s:Sto) (hn:s.cases.length<=1000000):Holds prog 78 [.agg s.pv] (.p (pB (overC s))) []:=by
 have H:=cas_cf s.cases hn _ [] (fun c=>decide (256<c.log.length)) (fun c=>over1_h c);unfold overC;generalize s.cases.any (fun c=>decide (256<c.log.length))=b3 at*;refine qo (ts:=[2]) func78 DG rfl rfl rfl ?_;refine Kq ?_;rw[show decide (((s.revs.map Rev.pv).length:Int)>256)=decide (256<s.revs.length)by rw[Yb,YO];simp only[Yf];omega];generalize decide (256<s.revs.length)=b1;cases b1 with
 |true=>
  exact Ek
 |false=>
  refine uS ?_;rw[show decide (((s.ntcs.map Ntc.pv).length:Int)>256)=decide (256<s.ntcs.length)by rw[Yb,YO];simp only[Yf];omega];generalize decide (256<s.ntcs.length)=b2;cases b2 with
  |true=>
   exact Ek
  |false=>
   refine uS ?_;refine uK H ?_;exact Ek
theorem cas_cl (l:List Cas) (hn:l.length<=1000000):Holds prog 125 [.sl 5 (l.map Cas.pv)] (.row 0) [(0,.row 91 5 (l.map Cas.pv))]:=by
 refine qo (ts:=[2]) func125 DG rfl rfl rfl ?_;refine Kq ?_;refine qy rfl (zP qc rfl rfl rfl rfl rfl rfl (fun b hb=>?_));refine qe ?_;refine uC (fun hc=>?_) (fun hc=>?_)
 · have hl:=hb hc;have hl':l=[]:=by simpa using hl
   subst hl';refine Kp ?_;exact⟨Or.inr rfl,_,_,[(0,0)],zw 2 0 91 5 rfl rfl,rfl,rfl,rfl,rfl⟩
 · exact LE
theorem rev_cl (l:List Rev) (hn:l.length<=1000000):Holds prog 123 [.sl 7 (l.map Rev.pv)] (.row 0) [(0,.row 69 7 (l.map Rev.pv))]:=by
 refine qo (ts:=[2]) func123 DG rfl rfl rfl ?_;refine Kq ?_;refine qy rfl (zP qc rfl rfl rfl rfl rfl rfl (fun b hb=>?_));refine qe ?_;refine uC (fun hc=>?_) (fun hc=>?_)
 · have hl:=hb hc;have hl':l=[]:=by simpa using hl
   subst hl';refine Kp ?_;exact⟨Or.inr rfl,_,_,[(0,0)],zw 2 0 69 7 rfl rfl,rfl,rfl,rfl,rfl⟩
 · exact LE
theorem ntc_cl (l:List Ntc) (hn:l.length<=1000000):Holds prog 124 [.sl 3 (l.map Ntc.pv)] (.row 0) [(0,.row 123 3 (l.map Ntc.pv))]:=by
 refine qo (ts:=[2]) func124 DG rfl rfl rfl ?_;refine Kq ?_;refine qy rfl (zP qc rfl rfl rfl rfl rfl rfl (fun b hb=>?_));refine qe ?_;refine uC (fun hc=>?_) (fun hc=>?_)
 · have hl:=hb hc;have hl':l=[]:=by simpa using hl
   subst hl';refine Kp ?_;exact⟨Or.inr rfl,_,_,[(0,0)],zw 2 0 123 3 rfl rfl,rfl,rfl,rfl,rfl⟩
 · exact LE
theorem rol_cl (l:List Rol) (hn:l.length<=1000000):Holds prog 187 [.sl 2 (l.map Rol.pv)] (.row 0) [(0,.row 52 2 (l.map Rol.pv))]:=by
 refine qo (ts:=[2]) func187 DG rfl rfl rfl ?_;refine Kq ?_;refine qy rfl (zP qc rfl rfl rfl rfl rfl rfl (fun b hb=>?_));refine qe ?_;refine uC (fun hc=>?_) (fun hc=>?_)
 · have hl:=hb hc;have hl':l=[]:=by simpa using hl
   subst hl';refine Kp ?_;exact⟨Or.inr rfl,_,_,[(0,0)],zw 2 0 52 2 rfl rfl,rfl,rfl,rfl,rfl⟩
 · exact LE
theorem hap_cl (l:List Hap) (hn:l.length<=1000000):Holds prog 126 [.sl 3 (l.map Hap.pv)] (.row 0) [(0,.row 119 3 (l.map Hap.pv))]:=by
 refine qo (ts:=[2]) func126 DG rfl rfl rfl ?_;refine Kq ?_;refine qy rfl (zP qc rfl rfl rfl rfl rfl rfl (fun b hb=>?_));refine qe ?_;refine uC (fun hc=>?_) (fun hc=>?_)
 · have hl:=hb hc;have hl':l=[]:=by simpa using hl
   subst hl';refine Kp ?_;exact⟨Or.inr rfl,_,_,[(0,0)],zw 2 0 119 3 rfl rfl,rfl,rfl,rfl,rfl⟩
 · exact LE
theorem fld_cl (l:List Fld) (hn:l.length<=1000000):Holds prog 149 [.sl 4 (l.map Fld.pv)] (.row 0) [(0,.row 96 4 (l.map Fld.pv))]:=by
 refine qo (ts:=[2]) func149 DG rfl rfl rfl ?_;refine Kq ?_;refine qy rfl (zP qc rfl rfl rfl rfl rfl rfl (fun b hb=>?_));refine qe ?_;refine uC (fun hc=>?_) (fun hc=>?_)
 · have hl:=hb hc;have hl':l=[]:=by simpa using hl
   subst hl';refine Kp ?_;exact⟨Or.inr rfl,_,_,[(0,0)],zw 2 0 96 4 rfl rfl,rfl,rfl,rfl,rfl⟩
 · exact LE
theorem obl_cl (l:List Obli) (hn:l.length<=1000000):Holds prog 90 [.sl 3 (l.map Obli.pv)] (.row 0) [(0,.row 64 3 (l.map Obli.pv))]:=by
 refine qo (ts:=[2]) func90 DG rfl rfl rfl ?_;refine Kq ?_;refine qy rfl (zP qc rfl rfl rfl rfl rfl rfl (fun b hb=>?_));refine qe ?_;refine uC (fun hc=>?_) (fun hc=>?_)
 · have hl:=hb hc;have hl':l=[]:=by simpa using hl
   subst hl';refine Kp ?_;exact⟨Or.inr rfl,_,_,[(0,0)],zw 2 0 64 3 rfl rfl,rfl,rfl,rfl,rfl⟩
 · exact LE
theorem mat_cl (l:List Mat) (hn:l.length<=1000000):Holds prog 278 [.sl 7 (l.map Mat.pv)] (.row 0) [(0,.row 218 7 (l.map Mat.pv))]:=by
 refine qo (ts:=[2]) func278 DG rfl rfl rfl ?_;refine Kq ?_;refine qy rfl (zP qc rfl rfl rfl rfl rfl rfl (fun b hb=>?_));refine qe ?_;refine uC (fun hc=>?_) (fun hc=>?_)
 · have hl:=hb hc;have hl':l=[]:=by simpa using hl
   subst hl';refine Kp ?_;exact⟨Or.inr rfl,_,_,[(0,0)],zw 2 0 218 7 rfl rfl,rfl,rfl,rfl,rfl⟩
 · exact LE
theorem nod_cl (l:List Nod) (hn:l.length<=1000000):Holds prog 241 [.sl 7 (l.map Nod.pv)] (.row 0) [(0,.row 155 7 (l.map Nod.pv))]:=by
 refine qo (ts:=[2]) func241 DG rfl rfl rfl ?_;refine Kq ?_;refine qy rfl (zP qc rfl rfl rfl rfl rfl rfl (fun b hb=>?_));refine qe ?_;refine uC (fun hc=>?_) (fun hc=>?_)
 · have hl:=hb hc;have hl':l=[]:=by simpa using hl
   subst hl';refine Kp ?_;exact⟨Or.inr rfl,_,_,[(0,0)],zw 2 0 155 7 rfl rfl,rfl,rfl,rfl,rfl⟩
 · exact LE
theorem rul_cl (l:List Rul) (hn:l.length<=1000000):Holds prog 239 [.sl 5 (l.map zo)] (.row 0) [(0,.row 150 5 (l.map zo))]:=by
 refine qo (ts:=[2]) func239 DG rfl rfl rfl ?_;refine Kq ?_;refine qy rfl (zP qc rfl rfl rfl rfl rfl rfl (fun b hb=>?_));refine qe ?_;refine uC (fun hc=>?_) (fun hc=>?_)
 · have hl:=hb hc;have hl':l=[]:=by simpa using hl
   subst hl';refine Kp ?_;exact⟨Or.inr rfl,_,_,[(0,0)],zw 2 0 150 5 rfl rfl,rfl,rfl,rfl,rfl⟩
 · exact LE
theorem pol_cl (l:List Pol) (hn:l.length<=1000000):Holds prog 240 [.sl 7 (l.map polP)] (.row 0) [(0,.row 38 7 (l.map polP))]:=by
 refine qo (ts:=[2]) func240 DG rfl rfl rfl ?_;refine Kq ?_;refine qy rfl (zP qc rfl rfl rfl rfl rfl rfl (fun b hb=>?_));refine qe ?_;refine uC (fun hc=>?_) (fun hc=>?_)
 · have hl:=hb hc;have hl':l=[]:=by simpa using hl
   subst hl';refine Kp ?_;exact⟨Or.inr rfl,_,_,[(0,0)],zw 2 0 38 7 rfl rfl,rfl,rfl,rfl,rfl⟩
 · exact LE
theorem ownc_h (c:Cas) (h1:c.fields.length<=1000000) (h2:c.log.length<=1000000):Holds prog 85 [.agg c.pv] (.agg [.p (pS c.id),.p (pS c.owner),.p (pS c.state),.row 0,.row 1]) [(0,.row 96 4 (c.fields.map Fld.pv)),(1,.row 119 3 (c.log.map Hap.pv))]:=by
 refine Vd ?_;show HoldsW _ _ [.p (.agg c.pv)] [] _ _;refine qz (T:=TTab) qc func85 DG rfl rfl rfl ?_;refine uA ?_;have HF:=fld_cl c.fields h1;have HL:=hap_cl c.log h2;refine RA ?_;refine LQ ?_;refine Vb ?_;refine X5 ?_;refine Rb ?_;refine qd rfl rfl rfl (qt rfl rfl rfl rfl (HF) rfl rfl rfl ?_);refine XX ?_;refine Vo ?_;refine qd rfl rfl rfl (qt rfl rfl rfl rfl (HL) rfl rfl rfl ?_);refine Gx ?_;refine Xy ?_;refine Vu ?_;refine Uc ?_;refine Lz ?_;refine SW.wk (qj [1,2] [(1,1),(2,2),(6000,6000),(9000,9000)] rfl rfl) ?_;refine ?fk1_260;rotate_left;change SW _ _ _ ⟨12,[(1,.ptr 1 0),(2,.ptr 2 0)],[(1,.cells [.p (pS c.id),.p (pS c.owner),.p (pS c.state),.row 6000,.row 9000]),(2,.cells [.p (pS ⟨#[]⟩),.p (pS ⟨#[]⟩),.p (pS ⟨#[]⟩),.p nilV,.p nilV]),(6000,.row 96 4 (c.fields.map Fld.pv)),(9000,.row 119 3 (c.log.map Hap.pv))]⟩;refine uR ?_;refine Ks ?_;exact⟨Or.inr rfl,_,_,[(6000,0),(9000,1)],_,Wk.refl _,rfl,rfl,.refl _,rfl,rfl⟩
end
end Go.Proofs.YtblgnefkgkchhaaGreatDoor
