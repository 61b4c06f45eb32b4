/- Part 7. -/
import Derived.Test.YtblgnefkgkchhaaGreatDoorPk6
set_option maxHeartbeats 4000000
set_option linter.unusedSimpArgs false
set_option linter.unusedVariables false
namespace Go.Proofs.YtblgnefkgkchhaaGreatDoor
open _root_.Go.Proofs.Tryz
open Go.RowKit
theorem owt_h (t:Tar) (h:TarSm t):Holds prog 238 [tgtP t] (.p (tgtP t)) []:=by
 have lm:(t.map fun x=>[anyP x]).length=t.length:=by simp
 have h1:=h.1;refine qo (ts:=[2]) func238 DG rfl rfl rfl ?_;refine Lr ?_;refine SW.wk (zw 3 900 215 1 rfl rfl) ?_;refine uZ [3,9,10,11] [(900,0)] ?_;refine qG (fun m s=>∃(k:Nat) (kk:Int),k<=t.length/\m=t.length-k/\kk=k/\s=⟨33,[(3,.row 0),(9,.p (tgtP t)),(10,.p (pI (t.map fun x=>[anyP x]).length)),(11,.p (pI kk))],[(0,.row 215 1 ((t.take k).map fun x=>[anyP x]))]⟩) t.length ⟨0,0,Yl _,rfl,rfl,rfl⟩ ?_;rintro m s ⟨k,_,hk,rfl,rfl,rfl⟩;refine uA ?_;refine uC (fun hlt=>?_) (fun hlt=>?_)
 · refine qh ?_;rw[lm]at hlt;simp only[Yf]at hlt;have hlt':k<t.length:=by omega
   refine Kx ?_;refine GH ?_;rw[qw hlt'];refine Ko ?_;obtain⟨x,hx⟩:∃x,x=t[k]:=⟨_,rfl⟩;have hxl:=h.2 _ (Yn hlt');rw[<-hx]at hxl⊢;have hxl1:=hxl.1;have lx:(x.map fun y=>[wF y]).length=x.length:=by simp
   refine KH ?_;refine SW.wk (zw 6 900 219 1 rfl rfl) ?_;refine uZ [3,6,9,10,11,15,16,17] [(0,0),(900,1)] ?_;refine qG (fun m s=>∃(j:Nat) (jj:Int),j<=x.length/\m=x.length-j/\jj=j/\s=⟨33,[(3,.row 0),(6,.row 1),(9,.p (tgtP t)),(10,.p (pI (t.map fun x=>[anyP x]).length)),(11,.p (pI k)),(15,.p (anyP x)),(16,.p (pI (x.map fun y=>[wF y]).length)),(17,.p (pI jj))],[(0,.row 215 1 ((t.take k).map fun x=>[anyP x])),(1,.row 219 1 ((x.take j).map fun y=>[wF y]))]⟩) x.length ⟨0,0,Yl _,rfl,rfl,rfl⟩ ?_;rintro m s ⟨j,_,hj,rfl,rfl,rfl⟩;refine uA ?_;refine uC (fun hlj=>?_) (fun hlj=>?_)
   · refine qh ?_;rw[lx]at hlj;simp only[Yf]at hlj;have hlj':j<x.length:=by omega
     refine Kx ?_;refine qm qc rfl rfl Dr rfl ?_;rw[qw hlj'];refine Ko ?_;have hyl:=hxl.2 _ (Yn hlj');refine uR ?_;refine uO ((mat_cl x[j] hyl).row_sl) ?_;refine Lj ?_;refine Ku ?_;refine⟨_,_,?_,qj [3,6,9,10,11,15,16,17] [(0,0),(25,1)] rfl rfl,j+1,_,hlj',rfl,qq hlj' DP,?_⟩
     · omega
     · rw[Ym hlj',Yr];rfl
   · refine qC ?_;rw[lx]at hlj;simp only[Yh]at hlj;have hjj:j=x.length:=by omega
     subst hjj;rw[Yu];refine SW.wk (qu (k:=1) rfl) ?_;refine uR ?_;refine XA ?_;refine Ku ?_;refine⟨_,_,?_,qj [3,9,10,11] [(30,0)] rfl rfl,k+1,_,hlt',rfl,qq hlt' DP,?_⟩
     · omega
     · rw[Ym hlt',Yr,hx];rfl
 · refine qC ?_;rw[lm]at hlt;simp only[Yh]at hlt;have hkk:k=t.length:=by omega
   subst hkk;rw[Yu];refine Uj ?_;exact KI
theorem set_map {α:Type} {f:α->List PV} {l:List α} {k:Nat} (hk:k<l.length) (off:Nat) (xs:List PV) (h:(f l[k]).take off++xs++(f l[k]).drop (off+xs.length)=f l[k]):
 (l.map f).set (k:Int).toNat (((l.map f).getD (k:Int).toNat []).take off++xs++((l.map f).getD (k:Int).toNat []).drop (off+xs.length))=l.map f:=by
 rw[qw hk,h,Int.toNat_natCast];rw[show f l[k]=(l.map f)[k]'Dn by simp];exact List.set_getElem_self _
def set1 (L:List (List PV)) (k off:Nat) (xs:List PV):List (List PV):=L.set k ((L.getD k []).take off++xs++(L.getD k []).drop (off+xs.length))
def set3 (L:List (List PV)) (k a:Nat) (xs:List PV) (b:Nat) (ys:List PV) (c:Nat) (zs:List PV):List (List PV):=set1 (set1 (set1 L k a xs) k b ys) k c zs
def OwnOk (n:Nat):Prop:=∀(p:Pol),PolF n p->p.sz<=500000->Holds prog 188 [.agg (polP p)] (.p (.agg (polP p))) []
theorem own_step (n:Nat) (IH:OwnOk n):OwnOk (n+1):=by
 intro p hf hsz;obtain⟨z1,z2,z3,z4,z5,z6⟩:=sz_big hsz DP;have l1:(p.rules.map zo).length=p.rules.length:=by simp
 have l2:(p.kids.map polP).length=p.kids.length:=by simp
 rw[qY];refine Vd ?_;show HoldsW _ _ [.p (.agg [pS p.id,pB p.set,pI p.alg,tgtP p.target,.sl 5 (p.rules.map zo),.sl 7 (p.kids.map polP),zh p.obls])] [] _ _;have H1:=owt_h p.target z1;have H2:=(obl_cl p.obls DP).row_sl;have H3:=rul_cl p.rules DP;have H4:=pol_cl p.kids DP;refine qz (T:=TTab) qc func188 DG rfl rfl rfl ?_;refine uA ?_;refine RA ?_;refine LQ ?_;refine Vb ?_;refine X5 ?_;refine Rb ?_;refine qd rfl rfl rfl (qt rfl rfl rfl rfl (H1) rfl rfl rfl ?_);refine XX ?_;refine Vo ?_;refine GX ?_;refine Gx ?_;refine Xy ?_;refine Vu ?_;refine Uc ?_;refine Lz ?_;refine SW.wk (qj [1,2] [(1,1),(2,2)] rfl rfl) ?_;refine ?fk1_121;rotate_left;refine RA ?_;refine LQ ?_;refine Vb ?_;refine X5 ?_;refine Rb ?_;refine GY ?_;refine XX ?_;refine Vo ?_;refine Kb ?_;refine Gx ?_;refine Xy ?_;refine Vu ?_;refine Uc ?_;refine Lz ?_;refine SW.wk (qj [1,2] [(1,1),(2,2),(18000,900),(21000,901)] rfl rfl) ?_;refine ?fk2_140;rotate_left;change SW _ _ _ ⟨72,[(1,.ptr 1 0),(2,.ptr 2 0)],[(1,.cells [.p (pS p.id),.p (pB p.set),.p (pI p.alg),.p (tgtP p.target),.row 900,.row 901,.p (zh p.obls)]),(2,.cells [.p (pS ⟨#[]⟩),.p (pB false),.p (pI 0),.p nilV,.p nilV,.p nilV,.p nilV]),(900,.row 150 5 (p.rules.map zo)),(901,.row 38 7 (p.kids.map polP))]⟩;refine uA ?_;rw[l1];refine uB ?_;refine uZ [1,2,24,25,26] [(1,1),(2,2),(900,900),(901,901)] ?_;refine qG (fun m s=>∃(k:Nat) (kk:Int),k<=p.rules.length/\m=p.rules.length-k/\kk=k/\s=⟨72,[(1,.ptr 1 0),(2,.ptr 2 0),(24,.row 900),(25,.p (pI p.rules.length)),(26,.p (pI kk))],[(1,.cells [.p (pS p.id),.p (pB p.set),.p (pI p.alg),.p (tgtP p.target),.row 900,.row 901,.p (zh p.obls)]),(2,.cells [.p (pS ⟨#[]⟩),.p (pB false),.p (pI 0),.p nilV,.p nilV,.p nilV,.p nilV]),(900,.row 150 5 (p.rules.map zo)),(901,.row 38 7 (p.kids.map polP))]⟩) p.rules.length ⟨0,0,Yl _,rfl,rfl,rfl⟩ ?_;rintro m s ⟨k,_,hk,rfl,rfl,rfl⟩;refine uA ?_;refine uC (fun hlt=>?_) (fun hlt=>?_)
 · refine qh ?_;simp only[Yf]at hlt;have hlt':k<p.rules.length:=by omega
   refine Kx ?_;obtain⟨x,hx⟩:∃x,x=p.rules[k]:=⟨_,rfl⟩;refine qm qc rfl rfl Dv rfl ?_;refine qm qc rfl (opR_loadL (x:=zo x) rfl rfl rfl rfl ED rfl) (by simp only[l1,Int.toNat_natCast];omega) rfl ?_;refine Ko ?_;have hxl:=z5 _ (Yn hlt');rw[<-hx]at hxl;have HT:=owt_h x.target hxl.1;have HN:=(nod_cl x.cond DP).row_sl;have HO:=(obl_cl x.obls DP).row_sl;(repeat refine qA ?_);refine qD 27 rfl DG ?_
   refine VN ?_;refine VO ?_;refine VP ?_;refine VQ ?_;refine Mb ?_;refine qi (i:=5) (K:=[900]) DG DG rfl rfl (qf qc rfl De) rfl ?_;refine qi (i:=6) (K:=[900]) DG DG rfl rfl (qf qc rfl De) rfl ?_;refine Mc ?_;refine qi (i:=8) (K:=[900]) DG DG rfl rfl (qf qc rfl De) rfl ?_;refine qi (i:=9) (K:=[900]) DG DG rfl rfl (qf qc rfl De) rfl ?_;refine qi (i:=10) (K:=[900]) DG DG rfl rfl (qf qc rfl De) rfl ?_;refine qi (i:=12) (K:=[900]) DG DG rfl rfl (qf qc rfl De) rfl ?_;refine qi (i:=13) (K:=[900]) DG DG rfl rfl (qf qc rfl De) rfl ?_;refine qi (i:=15) (K:=[900]) DG DG rfl rfl (qf qc rfl De) rfl ?_;refine qi (i:=16) (K:=[900]) DG DG rfl rfl (qf qc rfl De) rfl ?_;refine UX ?_;refine qd rfl rfl rfl (qt rfl rfl rfl rfl (HT) rfl rfl rfl ?_);refine XT ?_;refine qd rfl rfl rfl (qt rfl rfl rfl rfl (HN) rfl rfl rfl ?_);refine qg 17 DG ?_;refine Gr ?_;refine qi (i:=18) (K:=[900]) DG DG rfl rfl (qf qc rfl ES) rfl ?_;refine qi (i:=19) (K:=[900]) DG DG rfl rfl (qf qc rfl De) rfl ?_;refine UY ?_;refine UF ?_;refine qi (i:=21) (K:=[900]) DG DG rfl rfl (qf qc rfl ES) rfl ?_;refine qi (i:=22) (K:=[900]) DG DG rfl rfl (qf qc rfl De) rfl ?_;refine UZ ?_;refine UF ?_;refine qi (i:=24) (K:=[900]) DG DG rfl rfl (qf qc rfl ES) rfl ?_;refine qi (i:=25) (K:=[900]) DG DG rfl rfl (qf qc rfl De) rfl ?_;refine U0 ?_;refine UF ?_;refine XH ?_;refine SW.wk (qj [1,2,24,25,26] [(1,1),(2,2),(900,900),(901,901)] rfl rfl) ?_;refine ?fk6_183;rotate_left;change SW _ _ _ ⟨72,[(1,.ptr 1 0),(2,.ptr 2 0),(24,.row 900),(25,.p (pI p.rules.length)),(26,.p (pI k))],[(1,.cells [.p (pS p.id),.p (pB p.set),.p (pI p.alg),.p (tgtP p.target),.row 900,.row 901,.p (zh p.obls)]),(2,.cells [.p (pS ⟨#[]⟩),.p (pB false),.p (pI 0),.p nilV,.p nilV,.p nilV,.p nilV]),(900,.row 150 5 (set3 (p.rules.map zo) (k:Int).toNat 2 [tgtP x.target] 3 [nodsP x.cond] 4 [zh x.obls])),(901,.row 38 7 (p.kids.map polP))]⟩;rw[show set3 (p.rules.map zo) (k:Int).toNat 2 [tgtP x.target] 3 [nodsP x.cond] 4 [zh x.obls]=p.rules.map zo by
    unfold set3 set1;rw[set_map hlt' 2 [tgtP x.target] Df,set_map hlt' 3 [nodsP x.cond] Df,set_map hlt' 4 [zh x.obls] Df]]
   refine uA ?_;refine⟨_,_,?_,qj [1,2,24,25,26] [(1,1),(2,2),(900,900),(901,901)] rfl rfl,k+1,_,hlt',rfl,qq hlt' DP,rfl⟩;omega
 · refine qC ?_;simp only[Yh]at hlt;clear hlt
   refine uA ?_;rw[l2];refine uB ?_;refine uZ [1,2,57,58,59] [(1,1),(2,2),(900,900),(901,901)] ?_;refine qG (fun m s=>∃(k:Nat) (kk:Int),k<=p.kids.length/\m=p.kids.length-k/\kk=k/\s=⟨72,[(1,.ptr 1 0),(2,.ptr 2 0),(57,.row 901),(58,.p (pI p.kids.length)),(59,.p (pI kk))],[(1,.cells [.p (pS p.id),.p (pB p.set),.p (pI p.alg),.p (tgtP p.target),.row 900,.row 901,.p (zh p.obls)]),(2,.cells [.p (pS ⟨#[]⟩),.p (pB false),.p (pI 0),.p nilV,.p nilV,.p nilV,.p nilV]),(900,.row 150 5 (p.rules.map zo)),(901,.row 38 7 (p.kids.map polP))]⟩) p.kids.length ⟨0,0,Yl _,rfl,rfl,rfl⟩ ?_;rintro m s ⟨k,_,hk,rfl,rfl,rfl⟩;refine uA ?_;refine uC (fun hlt=>?_) (fun hlt=>?_)
   · refine qh ?_;simp only[Yf]at hlt;have hlt':k<p.kids.length:=by omega
     refine Kx ?_;refine Rh ?_;obtain⟨x,hx⟩:∃x,x=p.kids[k]:=⟨_,rfl⟩;refine qm qc rfl (opR_loadL (x:=[pS x.id,pB x.set,pI x.alg,tgtP x.target,.sl 5 (x.rules.map zo),.sl 7 (x.kids.map polP),zh x.obls]) rfl rfl rfl rfl (by rw[Int.toNat_natCast,YH,Yj hlt',<-hx,<-qY x];rfl) rfl) EI rfl ?_;refine Ko ?_;have hxs:=z6 _ (Yn hlt');have hxf:=hf.2.2 _ (Yn hlt');rw[<-hx]at hxs hxf;have HK:=IH x hxf hxs;rw[qY]at HK;refine Uv ?_;refine qi (i:=0) (K:=[901]) DG DG rfl rfl (qf qc rfl De) rfl ?_;refine qi (i:=1) (K:=[901]) DG DG rfl rfl (qf qc rfl De) rfl ?_;refine qi (i:=2) (K:=[901]) DG DG rfl rfl (qf qc rfl De) rfl ?_;refine qi (i:=3) (K:=[901]) DG DG rfl rfl (qf qc rfl De) rfl ?_;refine Gy ?_;refine qd rfl rfl rfl (qt rfl rfl rfl rfl (HK) rfl rfl rfl ?_);refine qi (i:=5) (K:=[901]) DG DG rfl rfl (qf qc rfl (by simp only[l2];omega)) rfl ?_;refine G9 ?_;refine qd rfl rfl rfl (zu qc rfl rfl rfl rfl rfl EI rfl rfl rfl rfl rfl ?_);refine XH ?_;refine SW.wk (qj [1,2,57,58,59] [(1,1),(2,2),(900,900),(901,901)] rfl rfl) ?_;refine ?fk11_254;rotate_left;change SW _ _ _ ⟨72,[(1,.ptr 1 0),(2,.ptr 2 0),(57,.row 901),(58,.p (pI p.kids.length)),(59,.p (pI k))],[(1,.cells [.p (pS p.id),.p (pB p.set),.p (pI p.alg),.p (tgtP p.target),.row 900,.row 901,.p (zh p.obls)]),(2,.cells [.p (pS ⟨#[]⟩),.p (pB false),.p (pI 0),.p nilV,.p nilV,.p nilV,.p nilV]),(900,.row 150 5 (p.rules.map zo)),(901,.row 38 7 (set1 (p.kids.map polP) (k:Int).toNat 0 [pS x.id,pB x.set,pI x.alg,tgtP x.target,.sl 5 (x.rules.map zo),.sl 7 (x.kids.map polP),zh x.obls]))]⟩;rw[show set1 (p.kids.map polP) (k:Int).toNat 0 [pS x.id,pB x.set,pI x.alg,tgtP x.target,.sl 5 (x.rules.map zo),.sl 7 (x.kids.map polP),zh x.obls]=p.kids.map polP by
      unfold set1;rw[set_map hlt' 0 _ (by rw[<-hx,qY];rfl)]]
     refine uA ?_;refine⟨_,_,?_,qj [1,2,57,58,59] [(1,1),(2,2),(900,900),(901,901)] rfl rfl,k+1,_,hlt',rfl,qq hlt' DP,rfl⟩;omega
   · refine qC ?_;refine SW.wk (qu (k:=900) rfl) ?_;refine SW.wk (qu (k:=901) rfl) ?_;refine Kp ?_;exact XC
theorem own_ok:∀n,OwnOk n
 |0=>fun p h=>h.elim
 |n+1=>own_step n (own_ok n)
structure Cas.Ok (c:Cas):Prop where
 fields:c.fields.length<=1000
 log:c.log.length<=1000
structure Sto.Ok (s:Sto):Prop where
 cases:s.cases.length<=1000
 each:∀c∈s.cases,c.Ok
 revs:s.revs.length<=1000
 ntcs:s.ntcs.length<=1000
 roles:s.roles.length<=1000
 pol:∃n,PolF n s.pol
 sz:s.pol.sz<=500000
theorem zQ {l:List Cas} {id:DT} {c:Cas} (h:wa l id=some c):∃hk:jG l id<l.length,l[jG l id]=c/\findB l id=true/\c.id=id:=by
 unfold wa at h;split at h
 · rename_i d hd;split at h
   · rename_i hi;cases h;obtain⟨hk,he⟩:=Yq.1 hd;refine⟨hk,he,?_,hi⟩;unfold findB;rw[hd];exact Yz hi
   · cases h
 · cases h
theorem find_none {l:List Cas} {id:DT} (h:wa l id=none):findB l id=false:=by
 unfold wa at h;unfold findB;cases hd:l[jG l id]? with
 |none=>rfl
 |some d=>
  rw[hd]at h;simp only at h⊢;split at h
  · cases h
  · rename_i hi;exact YB hi
theorem case_h (s:Sto) (hs:s.Ok) (id:DT):Holds prog 35 [.agg s.pv,pS id] (.tup [.p (.agg ((wa s.cases id).getD noCas).pv),.p (pB (wa s.cases id).isSome)]) []:=by
 have hc:=hs.cases;have H:=find_h s DP id;refine Vd ?_;show HoldsW _ _ [.p (.agg s.pv),.p (pS id)] [] _ _;cases hcc:wa s.cases id with
 |none=>
  rw[find_none hcc]at H;refine qz (T:=TTab) qc func35 DG rfl rfl rfl ?_;refine LC ?_;refine Ku ?_;refine uC (fun hc=>?_) (fun hc=>?_);rotate_left
  · cases hc
  refine Kp ?_;exact⟨Or.inr rfl,_,_,[],_,Wk.refl _,rfl,rfl,.two (CvL.agg (.cons (.refl _) (.cons (.refl _) (.cons (.refl _) (.cons (.nil 4) (.cons (.nil 3) .nil)))))) (.refl _),rfl,rfl⟩
 |some c=>
  obtain⟨hk,he,hb,_⟩:=zQ hcc;have hco:=hs.each _ (Yn hk);rw[he]at hco;rw[hb]at H;generalize hi:jG s.cases id=i at*;have HO:=ownc_h c (by have:=hco.fields;omega) (by have:=hco.log;omega);refine qz (T:=TTab) qc func35 DG rfl rfl rfl ?_;refine LC ?_;refine Ku ?_;refine uC (fun hc=>?_) (fun hc=>?_)
  · cases hc
  refine Kv ?_;refine Vc ?_;rw[qw hk,he];refine uS ?_;refine uO HO ?_;refine SWT.wk (qu (k:=23000) rfl) ?_;refine SWT.wk (qu (k:=23001) rfl) ?_;refine Ks ?_;exact XC
theorem rdyClose_h (s:Sto) (hs:s.Ok) (o:Opn) (ho:0<o.rev/\o.rev<=9223372036854775807):Holds prog 120 [.agg s.pv,.agg o.pv] (.p (pI (qac s o))) []:=by
 have hr:=hs.revs;have lr:(s.revs.map Rev.pv).length=s.revs.length:=by simp
 have hw:IntKind.i64.wrap (o.rev-1)=((o.rev-1).toNat:Int):=by rw[YD _ DP];omega
 obtain⟨k,hk⟩:∃k,k=(o.rev-1).toNat:=⟨_,rfl⟩;have hk2:o.rev=(k:Int)+1:=by omega
 obtain⟨T,hT⟩:∃T,T=qac s o:=⟨_,rfl⟩;rw[<-hT];unfold qac at hT;rw[<-hk]at hw hT;refine qo (ts:=[4]) func120 DG rfl rfl rfl ?_;refine uA ?_;refine Kx ?_;rw[lr];by_cases hlt:k<s.revs.length
 · rw[show decide (o.rev>(s.revs.length:Int))=false by rw[Yh];omega];rw[Yj hlt]at hT;simp only at hT;refine uS ?_;rw[hw];refine Ka ?_;rw[qw hlt];obtain⟨x,hx⟩:∃x,x=s.revs[k]:=⟨_,rfl⟩;rw[<-hx]at hT⊢;refine Ko ?_;cases hb:x.open_ with
   |false=>
    rw[hb]at hT;simp only[if_true]at hT;refine uC (fun hc=>?_) (fun hc=>?_);rotate_left
    · cases hc
    rw[hT];exact KK
   |true=>
    rw[hb]at hT;simp only[Bool.true_eq_false,if_false]at hT;refine uC (fun hc=>?_) (fun hc=>?_)
    · cases hc
    refine uD [] [1,3,5,7,9,11,13,15,17,19,21,23] ?_;rw[hw];refine qJ qc rfl rfl rfl (by rw[lr];omega) rfl ?_;rw[qw hlt,<-hx];refine KG ?_;rw[beqB];by_cases hy:x.subj=o.subj
    · rw[Yi hy]at hT;rw[Yz hy];refine uC (fun hc=>?_) (fun hc=>?_);rotate_left
      · cases hc
      rw[hT];exact KK
    · rw[Yc hy]at hT;rw[YB hy];refine uC (fun hc=>?_) (fun hc=>?_)
      · cases hc
      refine qh ?_;rw[hT];exact KK
 · rw[show decide (o.rev>(s.revs.length:Int))=true by rw[Yf];omega];rw[YT DP]at hT;simp only at hT;refine Ko ?_;refine uC (fun hc=>?_) (fun hc=>?_);rotate_left
   · cases hc
   rw[hT];exact KK
theorem rdyCase_h (s:Sto) (hs:s.Ok) (o:Opn):Holds prog 119 [.agg s.pv,.agg o.pv] (.p (pI (qbr s o))) []:=by
 have H:=case_h s hs o.case_;obtain⟨T,hT⟩:∃T,T=qbr s o:=⟨_,rfl⟩;rw[<-hT];unfold qbr at hT;cases hcc:wa s.cases o.case_ with
 |none=>
  rw[hcc]at hT H;simp only at hT;refine qo (ts:=[4]) func119 DG rfl rfl rfl ?_;refine Kq ?_;refine uO H ?_;refine K0 ?_;refine uC (fun hc=>?_) (fun hc=>?_);rotate_left
  · cases hc
  rw[hT];exact KK
 |some c=>
  rw[hcc]at hT H;have hco:=hs.each _ (by obtain⟨hk,he,_⟩:=zQ hcc;exact he▸Yn hk);have h1:=hco.fields;have h2:=hco.log;have HF:=fieldC_h c o.field DP;have HL:=foll_h c.state o.to_;simp only at hT;simp only[Option.getD_some,Option.isSome_some]at H;refine qo (ts:=[4]) func119 DG rfl rfl rfl ?_;refine Kq ?_;refine uO H ?_;refine K0 ?_;refine uC (fun hc=>?_) (fun hc=>?_)
  · cases hc
  refine KM ?_;refine qV rfl rfl rfl rfl (HF) rfl rfl ?_;refine Xz ?_;refine LV ?_;rw[<-eqV0 (v:=qao c o.field)];generalize emV (qao c o.field)=bz at*;refine uC (fun hc=>?_) (fun hc=>?_)
  · have hx:o.kind=3/\16<=c.fields.length/\bz=true:=by
     simp only[Xp,Yp,Yf,Yb,beq_iff_eq]at hc;obtain⟨⟨a1,a2⟩,a3⟩:=hc;exact⟨a1,by omega,a3⟩
    rw[Yi hx]at hT;rw[hT];exact KK
  · have hx:¬(o.kind=3/\16<=c.fields.length/\bz=true):=by
     rintro⟨a1,a2,a3⟩;rw[Bool.eq_false_iff]at hc;apply hc;simp only[Xp,Yp,Yf,Yb,beq_iff_eq];exact⟨⟨a1,by omega⟩,a3⟩
    rw[Yc hx]at hT;clear hc hx
    refine KB ?_;refine uC (fun hc=>?_) (fun hc=>?_)
    · have hx:o.kind≠2/\256<=c.log.length:=by
       simp only[Xp,Yp,Yf,Yb,bne_iff_ne,ne_eq]at hc;exact⟨hc.1,by omega⟩
      rw[Yi hx]at hT;rw[hT];exact KK
    · have hx:¬(o.kind≠2/\256<=c.log.length):=by
       rintro⟨a1,a2⟩;rw[Bool.eq_false_iff]at hc;apply hc;simp only[Xp,Yp,Yf,Yb,bne_iff_ne,ne_eq];exact⟨a1,by omega⟩
      rw[Yc hx]at hT;clear hc hx
      refine KB ?_;rw[beqB];refine uC (fun hc=>?_) (fun hc=>?_)
      · have hx:o.kind=3/\c.state=wClosed:=by
         simp only[Xp,Yp,Yf,beq_iff_eq]at hc;exact hc
        rw[Yi (.inl hx)]at hT;refine qh ?_;refine uC (fun hc=>?_) (fun hc=>?_);rotate_left
        · exact absurd hc (by simp[hx.1,hx.2,wClosed])
        rw[hT];exact KK
      · have hx:¬(o.kind=3/\c.state=wClosed):=by
         rintro⟨a1,a2⟩;rw[Bool.eq_false_iff]at hc;apply hc;simp only[Xp,Yp,Yf,beq_iff_eq];exact⟨a1,a2⟩
        refine KM ?_;refine qV rfl rfl rfl rfl (HL) rfl rfl ?_;refine Xz ?_;refine Ky ?_;generalize follC c.state o.to_=bf at*;refine uC (fun hc2=>?_) (fun hc2=>?_)
        · have hx2:o.kind=4/\bf=false:=by
           simp only[Xp,Yp,Yf,beq_iff_eq,Xo]at hc2;exact hc2
          rw[Yi (.inr hx2)]at hT;rw[hT];exact KK
        · have hx2:¬((o.kind=3/\c.state=wClosed)\/(o.kind=4/\bf=false)):=by
           rintro(h|⟨a1,a2⟩)
           · exact hx h
           · rw[Bool.eq_false_iff]at hc2;apply hc2;simp only[Xp,Yp,Yf,beq_iff_eq,Xo];exact⟨a1,a2⟩
          rw[Yc hx2]at hT;refine qh ?_;rw[hT];exact KK
theorem form_close {o:Opn} (h:wm o=true) (hk:o.kind=5):0<o.rev:=by
 unfold wm at h;simp only[Yp]at h;have ht:=h.2.2.2.2.2.2.2;unfold takC at ht;simp only[hk]at ht;simp at ht;exact ht.1
theorem qaq (s:Sto) (hs:s.Ok) (o:Opn) (ho:o.Ok):Holds prog 69 [.agg s.pv,.agg o.pv] (.p (pI (rdyC s o))) []:=by
 have HF:=form_h o ho;have hn:=hs.cases;have hr:=hs.roles;have HI:=find_h s DP o.case_;have HC:=rdyCase_h s hs o;have HH:=hass_h s DP o.case_ o.field;obtain⟨T,hT⟩:∃T,T=rdyC s o:=⟨_,rfl⟩;rw[<-hT];unfold rdyC at hT;cases hf:wm o with
 |false=>
  rw[hf]at hT HF;simp only[if_true]at hT;refine qo (ts:=[4]) func69 DG rfl rfl rfl ?_;refine Kq ?_;refine uK HF ?_;refine Ko ?_;refine uC (fun hc=>?_) (fun hc=>?_);rotate_left
  · cases hc
  rw[hT];exact KK
 |true=>
  rw[hf]at hT HF;simp only[Bool.true_eq_false,if_false]at hT;have hrev:=form_close hf;have hro:=ho.rev;refine qo (ts:=[4]) func69 DG rfl rfl rfl ?_;refine Kq ?_;refine uK HF ?_;refine Ko ?_;refine uC (fun hc=>?_) (fun hc=>?_)
  · cases hc
  refine qh ?_;refine Kr ?_;refine Ut ?_;refine SW.mono (Q:=fun e st=>(e=.normal/\∃b:Bool,T=(if b then 6 else 0)/\Wk st ⟨63,[(5,.p (pB b))],[]⟩)\/(e=.ret/\Fin [4] (.p (pI T)) [] .ret st)) ?_ ?_
  · refine Kz ?_;by_cases h1:o.kind=1
    · rw[Yi h1]at hT;rw[show(o.kind==1)=true by simp[h1]];refine uC (fun hc=>?_) (fun hc=>?_);rotate_left
      · cases hc
      refine uR ?_;refine uK HI ?_;refine Ku ?_;generalize findB s.cases o.case_=b at*;cases b with
      |true=>
       simp only[if_true]at hT;refine uC (fun hc=>?_) (fun hc=>?_);rotate_left
       · cases hc
       rw[hT];refine Kp ?_;exact .inr ⟨rfl,qZ rfl rfl⟩
      |false=>
       simp only[YC,if_false]at hT;refine uC (fun hc=>?_) (fun hc=>?_)
       · cases hc
       refine Kv ?_;rw[show decide (((s.cases.map Cas.pv).length:Int)>=64)=decide (64<=s.cases.length)by rw[Yb,YO];simp only[Yf];omega];refine Ko ?_;exact .inl ⟨rfl,_,by rw[hT];simp only[Yf],qj [5] [] rfl rfl⟩
    rw[Yc h1]at hT;rw[show(o.kind==1)=false by simp[h1]];refine uC (fun hc=>?_) (fun hc=>?_)
    · cases hc
    refine uA ?_;refine Ut ?_;refine SW.mono (Q:=fun e st=>e=.normal/\Wk st ⟨63,[(2,.ptr 2 0),(3,.ptr 3 0),(5,.p (pB false)),(12,.p (pI o.kind)),(27,.p (pB (decide (o.kind=2\/o.kind=3\/o.kind=4))))],[(2,.cells (s.pv.map .p)),(3,.cells (o.pv.map .p))]⟩) ?_ ?_
    · by_cases h2:o.kind=2
      · rw[show(o.kind==2)=true by simp[h2]];refine uC (fun hc=>?_) (fun hc=>?_);rotate_left
        · cases hc
        refine qh ?_;rw[show decide (o.kind=2\/o.kind=3\/o.kind=4)=true by simp[h2]];exact Kc
      · rw[show(o.kind==2)=false by simp[h2]];refine uC (fun hc=>?_) (fun hc=>?_)
        · cases hc
        refine uA ?_;by_cases h3:o.kind=3
        · rw[show(o.kind==3)=true by simp[h3]];refine uC (fun hc=>?_) (fun hc=>?_);rotate_left
          · cases hc
          refine qh ?_;rw[show decide (o.kind=2\/o.kind=3\/o.kind=4)=true by simp[h3]];exact Kc
        · rw[show(o.kind==3)=false by simp[h3]];refine uC (fun hc=>?_) (fun hc=>?_)
          · cases hc
          refine uR ?_;refine qe ?_;rw[show decide (o.kind=2\/o.kind=3\/o.kind=4)=(o.kind==4)by simp only[h2,h3,false_or];rfl];exact Kc
    rintro e st ⟨rfl,hw⟩;refine V3 ?_;clear hw
    by_cases h2:o.kind=2\/o.kind=3\/o.kind=4
    · rw[Yi h2]at hT;rw[Yz h2];refine uC (fun hc=>?_) (fun hc=>?_);rotate_left
      · cases hc
      refine uR ?_;refine uK HC ?_;refine Ks ?_;exact .inr ⟨rfl,qZ rfl hT.symm⟩
    rw[Yc h2]at hT;rw[YB h2];refine uC (fun hc=>?_) (fun hc=>?_)
    · cases hc
    refine uA ?_;by_cases h5:o.kind=5
    · rw[Yi h5]at hT;rw[show(o.kind==5)=true by simp[h5]];have HX:=rdyClose_h s hs o ⟨hrev h5,hro.2⟩;refine uC (fun hc=>?_) (fun hc=>?_);rotate_left
      · cases hc
      refine uR ?_;refine uK HX ?_;refine Ks ?_;exact .inr ⟨rfl,qZ rfl hT.symm⟩
    rw[Yc h5]at hT;rw[show(o.kind==5)=false by simp[h5]];refine uC (fun hc=>?_) (fun hc=>?_)
    · cases hc
    refine uA ?_;by_cases h6:o.kind=6
    · rw[Yi h6]at hT;rw[show(o.kind==6)=true by simp[h6]];refine uC (fun hc=>?_) (fun hc=>?_);rotate_left
      · cases hc
      refine KM ?_;refine qV rfl rfl rfl rfl (HH) rfl rfl ?_;refine Xz ?_;refine Ky ?_;refine .inl ⟨rfl,_,?_,qj [5] [] rfl rfl⟩;rw[hT];congr 1;apply propext;simp only[Xp,Yp,Yf,Yb,Xo];constructor
      · rintro⟨a,b⟩;exact⟨by omega,b⟩
      · rintro⟨a,b⟩;exact⟨by omega,b⟩
    rw[Yc h6]at hT;rw[show(o.kind==6)=false by simp[h6]];refine uC (fun hc=>?_) (fun hc=>?_)
    · cases hc
    refine uA ?_;by_cases h8:o.kind=8
    · rw[Yi h8]at hT;rw[show(o.kind==8)=true by simp[h8]];refine uC (fun hc=>?_) (fun hc=>?_);rotate_left
      · cases hc
      refine uR ?_;refine qe ?_;refine .inl ⟨rfl,_,?_,qj [5] [] rfl rfl⟩;rw[hT];simp only[Yf]
    rw[Yc h8]at hT;rw[show(o.kind==8)=false by simp[h8]];refine uC (fun hc=>?_) (fun hc=>?_)
    · cases hc
    refine qh ?_;exact .inl ⟨rfl,false,by rw[hT];rfl,qj [5] [] rfl rfl⟩
  rintro e st (⟨rfl,b,hT,hw⟩|⟨rfl,hf⟩);rotate_left
  · exact hf
  refine V3 ?_;refine uA ?_;cases hb:b with
  |true=>
   rw[hb]at hT;simp only[if_true]at hT;refine uC (fun hc=>?_) (fun hc=>?_);rotate_left
   · cases hc
   rw[hT];exact KK
  |false=>
   rw[hb]at hT;simp only[YC,if_false]at hT;refine uC (fun hc=>?_) (fun hc=>?_)
   · cases hc
   refine qh ?_;rw[hT];exact KK
theorem idV_h (s:DT):Holds prog 53 [pS s] (.p (.agg (idV s).pv)) []:=by
 refine Vd ?_;show HoldsW _ _ [.p (pS s)] [] _ _;refine qz (T:=TTab) qc func53 DG rfl rfl rfl ?_;refine KX ?_;exact XC
theorem wo (cat:Int) (name:DT) (bag:List Val):Holds prog 54 [pI cat,pS name,valsP bag] (.p (.agg (Giv.pv ⟨cat,name,bag⟩))) []:=by
 refine Vd ?_;show HoldsW _ _ [.p (pI cat),.p (pS name),.p (valsP bag)] [] _ _;refine qz (T:=TTab) qc func54 DG rfl rfl rfl ?_;refine KX ?_;exact XC
def ask5 (c:Cas) (subj:DT):List Giv:=[gv 3 [105,100] [idV c.id],gv 3 [111,119,110,101,114] [idV c.owner],gv 3 [115,116,97,116,101] [idV c.state],gv 3 [101,118,101,110,116,115] [⟨2,c.log.length,e0⟩],gv 3 [116,111,111,107] [tookC c subj]]
theorem lastG_len (c:Cas):(lastG c).length<=1:=by
 unfold lastG;cases c.log.getLast? with
 |none=>exact Yl _
 |some h=>exact Yk _
theorem fldG_len (l:List Fld):(l.flatMap fldG).length<=l.length:=by
 induction l with
 |nil=>exact Yk _
 |cons f l ih=>
  rw[YW,Ya,Yg];have:(fldG f).length<=1:=by unfold fldG;split<;>simp
  omega
theorem askCase_h (c:Cas) (hc:c.Ok) (hz:∀f∈c.fields,f.name.size<=1000000) (subj:DT):Holds prog 55 [.agg c.pv,pS subj] (.p (js (wb c subj))) []:=by
 have hf:=hc.fields;have hl:=hc.log;have I1:=idV_h c.id;have G1:=wo 3 ⟨#[105,100]⟩ [idV c.id];have I2:=idV_h c.owner;have G2:=wo 3 ⟨#[111,119,110,101,114]⟩ [idV c.owner];have I3:=idV_h c.state;have G3:=wo 3 ⟨#[115,116,97,116,101]⟩ [idV c.state];have G4:=wo 3 ⟨#[101,118,101,110,116,115]⟩ [⟨2,c.log.length,e0⟩];have TK:=tookC_h c subj DP;have G5:=wo 3 ⟨#[116,111,111,107]⟩ [tookC c subj];have ll:(c.log.map Hap.pv).length=c.log.length:=by simp
 have lf:(c.fields.map Fld.pv).length=c.fields.length:=by simp
 refine Vd ?_;show HoldsW _ _ [.p (.agg c.pv),.p (pS subj)] [] _ _;refine qE (ts:=[4]) func55 DG rfl rfl rfl ?_;refine uA ?_;generalize hn:c.log.length=n at*;(repeat refine qA ?_);refine qD 28 rfl DG ?_
 refine LQ ?_;refine MF ?_;refine XX ?_;refine Ms ?_;refine Uf ?_;refine qi (i:=15) (K:=[]) DG DG rfl rfl (qf qc rfl De) rfl ?_;refine qi (i:=16) (K:=[]) DG DG rfl rfl (qf qc rfl De) rfl ?_;refine qi (i:=17) (K:=[]) DG DG rfl rfl (qf qc rfl De) rfl ?_;rw[ll];refine qi (i:=18) (K:=[]) DG DG rfl rfl (qf qc rfl De) rfl ?_;refine qi (i:=21) (K:=[]) DG DG rfl rfl (qf qc rfl De) rfl ?_;refine qi (i:=22) (K:=[]) DG DG rfl rfl (qf qc rfl De) rfl ?_;refine zd 2 19 DG ?_ ?_;refine qd rfl rfl rfl (qt rfl rfl rfl rfl (I1) rfl rfl rfl ?_);refine zd 3 19 DG ?_ ?_;refine XE ?_;refine zd 4 19 DG ?_ ?_;refine GZ ?_;refine zd 7 19 DG ?_ ?_;refine Gs ?_;refine zd 8 19 DG ?_ ?_;refine XE ?_;refine zd 9 19 DG ?_ ?_;refine Uh ?_;refine zd 12 19 DG ?_ ?_;refine V2 ?_;refine zd 13 19 DG ?_ ?_;refine XE ?_;refine zd 14 19 DG ?_ ?_;refine Vz ?_;refine qg 19 DG ?_;refine XE ?_;refine Ef ?_;refine VV ?_;refine ?fk1_61;rotate_left;exact Ep
 refine XE ?_;refine Vv ?_;exact Ep
 refine XE ?_;refine Vr ?_;refine V2 ?_;refine Vv ?_;exact Ep
 refine XE ?_;refine Uc ?_;refine Uh ?_;refine Vr ?_;refine V2 ?_;refine Vv ?_;exact Ep
 refine XE ?_;refine Un ?_;refine XE ?_;refine Uc ?_;refine Uh ?_;refine Vr ?_;refine V2 ?_;refine Vv ?_;exact Ep
 refine XE ?_;refine Gx ?_;refine Gs ?_;refine Un ?_;refine XE ?_;refine Uc ?_;refine Uh ?_;refine Vr ?_;refine V2 ?_;refine Vv ?_;exact Ep
 refine XE ?_;refine Gy ?_;refine GZ ?_;refine Gx ?_;refine Gs ?_;refine Un ?_;refine XE ?_;refine Uc ?_;refine Uh ?_;refine Vr ?_;refine V2 ?_;refine Vv ?_;exact Ep
 refine XE ?_;refine qg 3 DG ?_;refine XE ?_;refine Gy ?_;refine GZ ?_;refine Gx ?_;refine Gs ?_;refine Un ?_;refine XE ?_;refine Uc ?_;refine Uh ?_;refine Vr ?_;refine V2 ?_;refine Vv ?_;exact Ep
 refine XE ?_;refine Rb ?_;refine qd rfl rfl rfl (qt rfl rfl rfl rfl (I1) rfl rfl rfl ?_);refine qg 3 DG ?_;refine XE ?_;refine Gy ?_;refine GZ ?_;refine Gx ?_;refine Gs ?_;refine Un ?_;refine XE ?_;refine Uc ?_;refine Uh ?_;refine Vr ?_;refine V2 ?_;refine Vv ?_;exact Ep
 subst hn;change SW _ _ _ ⟨77,[(2,.ptr 2 0),(5,.row 35)],[(2,.cells (c.pv.map .p)),(35,.row 129 3 ((ask5 c subj).map Giv.pv))]⟩;clear I1 G1 I2 G2 I3 G3 G4 TK G5
 have l5:(ask5 c subj).length=5:=rfl;refine Kr ?_;rw[ll];refine Ut ?_;refine SW.mono (Q:=fun e st=>e=.normal/\Wk st ⟨77,[(2,.ptr 2 0),(5,.row 35)],[(2,.cells (c.pv.map .p)),(35,.row 129 3 ((ask5 c subj++lastG c).map Giv.pv))]⟩) ?_ ?_
 · by_cases h0:c.log.length=0
   · have hnil:c.log=[]:=List.length_eq_zero_iff.1 h0;rw[show decide ((c.log.length:Int)>0)=false by rw[Yh];omega];refine uC (fun hc=>?_) (fun hc=>?_)
     · cases hc
     refine qh ?_;rw[show lastG c=[]by unfold lastG;rw[hnil];rfl,Y9];exact⟨rfl,qj [2,5] [(2,2),(35,35)] rfl rfl⟩
   · rw[show decide ((c.log.length:Int)>0)=true by rw[Yf];omega];refine uC (fun hc=>?_) (fun hc=>?_);rotate_left
     · cases hc
     obtain⟨x,hx⟩:∃x,x=c.log[c.log.length-1]'DP:=⟨_,rfl⟩;rw[show lastG c=[gv 3 [108,97,115,116] [idV x.actor]]by unfold lastG;rw[show c.log.getLast?=some x by rw[List.getLast?_eq_getElem?,Yj DP,hx]]];have I:=idV_h x.actor;have G:=wo 3 ⟨#[108,97,115,116]⟩ [idV x.actor];refine uR ?_;rw[show IntKind.i64.wrap ((c.log.length:Int)-1)=((c.log.length-1:Nat):Int)by rw[YD _ DP];omega];refine Ux ?_;rw[qw (show c.log.length-1<c.log.length by omega),<-hx];refine uS ?_;refine uO I ?_;refine uS ?_;refine SWT.wk (qu (k:=50) rfl) ?_;refine uO G ?_;refine Lj ?_;refine Ko ?_;rw[show(ask5 c subj++[gv 3 [108,97,115,116] [idV x.actor]]).map Giv.pv=(ask5 c subj).map Giv.pv++[Giv.pv ⟨3,⟨#[108,97,115,116]⟩,[idV x.actor]⟩]from Yr ..];exact⟨rfl,qj [2,5] [(2,2),(53,35)] rfl rfl⟩
 rintro e st ⟨rfl,hw⟩;refine V3 ?_;clear hw
 obtain⟨B,hB⟩:∃B,B=ask5 c subj++lastG c:=⟨_,rfl⟩;have lB:B.length<=6:=by rw[hB,Ya,l5];have:=lastG_len c;omega
 have hR:wb c subj=B++c.fields.flatMap fldG:=by rw[hB];rfl
 rw[hR,<-hB];clear hR hB
 refine uA ?_;rw[lf];refine uB ?_;refine uZ [2,5,55,56,57] [(2,2),(35,35)] ?_;refine qG (fun m s=>∃(k:Nat) (kk:Int),k<=c.fields.length/\m=c.fields.length-k/\kk=k/\s=⟨77,[(2,.ptr 2 0),(5,.row 35),(55,.p (fldsP c.fields)),(56,.p (pI c.fields.length)),(57,.p (pI kk))],[(2,.cells (c.pv.map .p)),(35,.row 129 3 ((B++(c.fields.take k).flatMap fldG).map Giv.pv))]⟩) c.fields.length ⟨0,0,Yl _,rfl,rfl,by rw[List.take_zero,List.flatMap_nil,Y9];rfl⟩ ?_;rintro m s ⟨k,_,hk,rfl,rfl,rfl⟩;refine uA ?_;refine uC (fun hlt=>?_) (fun hlt=>?_)
 · refine qh ?_;simp only[Yf]at hlt;have hlt':k<c.fields.length:=by omega
   have hfl:=fldG_len (c.fields.take k);rw[Yd]at hfl;refine Kx ?_;refine qm qc rfl rfl (by rw[lf];omega) rfl ?_;rw[qw hlt'];obtain⟨x,hx⟩:∃x,x=c.fields[k]:=⟨_,rfl⟩;have hxz:=hz _ (Yn hlt');have ht:(c.fields.take (k+1)).flatMap fldG=(c.fields.take k).flatMap fldG++fldG x:=by rw[Ym hlt',List.flatMap_append,<-hx];simp
   rw[<-hx]at hxz⊢;refine Ku ?_;have G:=wo 3 (⟨#[102,95]⟩++x.name) [x.val];by_cases h14:x.name.size<=14
   · rw[show decide ((x.name.size:Int)<=14)=true by rw[Yf];omega];refine uC (fun hc=>?_) (fun hc=>?_);rotate_left
     · cases hc
     refine uR ?_;refine qm qc rfl rfl (by show((2+x.name.size:Nat):Int)<=9223372036854775807;omega) rfl ?_;refine uS ?_;refine SWT.wk (qu (k:=71) rfl) ?_;refine uO G ?_;refine Lj ?_;refine Ku ?_;refine⟨_,_,?_,qj [2,5,55,56,57] [(2,2),(74,35)] rfl rfl,k+1,_,hlt',rfl,qq hlt' DP,?_⟩
     · omega
     · rw[ht,show fldG x=[⟨3,⟨#[102,95]⟩++x.name,[x.val]⟩]by unfold fldG;rw[Yi h14],<-YU,show((B++(c.fields.take k).flatMap fldG)++[(⟨3,⟨#[102,95]⟩++x.name,[x.val]⟩:Giv)]).map Giv.pv=(B++(c.fields.take k).flatMap fldG).map Giv.pv++[Giv.pv ⟨3,⟨#[102,95]⟩++x.name,[x.val]⟩]from Yr ..];rfl
   · rw[show decide ((x.name.size:Int)<=14)=false by rw[Yh];omega];refine uC (fun hc=>?_) (fun hc=>?_)
     · cases hc
     refine Kw ?_;refine⟨_,_,?_,qj [2,5,55,56,57] [(2,2),(35,35)] rfl rfl,k+1,_,hlt',rfl,qq hlt' DP,?_⟩
     · omega
     · rw[ht,show fldG x=[]by unfold fldG;rw[Yc h14],Y9];rfl
 · refine qC ?_;simp only[Yh]at hlt;have hkk:k=c.fields.length:=by omega
   subst hkk;rw[Yu];refine SW.wk (qu (k:=35) rfl) ?_;exact KI
def rolB (l:List Rol) (subj:DT):List Rol:=(l.filter fun r=>decide (r.subj=subj)).take 16
theorem rolB_step {l:List Rol} {subj:DT} {k:Nat} (hk:k<l.length):rolB (l.take (k+1)) subj=if l[k].subj=subj/\(rolB (l.take k) subj).length<16 then rolB (l.take k) subj++[l[k]]else rolB (l.take k) subj:=by
 unfold rolB;rw[Ym hk,List.filter_append];generalize (l.take k).filter (fun r=>decide (r.subj=subj))=F;by_cases h:l[k].subj=subj
 · rw[show [l[k]].filter (fun r=>decide (r.subj=subj))=[l[k]]by simp[h]];rw[Yd];by_cases h2:F.length<16
   · rw[Yi ⟨h,by omega⟩,YN DE,YN DP]
   · rw[Yc DP,Y7 DP]
 · rw[show [l[k]].filter (fun r=>decide (r.subj=subj))=[]by simp[h],Y9,Yc (fun h2=>h h2.1)]
theorem rolB_len (l:List Rol) (subj:DT):(rolB l subj).length<=16:=by unfold rolB;rw[List.length_take];omega
def rolI (l:List Rol):List (List PV):=l.map fun r=>(idV r.role).pv
theorem rolesV_eq (l:List Rol) (subj:DT):valsP (rolesV l subj)=.sl 3 (rolI (rolB l subj)):=by
 unfold valsP rolesV rolI rolB;rw[List.map_map];rfl
def askA (s:Sto) (o:Opn):List Giv:=[gv 1 [105,100] [idV o.subj],gv 1 [114,111,108,101] (rolesV s.roles o.subj),gv 2 [110,97,109,101] [idV (actC o.kind)]]
def askB (o:Opn):List Giv:=if emB o.field then []else [gv 2 [102,105,101,108,100] [idV o.field]]
def askD (o:Opn):List Giv:=if emB o.to_ then []else [gv 2 [116,111] [idV o.to_]]
def askE (s:Sto):List Giv:=[gv 4 [110,111,119] [⟨4,s.tick,e0⟩]]
def askG (s:Sto) (o:Opn):List Giv:=match wa s.cases o.case_ with
 |some c=>if o.kind=6 then []else wb c o.subj
 |none=>[]
theorem ask_h (s:Sto) (hs:s.Ok) (hz:∀c∈s.cases,∀f∈c.fields,f.name.size<=1000000) (o:Opn):Holds prog 22 [.agg s.pv,.agg o.pv] (.p (js (askC s o))) []:=by
 have hr:=hs.roles;have lr:(s.roles.map Rol.pv).length=s.roles.length:=by simp
 refine Vd ?_;show HoldsW _ _ [.p (.agg s.pv),.p (.agg o.pv)] [] _ _;refine qE (ts:=[4]) func22 DG rfl rfl rfl ?_;refine LN ?_;rw[lr];refine uB ?_;refine SW.wk (zw 5 900 44 3 rfl rfl) ?_;refine uZ [2,3,5,12,13,14] [(2,2),(3,3),(900,0)] ?_;refine qG (fun m st=>∃(k:Nat) (kk:Int),k<=s.roles.length/\m=s.roles.length-k/\kk=k/\st=⟨99,[(2,.ptr 2 0),(3,.ptr 3 0),(5,.row 0),(12,.p (zi s.roles)),(13,.p (pI s.roles.length)),(14,.p (pI kk))],[(2,.cells (s.pv.map .p)),(3,.cells (o.pv.map .p)),(0,.row 44 3 (rolI (rolB (s.roles.take k) o.subj)))]⟩) s.roles.length ⟨0,0,Yl _,rfl,rfl,rfl⟩ ?_;rintro m st ⟨k,_,hk,rfl,rfl,rfl⟩;refine uA ?_;refine uC (fun hlt=>?_) (fun hlt=>?_)
 · refine qh ?_;simp only[Yf]at hlt;have hlt':k<s.roles.length:=by omega
   have hrb:=rolB_len (s.roles.take k) o.subj;have hst:=rolB_step (subj:=o.subj) hlt';have lB:(rolI (rolB (s.roles.take k) o.subj)).length=(rolB (s.roles.take k) o.subj).length:=by unfold rolI;simp
   refine Kx ?_;refine Ka ?_;rw[qw hlt'];obtain⟨x,hx⟩:∃x,x=s.roles[k]:=⟨_,rfl⟩;rw[<-hx]at hst⊢;refine Ko ?_;refine KB ?_;rw[beqB,lB];have I:=idV_h x.role;by_cases hc:x.subj=o.subj/\(rolB (s.roles.take k) o.subj).length<16
   · rw[Yi hc]at hst;rw[Yz hc.1,show decide ((((rolB (s.roles.take k) o.subj).length:Nat):Int)<16)=true by rw[Yf];omega];refine uC (fun hc'=>?_) (fun hc'=>?_);rotate_left
     · cases hc'
     refine uR ?_;refine uO I ?_;refine Lj ?_;refine Ku ?_;refine⟨_,_,?_,qj [2,3,5,12,13,14] [(2,2),(3,3),(33,0)] rfl rfl,k+1,_,hlt',rfl,qq hlt' DP,?_⟩
     · omega
     · rw[hst,show rolI (rolB (s.roles.take k) o.subj++[x])=rolI (rolB (s.roles.take k) o.subj)++[(idV x.role).pv]from Yr ..];rfl
   · rw[Yc hc]at hst;rw[show(bif decide (x.subj=o.subj)then decide ((((rolB (s.roles.take k) o.subj).length:Nat):Int)<16)else false)=false by
      by_cases h1:x.subj=o.subj
      · rw[Yz h1];show decide _=false;rw[Yh];intro h2;exact hc ⟨h1,by omega⟩
      · rw[YB h1];rfl]
     refine uC (fun hc'=>?_) (fun hc'=>?_)
     · cases hc'
     refine Kw ?_;refine⟨_,_,?_,qj [2,3,5,12,13,14] [(2,2),(3,3),(0,0)] rfl rfl,k+1,_,hlt',rfl,qq hlt' DP,?_⟩
     · omega
     · rw[hst];rfl
 · refine qC ?_;simp only[Yh]at hlt;have hkk:k=s.roles.length:=by omega
   subst hkk;clear hlt
   rw[Yu];refine Uj ?_;have I1:=idV_h o.subj;have G1:=wo 1 ⟨#[105,100]⟩ [idV o.subj];have G2:=wo 1 ⟨#[114,111,108,101]⟩ (rolesV s.roles o.subj);rw[rolesV_eq]at G2;have A:=act_h o.kind;have I3:=idV_h (actC o.kind);have G3:=wo 2 ⟨#[110,97,109,101]⟩ [idV (actC o.kind)];refine uD [] [1,3,11,15,17,4,6,8,12,18,20,22,24,26,29] ?_;refine uo I1 ?_;refine uT ?_;refine SWM.wkg ?_ (wkg_frz (k:=38) rfl) rfl;refine uo G1 ?_;refine uT ?_;refine uo G2 ?_;refine uT ?_;refine uo A ?_;refine uT ?_;refine uo I3 ?_;refine uT ?_;refine SWM.wkg ?_ (wkg_frz (k:=46) rfl) rfl;refine uo G3 ?_;refine KG ?_;refine uZ [2,3,8] [(2,2),(3,3),(48,0)] ?_;change SW _ _ _ ⟨99,[(2,.ptr 2 0),(3,.ptr 3 0),(8,.row 0)],[(2,.cells (s.pv.map .p)),(3,.cells (o.pv.map .p)),(0,.row 129 3 ((askA s o).map Giv.pv))]⟩;clear I1 G1 G2 A I3 G3
   have lA:(askA s o).length=3:=rfl;have lB:(askB o).length<=1:=by unfold askB;split<;>simp
   have lD:(askD o).length<=1:=by unfold askD;split<;>simp
   refine uA ?_;rw[beqB];refine Ut ?_;refine SW.mono (Q:=fun e st=>e=.normal/\Wk st ⟨99,[(2,.ptr 2 0),(3,.ptr 3 0),(8,.row 0)],[(2,.cells (s.pv.map .p)),(3,.cells (o.pv.map .p)),(0,.row 129 3 ((askA s o++askB o).map Giv.pv))]⟩) ?_ ?_
   · have I:=idV_h o.field;have G:=wo 2 ⟨#[102,105,101,108,100]⟩ [idV o.field];by_cases h:o.field=e0
     · rw[show(!decide (o.field=⟨#[]⟩))=false by rw[show decide (o.field=⟨#[]⟩)=true from Yz h];rfl];rw[show askB o=[]by unfold askB;rw[show emB o.field=true from Yz h];rfl,Y9];refine uC (fun hc=>?_) (fun hc=>?_)
       · cases hc
       refine qh ?_;exact⟨rfl,qj [2,3,8] [(2,2),(3,3),(0,0)] rfl rfl⟩
     · rw[show(!decide (o.field=⟨#[]⟩))=true by rw[show decide (o.field=⟨#[]⟩)=false from YB h];rfl];rw[show askB o=[gv 2 [102,105,101,108,100] [idV o.field]]by unfold askB;rw[show emB o.field=false from YB h];rfl];refine uC (fun hc=>?_) (fun hc=>?_);rotate_left
       · cases hc
       refine uR ?_;refine uO I ?_;refine uS ?_;refine SWT.wk (qu (k:=56) rfl) ?_;refine uO G ?_;refine Lj ?_;refine Ko ?_;rw[show(askA s o++[gv 2 [102,105,101,108,100] [idV o.field]]).map Giv.pv=(askA s o).map Giv.pv++[Giv.pv ⟨2,⟨#[102,105,101,108,100]⟩,[idV o.field]⟩]from Yr ..];exact⟨rfl,qj [2,3,8] [(2,2),(3,3),(59,0)] rfl rfl⟩
   rintro e st ⟨rfl,hw⟩;refine V3 ?_;clear hw
   refine uA ?_;rw[beqB];refine Ut ?_;refine SW.mono (Q:=fun e st=>e=.normal/\Wk st ⟨99,[(2,.ptr 2 0),(3,.ptr 3 0),(8,.row 0)],[(2,.cells (s.pv.map .p)),(3,.cells (o.pv.map .p)),(0,.row 129 3 ((askA s o++askB o++askD o).map Giv.pv))]⟩) ?_ ?_
   · have I:=idV_h o.to_;have G:=wo 2 ⟨#[116,111]⟩ [idV o.to_];by_cases h:o.to_=e0
     · rw[show(!decide (o.to_=⟨#[]⟩))=false by rw[show decide (o.to_=⟨#[]⟩)=true from Yz h];rfl];rw[show askD o=[]by unfold askD;rw[show emB o.to_=true from Yz h];rfl,Y9];refine uC (fun hc=>?_) (fun hc=>?_)
       · cases hc
       refine qh ?_;exact⟨rfl,qj [2,3,8] [(2,2),(3,3),(0,0)] rfl rfl⟩
     · rw[show(!decide (o.to_=⟨#[]⟩))=true by rw[show decide (o.to_=⟨#[]⟩)=false from YB h];rfl];rw[show askD o=[gv 2 [116,111] [idV o.to_]]by unfold askD;rw[show emB o.to_=false from YB h];rfl];refine uC (fun hc=>?_) (fun hc=>?_);rotate_left
       · cases hc
       refine uR ?_;refine uO I ?_;refine uS ?_;refine SWT.wk (qu (k:=67) rfl) ?_;refine uO G ?_;refine Lj ?_;refine Ko ?_;rw[show(askA s o++askB o++[gv 2 [116,111] [idV o.to_]]).map Giv.pv=(askA s o++askB o).map Giv.pv++[Giv.pv ⟨2,⟨#[116,111]⟩,[idV o.to_]⟩]from Yr ..];exact⟨rfl,qj [2,3,8] [(2,2),(3,3),(70,0)] rfl rfl⟩
   rintro e st ⟨rfl,hw⟩;refine V3 ?_;clear hw
   have G:=wo 4 ⟨#[110,111,119]⟩ [⟨4,s.tick,e0⟩];refine uR ?_;refine SWT.wk (qu (k:=75) rfl) ?_;refine uO G ?_;refine Lj ?_;refine Ko ?_;refine uZ [2,3,8] [(2,2),(3,3),(78,0)] ?_;obtain⟨L,hL⟩:∃L,L=askA s o++askB o++askD o++askE s:=⟨_,rfl⟩;have lL:L.length<=6:=by rw[hL];simp only[Ya,lA];show 3+_+_+1<=6;omega
   have hC:askC s o=L++askG s o:=by rw[hL];rfl
   have hM:(askA s o++askB o++askD o).map Giv.pv++[Giv.pv ⟨4,⟨#[110,111,119]⟩,[⟨4,s.tick,e0⟩]⟩]=L.map Giv.pv:=by rw[hL];exact(Yr (f:=Giv.pv) (l₁:=askA s o++askB o++askD o) (l₂:=[⟨4,⟨#[110,111,119]⟩,[⟨4,s.tick,e0⟩]⟩])).symm
   rw[hC];refine(?_:SW _ _ _ ⟨99,[(2,.ptr 2 0),(3,.ptr 3 0),(8,.row 0)],[(2,.cells (s.pv.map .p)),(3,.cells (o.pv.map .p)),(0,.row 129 3 ((askA s o++askB o++askD o).map Giv.pv++[Giv.pv ⟨4,⟨#[110,111,119]⟩,[⟨4,s.tick,e0⟩]⟩]))]⟩);rw[hM];clear hM hC hL lA lB lD G
   have HC:=case_h s hs o.case_;unfold askG;cases hcc:wa s.cases o.case_ with
   |none=>
    rw[hcc]at HC;refine uR ?_;refine uO HC ?_;refine Ko ?_;refine KB ?_;refine uC (fun hc=>?_) (fun hc=>?_)
    · cases hc
    refine qh ?_;refine Uj ?_;refine Kp ?_;simp only[Y9];exact Vf
   |some c=>
    rw[hcc]at HC;simp only[Option.getD_some,Option.isSome_some]at HC⊢;obtain⟨hk9,he9,_⟩:=zQ hcc;have hmem:c∈s.cases:=he9▸Yn hk9;have hco:=hs.each c hmem;have HA:=askCase_h c hco (hz c hmem) o.subj;have hal:(wb c o.subj).length<=2000:=by
     show(ask5 c o.subj++lastG c++c.fields.flatMap fldG).length<=_;rw[Ya,Ya];have h1:=lastG_len c;have h2:=fldG_len c.fields;have h3:=hco.fields;have h4:(ask5 c o.subj).length=5:=rfl;omega
    refine uR ?_;refine uO HC ?_;refine Ko ?_;refine KB ?_;by_cases h6:o.kind=6
    · rw[Yi h6];rw[show(o.kind !=6)=false by simp[h6]];refine uC (fun hc=>?_) (fun hc=>?_)
      · cases hc
      refine qh ?_;refine Uj ?_;refine Kp ?_;simp only[Y9];exact Vf
    · rw[Yc h6];rw[show(o.kind !=6)=true by simp[h6]];refine uC (fun hc=>?_) (fun hc=>?_);rotate_left
      · cases hc
      refine uR ?_;refine uO HA ?_;refine Lj ?_;refine Ko ?_;refine SW.wk (qu (k:=97) rfl) ?_;refine Kp ?_;rw[show js (L++wb c o.subj)=.sl 3 (L.map Giv.pv++(wb c o.subj).map Giv.pv)from congrArg (PV.sl 3) (Yr ..)];exact Vf
theorem ownCP_h (c:Cas) (h:c.Ok):Holds prog 85 [.agg c.pv] (.p (.agg c.pv)) []:=by
 have h1:=h.fields;have h2:=h.log;refine Vd ?_;show HoldsW _ _ [.p (.agg c.pv)] [] _ _;have HF:=(fld_cl c.fields DP).row_sl;have HL:=(hap_cl c.log DP).row_sl;refine qz (T:=TTab) qc func85 DG rfl rfl rfl ?_;refine uA ?_;refine RA ?_;refine LQ ?_;refine Vb ?_;refine X5 ?_;refine Rb ?_;refine qd rfl rfl rfl (qt rfl rfl rfl rfl (HF) rfl rfl rfl ?_);refine XX ?_;refine Vo ?_;refine qd rfl rfl rfl (qt rfl rfl rfl rfl (HL) rfl rfl rfl ?_);refine Gx ?_;refine Xy ?_;refine Vu ?_;refine Uc ?_;refine Lz ?_;refine SW.wk (qj [1,2] [(1,1),(2,2)] rfl rfl) ?_;refine ?fk1_19;rotate_left;change SW _ _ _ ⟨12,[(1,.ptr 1 0),(2,.ptr 2 0)],[(1,.cells [.p (pS c.id),.p (pS c.owner),.p (pS c.state),.p (fldsP c.fields),.p (hapsP c.log)]),(2,.cells [.p (pS ⟨#[]⟩),.p (pS ⟨#[]⟩),.p (pS ⟨#[]⟩),.p nilV,.p nilV])]⟩;refine uR ?_;refine Ks ?_;exact XC
def casS (c:Cas) (f g:Nat):List SV:=[.p (pS c.id),.p (pS c.owner),.p (pS c.state),.row f,.row g]
theorem wN (c:Cas):c.pv.length=5/\∀s∈c.pv,oneP s=true:=by
 refine⟨rfl,fun s hs=>?_⟩;simp only[Cas.pv,Y0,Xn,or_false]at hs;rcases hs with rfl|rfl|rfl|rfl|rfl<;>rfl
theorem qbq (l:List Cas):∀x∈l.map Cas.pv,x.length=5/\∀s∈x,oneP s=true:=fun x hx=>by
 obtain⟨c,_,rfl⟩:=Y1.1 hx;exact wN c
theorem rowF_cas (l:List Cas):(rowF (l.map Cas.pv)).length=l.length*5:=by
 rw[qbg fun x hx=>(qbq l x hx).1,Yb]
def stoS (t:Int) (a b c d:SV) (p:Pol) (v:Int):List SV:=[.p (pI t),a,b,c,d,.p (pS p.id),.p (pB p.set),.p (pI p.alg),.p (tgtP p.target),.p (.sl 5 (p.rules.map zo)),.p (.sl 7 (p.kids.map polP)),.p (zh p.obls),.p (pI v)]
def zeroS:List SV:=[.p (pI 0),.p nilV,.p nilV,.p nilV,.p nilV,.p (pS ⟨#[]⟩),.p (pB false),.p (pI 0),.p nilV,.p nilV,.p nilV,.p nilV,.p (pI 0)]
def casB (l:List Cas) (i:Nat) (r f g:Nat):List (Nat×Box):=match l[i]? with
 |some c=>[(r,.rws 91 5 ((l.take i).map Cas.pv) (casS c f g) ((l.drop (i+1)).map Cas.pv)),(f,.row 96 4 (c.fields.map Fld.pv)),(g,.row 119 3 (c.log.map Hap.pv))]
 |none=>[(r,.row 91 5 (l.map Cas.pv))]
theorem ownS_h (s:Sto) (hs:s.Ok) (i:Nat):Holds prog 127 [.agg s.pv] (.agg (stoS s.tick (.row 0) (.row 1) (.row 2) (.row 3) s.pol s.ver)) (casB s.cases i 0 4 5++[(1,.row 69 7 (s.revs.map Rev.pv)),(2,.row 123 3 (s.ntcs.map Ntc.pv)),(3,.row 52 2 (s.roles.map Rol.pv))]):=by
 have h1:=hs.cases;have h2:=hs.revs;have h3:=hs.ntcs;have h4:=hs.roles;obtain⟨n,hp⟩:=hs.pol;have H1:=cas_cl s.cases DP;have H2:=rev_cl s.revs DP;have H3:=ntc_cl s.ntcs DP;have H4:=rol_cl s.roles DP;have H5:=own_ok n s.pol hp hs.sz;rw[qY]at H5;have lc:(s.cases.map Cas.pv).length=s.cases.length:=by simp
 refine Vd ?_;show HoldsW _ _ [.p (.agg s.pv)] [] _ _;refine qz (T:=TTab) qc func127 DG rfl rfl rfl ?_;refine Kq ?_;refine uO H1 ?_;refine Kt ?_;rw[lc];refine qe ?_;refine uB ?_;refine uZ [1,2,10,11,12] [(1,1),(2,2),(8000,900)] ?_;refine qG (fun m st=>∃(k:Nat) (kk:Int),k<=s.cases.length/\m=s.cases.length-k/\kk=k/\((k<=i/\st=⟨41,[(1,.ptr 1 0),(2,.ptr 2 0),(10,.row 900),(11,.p (pI s.cases.length)),(12,.p (pI kk))],[(1,.cells (stoS s.tick (.row 900) (.p (jX s.revs)) (.p (qan s.ntcs)) (.p (zi s.roles)) s.pol s.ver)),(2,.cells zeroS),(900,.row 91 5 (s.cases.map Cas.pv))]⟩)\/(∃(c:Cas),i<k/\s.cases[i]?=some c/\st=⟨41,[(1,.ptr 1 0),(2,.ptr 2 0),(10,.row 900),(11,.p (pI s.cases.length)),(12,.p (pI kk))],[(1,.cells (stoS s.tick (.row 900) (.p (jX s.revs)) (.p (qan s.ntcs)) (.p (zi s.roles)) s.pol s.ver)),(2,.cells zeroS),(900,.rws 91 5 ((s.cases.take i).map Cas.pv) (casS c 904 905) ((s.cases.drop (i+1)).map Cas.pv)),(904,.row 96 4 (c.fields.map Fld.pv)),(905,.row 119 3 (c.log.map Hap.pv))]⟩))) s.cases.length ⟨0,0,Yl _,rfl,rfl,.inl ⟨Yl _,rfl⟩⟩ ?_
 rintro m st ⟨k,_,hk,rfl,rfl,(⟨hki,rfl⟩|⟨c,hki,hci,rfl⟩)⟩
 · refine uA ?_;refine uC (fun hlt=>?_) (fun hlt=>?_)
   · refine qh ?_;simp only[Yf]at hlt;have hlt':k<s.cases.length:=by omega
     obtain⟨x,hx⟩:∃x,x=s.cases[k]:=⟨_,rfl⟩;have hxo:=hs.each _ (Yn hlt');rw[<-hx]at hxo;refine Kx ?_;refine qm qc rfl rfl Dz rfl ?_;refine U4 ?_;refine Ko ?_;by_cases he:k=i
     · subst he;have HO:=ownc_h x (by have:=hxo.fields;omega) (by have:=hxo.log;omega);refine SW.wk (wk_rws (k:=900) ((s.cases.take k).map Cas.pv) [x.pv] ((s.cases.drop (k+1)).map Cas.pv) rfl (by rw[hx,<-List.map_singleton (f:=Cas.pv),<-Yr,<-Yr];congr 1;rw[List.singleton_append,<-Xf hlt',Xq]) rfl) ?_;refine Uv ?_;refine VN ?_;refine VO ?_;refine VP ?_;refine VQ ?_;refine Gy ?_;refine Gr ?_;refine qi (i:=5) (K:=[900]) DG DG rfl rfl (qf qc rfl (by simp only[Yb,Yd,Yo];show _/\_<((min k s.cases.length+(5/5+(s.cases.length-(k+1))):Nat):Int);omega)) rfl ?_;refine G9 ?_;refine qd rfl rfl rfl (jU qc rfl rfl rfl rfl rfl (k:=0) (by rw[Yb,Yd,Int.toNat_natCast];congr 1;omega) rfl rfl rfl rfl (by show 0+5<=5;omega) ?_);refine XH ?_;refine SW.wk (qj [1,2,10,11,12] [(1,1),(2,2),(900,900),(22000,904),(22001,905)] rfl rfl) ?_;refine ?fk5_111;rotate_left;refine uA ?_;refine⟨_,_,?_,qj [1,2,10,11,12] [(1,1),(2,2),(900,900),(904,904),(905,905)] rfl rfl,k+1,_,hlt',rfl,qq hlt' DP,.inr ⟨x,by omega,by rw[Yj hlt',hx],rfl⟩⟩;omega
     · have HO:=ownCP_h x hxo;refine Uv ?_;refine VN ?_;refine VO ?_;refine VP ?_;refine VQ ?_;refine Gy ?_;refine Gr ?_;refine qi (i:=5) (K:=[900]) DG DG rfl rfl (qf qc rfl Dz) rfl ?_;refine G9 ?_;refine Rg ?_;refine XH ?_;refine SW.wk (qj [1,2,10,11,12] [(1,1),(2,2),(900,900)] rfl rfl) ?_;refine ?fk5_129;rotate_left;change SW _ _ _ ⟨41,[(1,.ptr 1 0),(2,.ptr 2 0),(10,.row 900),(11,.p (pI s.cases.length)),(12,.p (pI k))],[(1,.cells (stoS s.tick (.row 900) (.p (jX s.revs)) (.p (qan s.ntcs)) (.p (zi s.roles)) s.pol s.ver)),(2,.cells zeroS),(900,.row 91 5 (set1 (s.cases.map Cas.pv) (k:Int).toNat 0 x.pv))]⟩;rw[show set1 (s.cases.map Cas.pv) (k:Int).toNat 0 x.pv=s.cases.map Cas.pv by
        unfold set1;rw[set_map hlt' 0 _ Df]]
       refine uA ?_;refine⟨_,_,?_,qj [1,2,10,11,12] [(1,1),(2,2),(900,900)] rfl rfl,k+1,_,hlt',rfl,qq hlt' DP,.inl ⟨by omega,rfl⟩⟩;omega
   · refine qC ?_;simp only[Yh]at hlt;have hnone:s.cases[i]?=none:=YT DP
     rw[show casB s.cases i 0 4 5=[(0,.row 91 5 (s.cases.map Cas.pv))]by unfold casB;rw[hnone]];refine GD ?_;refine LQ ?_;refine Vb ?_;refine X5 ?_;refine XX ?_;refine Ug ?_;refine Rb ?_;refine GX ?_;refine VS ?_;refine Vo ?_;refine GY ?_;refine Un ?_;refine Kb ?_;refine K6 ?_;refine Uf ?_;refine Vr ?_;refine Xy ?_;refine Gf ?_;refine KE ?_;refine XH ?_;refine SW.wk (qj [1,2] [(1,1),(2,2),(900,900),(27000,27000),(30000,30000),(33000,33000)] rfl rfl) ?_;refine ?fk7_154;rotate_left;refine uR ?_;refine uO H5 ?_;refine Kt ?_;refine Ks ?_;exact⟨Or.inr rfl,_,_,[(900,0),(27000,1),(30000,2),(33000,3)],_,Wk.refl _,rfl,rfl,.refl _,rfl,rfl⟩
 · have lt:(s.cases.take i).length=i:=by rw[Yd];have:=(Yq.1 hci).1;omega
   refine uA ?_;refine uC (fun hlt=>?_) (fun hlt=>?_)
   · refine qh ?_;simp only[Yf]at hlt;have hlt':k<s.cases.length:=by omega
     obtain⟨x,hx⟩:∃x,x=s.cases[k]:=⟨_,rfl⟩;have hxo:=hs.each _ (Yn hlt');rw[<-hx]at hxo;have HO:=ownCP_h x hxo;have hdr:s.cases.drop k=x::s.cases.drop (k+1):=by rw[Xf hlt',hx]
     obtain⟨M,hM⟩:∃M,M=(s.cases.drop (i+1)).take (k-(i+1)):=⟨_,rfl⟩;have hMl:M.length=k-(i+1):=by rw[hM,Yd,Yo];omega
     have hMx:s.cases.drop (i+1)=M++x::s.cases.drop (k+1):=by
      rw[hM,<-hdr];have h9:=Xq (k-(i+1)) (s.cases.drop (i+1));rw[List.drop_drop,show i+1+(k-(i+1))=k by omega]at h9;exact h9.symm
     obtain⟨A,hAA⟩:∃A,A=casS c 904 905++rowF (M.map Cas.pv):=⟨_,rfl⟩;have lA:A.length=(M.length+1)*5:=by rw[hAA,Ya,rowF_cas];show 5+_=_;omega
     have lx:(x.pv.map SV.p).length=5:=rfl;have hrw:rowF ((s.cases.drop (i+1)).map Cas.pv)=rowF (M.map Cas.pv)++(x.pv.map SV.p++rowF ((s.cases.drop (k+1)).map Cas.pv)):=by rw[hMx,Yr,rowF_app];rfl
     have hgo:rwC ((s.cases.take i).map Cas.pv) (casS c 904 905) ((s.cases.drop (i+1)).map Cas.pv)=rwC ((s.cases.take i).map Cas.pv) (A++x.pv.map SV.p) ((s.cases.drop (k+1)).map Cas.pv):=by
      unfold rwC;rw[hrw,hAA];simp only[YU]
     have hback:rwC ((s.cases.take i).map Cas.pv) ((A++x.pv.map SV.p).take A.length++x.pv.map SV.p++(A++x.pv.map SV.p).drop (A.length+(x.pv.map SV.p).length)) ((s.cases.drop (k+1)).map Cas.pv)=rwC ((s.cases.take i).map Cas.pv) (casS c 904 905) ((s.cases.drop (i+1)).map Cas.pv):=by
      rw[List.take_left,<-Ya,List.drop_length,Y9,hgo]
     have hbd:(0:Int)<=(k:Int)/\(k:Int)<((((s.cases.take i).map Cas.pv).length+((A++x.pv.map SV.p).length/5+((s.cases.drop (k+1)).map Cas.pv).length):Nat):Int):=by
      rw[Yb,lt,Ya,lA,lx,Yb,Yo,show((M.length+1)*5+5)/5=M.length+2 by omega];omega
     have hoff:(k:Int).toNat*5=((s.cases.take i).map Cas.pv).length*5+A.length:=by rw[Yb,lt,lA,Int.toNat_natCast];omega
     have hone:∀y∈(s.cases.take i).map Cas.pv++(s.cases.drop (i+1)).map Cas.pv,y.length=5/\∀q∈y,oneP q=true:=fun y hy=>by rw[<-Yr]at hy;exact qbq _ y hy
     have hone2:∀y∈(s.cases.take i).map Cas.pv++(s.cases.drop (k+1)).map Cas.pv,y.length=5/\∀q∈y,oneP q=true:=fun y hy=>by rw[<-Yr]at hy;exact qbq _ y hy
     refine SW.wk (wk_part (k:=900) ((s.cases.take i).map Cas.pv) (A++x.pv.map SV.p) ((s.cases.drop (k+1)).map Cas.pv) (M.length+2) rfl hgo hone2 (by rw[Ya,lA,lx];omega)) ?_;refine Kx ?_;refine qm qc rfl rfl (hbd) rfl ?_;refine qm qc rfl (wf A.length rfl rfl rfl rfl (fun y hy=>(qbq _ y hy).1) hoff (s:=.p (.agg x.pv)) (by rw[List.drop_left];rfl) (by rw[Ya];omega)) True.intro rfl ?_;refine Ko ?_;refine Uv ?_;refine VN ?_;refine VO ?_;refine VP ?_;refine VQ ?_;refine Gy ?_;refine Gr ?_;refine qi (i:=5) (K:=[900]) DG DG rfl rfl (qf qc rfl (hbd)) rfl ?_;refine G9 ?_;refine qd rfl rfl rfl (jU qc rfl rfl rfl rfl rfl (k:=A.length) hoff rfl rfl rfl rfl (by rw[Ya,lx];exact Yk _) ?_);refine XH ?_;refine SW.wk ((wk_part (k:=900) ((s.cases.take i).map Cas.pv) (casS c 904 905) ((s.cases.drop (i+1)).map Cas.pv) 1 rfl hback hone rfl).trans (qj [1,2,10,11,12] [(1,1),(2,2),(900,900),(904,904),(905,905)] rfl rfl)) ?_;refine ?fk5_228;rotate_left;refine uA ?_;refine⟨_,_,?_,qj [1,2,10,11,12] [(1,1),(2,2),(900,900),(904,904),(905,905)] rfl rfl,k+1,_,hlt',rfl,qq hlt' DP,.inr ⟨c,by omega,hci,rfl⟩⟩;omega
   · refine qC ?_;simp only[Yh]at hlt;rw[show casB s.cases i 0 4 5=[(0,.rws 91 5 ((s.cases.take i).map Cas.pv) (casS c 4 5) ((s.cases.drop (i+1)).map Cas.pv)),(4,.row 96 4 (c.fields.map Fld.pv)),(5,.row 119 3 (c.log.map Hap.pv))]by unfold casB;rw[hci]];refine GD ?_;refine LQ ?_;refine Vb ?_;refine X5 ?_;refine XX ?_;refine Ug ?_;refine Rb ?_;refine GX ?_;refine VS ?_;refine Vo ?_;refine GY ?_;refine Un ?_;refine Kb ?_;refine K6 ?_;refine Uf ?_;refine Vr ?_;refine Xy ?_;refine Gf ?_;refine KE ?_;refine XH ?_;refine SW.wk (qj [1,2] [(1,1),(2,2),(900,900),(904,904),(905,905),(27000,27000),(30000,30000),(33000,33000)] rfl rfl) ?_;refine ?fk7_248;rotate_left;refine uR ?_;refine uO H5 ?_;refine Kt ?_;refine Ks ?_;exact⟨Or.inr rfl,_,_,[(900,0),(904,4),(905,5),(27000,1),(30000,2),(33000,3)],_,Wk.refl _,rfl,rfl,.refl _,rfl,rfl⟩
theorem ownG_h (s:Sto) (hs:s.Ok):Holds prog 72 [.agg s.pv] (.agg (stoS s.tick (.p (wc s.cases)) (.row 1) (.row 2) (.p (zi s.roles)) s.pol s.ver)) [(1,.row 69 7 (s.revs.map Rev.pv)),(2,.row 123 3 (s.ntcs.map Ntc.pv))]:=by
 have h1:=hs.cases;have h2:=hs.revs;have h3:=hs.ntcs;have H1:=cas_cl s.cases DP;have H2:=rev_cl s.revs DP;have H3:=ntc_cl s.ntcs DP;have lc:(s.cases.map Cas.pv).length=s.cases.length:=by simp
 refine Vd ?_;show HoldsW _ _ [.p (.agg s.pv)] [] _ _;refine qz (T:=TTab) qc func72 DG rfl rfl rfl ?_;refine uA ?_;refine GD ?_;refine LQ ?_;refine Vb ?_;refine X5 ?_;refine XX ?_;refine Ug ?_;refine Rb ?_;refine GX ?_;refine VS ?_;refine Vo ?_;refine GY ?_;refine Un ?_;refine qd rfl rfl rfl (qt rfl rfl rfl rfl (H1) rfl rfl rfl ?_);refine K6 ?_;refine Uf ?_;refine Vr ?_;refine Xy ?_;refine Gf ?_;refine KE ?_;refine XH ?_;refine SW.wk (qj [1,2] [(1,1),(2,2),(8000,901),(11000,902),(14000,900)] rfl rfl) ?_;refine ?fk1_22;rotate_left;refine uR ?_;rw[lc];refine qe ?_;refine uB ?_;refine uZ [1,2,18,19,20] [(1,1),(2,2),(900,900),(901,901),(902,902)] ?_;refine qG (fun m st=>∃(k:Nat) (kk:Int),k<=s.cases.length/\m=s.cases.length-k/\kk=k/\st=⟨35,[(1,.ptr 1 0),(2,.ptr 2 0),(18,.row 900),(19,.p (pI s.cases.length)),(20,.p (pI kk))],[(1,.cells (stoS s.tick (.row 900) (.row 901) (.row 902) (.p (zi s.roles)) s.pol s.ver)),(2,.cells zeroS),(900,.row 91 5 (s.cases.map Cas.pv)),(901,.row 69 7 (s.revs.map Rev.pv)),(902,.row 123 3 (s.ntcs.map Ntc.pv))]⟩) s.cases.length ⟨0,0,Yl _,rfl,rfl,rfl⟩ ?_;rintro m st ⟨k,_,hk,rfl,rfl,rfl⟩;refine uA ?_;refine uC (fun hlt=>?_) (fun hlt=>?_)
 · refine qh ?_;simp only[Yf]at hlt;have hlt':k<s.cases.length:=by omega
   obtain⟨x,hx⟩:∃x,x=s.cases[k]:=⟨_,rfl⟩;have hxo:=hs.each _ (Yn hlt');rw[<-hx]at hxo;have HO:=(hap_cl x.log (by have:=hxo.log;omega)).row_sl;refine Kx ?_;refine qm qc rfl rfl Dz rfl ?_;refine U4 ?_;refine Ko ?_;refine R7 ?_;refine VN ?_;refine VO ?_;refine VP ?_;refine VQ ?_;refine Mb ?_;refine Vo ?_;refine Gr ?_;refine qi (i:=6) (K:=[900]) DG DG rfl rfl (qf qc rfl Dz) rfl ?_;refine Mc ?_;refine Un ?_;refine Rg ?_;refine XH ?_;refine SW.wk (qj [1,2,18,19,20] [(1,1),(2,2),(900,900),(901,901),(902,902)] rfl rfl) ?_;refine ?fk5_70;rotate_left;change SW _ _ _ ⟨35,[(1,.ptr 1 0),(2,.ptr 2 0),(18,.row 900),(19,.p (pI s.cases.length)),(20,.p (pI k))],[(1,.cells (stoS s.tick (.row 900) (.row 901) (.row 902) (.p (zi s.roles)) s.pol s.ver)),(2,.cells zeroS),(900,.row 91 5 (set1 (s.cases.map Cas.pv) (k:Int).toNat 4 [hapsP x.log])),(901,.row 69 7 (s.revs.map Rev.pv)),(902,.row 123 3 (s.ntcs.map Ntc.pv))]⟩;rw[show set1 (s.cases.map Cas.pv) (k:Int).toNat 4 [hapsP x.log]=s.cases.map Cas.pv by
    unfold set1;rw[set_map hlt' 4 _ Df]]
   refine uA ?_;refine⟨_,_,?_,qj [1,2,18,19,20] [(1,1),(2,2),(900,900),(901,901),(902,902)] rfl rfl,k+1,_,hlt',rfl,qq hlt' DP,rfl⟩;omega
 · refine qC ?_;refine SW.wk (qu (k:=900) rfl) ?_;refine uR ?_;refine Ks ?_;exact⟨Or.inr rfl,_,_,[(901,1),(902,2)],_,Wk.refl _,rfl,rfl,.refl _,rfl,rfl⟩
def casL (c:Cas) (g:Nat):List SV:=[.p (pS c.id),.p (pS c.owner),.p (pS c.state),.p (fldsP c.fields),.row g]
def gO (k:Nat) (s:Sto) (i:Nat):List (Nat×Box):=match s.cases[i]? with
 |some c=>[(1000000,.cells (stoS s.tick (.row (k+3)) (.row (k+1)) (.row (k+2)) (.p (zi s.roles)) s.pol s.ver)),(k+1,.row 69 7 (s.revs.map Rev.pv)),(k+2,.row 123 3 (s.ntcs.map Ntc.pv)),(k+3,.rws 91 5 ((s.cases.take i).map Cas.pv) (casL c (k+4)) ((s.cases.drop (i+1)).map Cas.pv)),(k+4,.row 119 3 (c.log.map Hap.pv))]
 |none=>[(1000000,.cells (stoS s.tick (.p (wc s.cases)) (.row (k+1)) (.row (k+2)) (.p (zi s.roles)) s.pol s.ver)),(k+1,.row 69 7 (s.revs.map Rev.pv)),(k+2,.row 123 3 (s.ntcs.map Ntc.pv))]
theorem open_h (s:Sto) (hr:s.revs.length<=10000000) (i:Nat) (o:Opn) (reason:DT):HoldsW prog 73 [.ptr 1000000 0,.p (.agg o.pv),.p (pS reason)] (gO 1000000 s i) (.tup []) (gO 0 (opnR s o reason) i):=by
 have A:=act_h o.kind;have lr:(s.revs.map Rev.pv).length=s.revs.length:=by simp
 have e9:(opnR s o reason).revs.map Rev.pv=s.revs.map Rev.pv++[[pI (s.revs.length+1),pI s.tick,pS o.subj,pS o.case_,pS (actC o.kind),pS reason,pB true]]:=by unfold opnR;rw[Yr];rfl
 unfold gO;rw[e9];rw[show(opnR s o reason).cases=s.cases from rfl,show(opnR s o reason).tick=s.tick from rfl,show(opnR s o reason).ntcs=s.ntcs from rfl,show(opnR s o reason).roles=s.roles from rfl,show(opnR s o reason).pol=s.pol from rfl,show(opnR s o reason).ver=s.ver from rfl];cases hc:s.cases[i]? with
 |none=>
  simp only[Nat.reduceAdd];refine qE (ts:=[]) func73 DG rfl rfl rfl ?_;refine uA ?_;(repeat refine qA ?_);refine qD 29 rfl DG ?_
  refine RB ?_;refine RC ?_;refine RD ?_;refine RE ?_;refine RG ?_;refine RH ?_;refine RI ?_;refine RJ ?_;refine RK ?_;refine RM ?_;rw[lr];refine Rj ?_;refine MU ?_;refine Rk ?_;refine Rl ?_;refine Rm ?_;refine Rn ?_;refine Ro ?_;refine Rq ?_;refine Rr ?_;refine Rt ?_;refine Ru ?_;refine Rv ?_;refine Rw ?_;refine qg 21 DG ?_;refine qd rfl rfl rfl (qt rfl rfl rfl rfl (A) rfl rfl rfl ?_);refine Rx ?_;refine UA ?_;refine Xy ?_;refine UB ?_;refine XI ?_;refine GV ?_;refine GW ?_;refine qg 28 DG ?_;refine Lz ?_;exact⟨Or.inl rfl,_,_,[(1000000,1000000),(31,1),(1000002,2)],Wk.refl _,rfl,rfl,rfl,rfl⟩
 |some c=>
  simp only[Nat.reduceAdd];refine qE (ts:=[]) func73 DG rfl rfl rfl ?_;refine uA ?_;(repeat refine qA ?_);refine qD 29 rfl DG ?_
  refine RB ?_;refine RC ?_;refine RD ?_;refine RE ?_;refine RG ?_;refine RH ?_;refine RI ?_;refine RJ ?_;refine RK ?_;refine RM ?_;rw[lr];refine Rj ?_;refine MU ?_;refine Rk ?_;refine Rl ?_;refine Rm ?_;refine Rn ?_;refine Ro ?_;refine Rq ?_;refine Rr ?_;refine Rt ?_;refine Ru ?_;refine Rv ?_;refine Rw ?_;refine qg 21 DG ?_;refine qd rfl rfl rfl (qt rfl rfl rfl rfl (A) rfl rfl rfl ?_);refine Rx ?_;refine UA ?_;refine Xy ?_;refine UB ?_;refine XI ?_;refine GV ?_;refine GW ?_;refine qg 28 DG ?_;refine Lz ?_;exact⟨Or.inl rfl,_,_,[(1000000,1000000),(31,1),(1000002,2),(1000003,3),(1000004,4)],Wk.refl _,rfl,rfl,rfl,rfl⟩
theorem sameI_lt {l:List Cas} {id:DT} {c:Cas} (h:l[qR l id]?=some c):qR l id<l.length:=(List.getElem?_eq_some_iff.1 h).1
theorem jd {l:List Cas} {i:Nat} {c:Cas} (h:l[i]?=some c):(l.take i).map Cas.pv++([c.pv]++(l.drop (i+1)).map Cas.pv)=l.map Cas.pv:=by
 obtain⟨hi,he⟩:=Yq.1 h;rw[<-List.map_singleton (f:=Cas.pv),<-Yr,<-Yr];congr 1;rw[List.singleton_append,<-he,<-Xf hi,Xq]
theorem gO_keep (k:Nat) (s:Sto) (o:Opn) (what:DT) (h:s.cases[qR s.cases o.case_]?=none):logR s o what=s:=by
 unfold logR;split
 · rfl
 · rw[h]
theorem gO_log (k:Nat) (s:Sto) (o:Opn) (what:DT) {c:Cas} (h:s.cases[qR s.cases o.case_]?=some c) (h6:o.kind≠6):
 gO k (logR s o what) (qR s.cases o.case_)=[(1000000,.cells (stoS s.tick (.row (k+3)) (.row (k+1)) (.row (k+2)) (.p (zi s.roles)) s.pol s.ver)),(k+1,.row 69 7 (s.revs.map Rev.pv)),(k+2,.row 123 3 (s.ntcs.map Ntc.pv)),(k+3,.rws 91 5 ((s.cases.take (qR s.cases o.case_)).map Cas.pv) (casL c (k+4)) ((s.cases.drop (qR s.cases o.case_+1)).map Cas.pv)),(k+4,.row 119 3 (c.log.map Hap.pv++[[pI s.tick,pS o.subj,pS what]]))]:=by
 have hl:logR s o what={s with cases:=s.cases.set (qR s.cases o.case_) (hapC s c o.subj what)}:=by unfold logR;rw[Yc h6,h]
 have hlt:=sameI_lt h;generalize qR s.cases o.case_=i at*;rw[hl];unfold gO;dsimp only;rw[List.getElem?_set_self hlt,List.take_set_of_le (Yk _),List.drop_set_of_lt DP];dsimp only;rw[show(hapC s c o.subj what).log.map Hap.pv=c.log.map Hap.pv++[[pI s.tick,pS o.subj,pS what]]by unfold hapC;rw[Yr];rfl];rfl
theorem logs_h (s:Sto) (hs:s.cases.length<=1000) (hl:∀c∈s.cases,c.log.length<=10000000) (o:Opn) (what:DT):HoldsW prog 135 [.ptr 1000000 0,.p (.agg o.pv),.p (pS what)] (gO 1000000 s (qR s.cases o.case_)) (.tup []) (gO 0 (logR s o what) (qR s.cases o.case_)):=by
 have H:=cas_ix s.cases DP _ _ (fun c=>decide (c.id=o.case_)) (fun c=>logs1_h o c);rw[show List.findIdx (fun c=>decide (c.id=o.case_)) s.cases=qR s.cases o.case_ from rfl]at H;cases hc:s.cases[qR s.cases o.case_]? with
 |none=>
  rw[gO_keep 0 s o what hc];rw[Yc (by have:=List.getElem?_eq_none_iff.1 hc;omega)]at H;unfold gO;rw[hc];simp only[Nat.reduceAdd];refine qE (ts:=[]) func135 DG rfl rfl rfl ?_;refine LC ?_;refine Kt ?_;refine Ko ?_;refine uC (fun hx=>?_) (fun hx=>?_);rotate_left
  · cases hx
  refine uQ ?_;exact uF [(1000000,1000000),(1000001,1),(1000002,2)]
 |some c=>
  have hlt:=sameI_lt hc;have hsp:=jd hc;have hcl:=hl c (YI hc);rw[Yi hlt,show wc s.cases=.sl 5 (s.cases.map Cas.pv)from rfl,<-hsp]at H;have h6f:=fun h6=>gO_log 0 s o what hc h6
  have hkeep:o.kind=6->logR s o what=s:=fun h=>by unfold logR;rw[Yi h]
  have hg:∀k,gO k s (qR s.cases o.case_)=[(1000000,.cells (stoS s.tick (.row (k+3)) (.row (k+1)) (.row (k+2)) (.p (zi s.roles)) s.pol s.ver)),(k+1,.row 69 7 (s.revs.map Rev.pv)),(k+2,.row 123 3 (s.ntcs.map Ntc.pv)),(k+3,.rws 91 5 ((s.cases.take (qR s.cases o.case_)).map Cas.pv) (casL c (k+4)) ((s.cases.drop (qR s.cases o.case_+1)).map Cas.pv)),(k+4,.row 119 3 (c.log.map Hap.pv))]:=fun k=>by unfold gO;rw[hc]
  have lt:(s.cases.take (qR s.cases o.case_)).length=qR s.cases o.case_:=by rw[Yd];omega
  rw[hg 1000000];have hone:∀x∈[c.pv],x.length=5/\∀q∈x,oneP q=true:=fun x hx=>by rw[YA]at hx;subst hx;exact wN c
  generalize hR:logR s o what=R at*;generalize qR s.cases o.case_=i at*;simp only[Nat.reduceAdd]at*;refine qE (ts:=[]) func135 DG rfl rfl rfl ?_;refine Kq ?_;refine qy rfl (qP ((qu (k:=1000004) rfl).trans ((qaT (k:=1000003) [c.pv] rfl rfl hone).trans (qu (k:=1000003) rfl))) rfl rfl rfl rfl H rfl rfl ?_);refine Kt ?_;rw[show decide ((i:Int)<0)=false by rw[Yh];omega];refine Ko ?_;by_cases h6:o.kind=6
  · have:=hkeep h6;subst this;rw[show(o.kind==6)=true by simp[h6]];refine uC (fun hx=>?_) (fun hx=>?_);rotate_left
    · cases hx
    refine uQ ?_;rw[hg 0];exact uF [(1000000,1000000),(1000001,1),(1000002,2),(1000003,3),(1000004,4)]
  · rw[h6f h6];rw[show(o.kind==6)=false by simp[h6]];refine uC (fun hx=>?_) (fun hx=>?_)
    · cases hx
    refine qh ?_;have hbd:(0:Int)<=(i:Int)/\(i:Int)<((((s.cases.take i).map Cas.pv).length+((casL c 1000004).length/5+((s.cases.drop (i+1)).map Cas.pv).length):Nat):Int):=by
     rw[Yb,lt,show(casL c 1000004).length=5 from rfl];omega
    have hoff:(i:Int).toNat*5+4=((s.cases.take i).map Cas.pv).length*5+4:=by rw[Yb,lt,Int.toNat_natCast]
    refine uR ?_;refine qm qc rfl rfl (hbd) rfl ?_;refine Ko ?_;(repeat refine qA ?_);refine qD 18 rfl DG ?_
    refine RN ?_;refine RO ?_;refine RP ?_;refine RQ ?_;refine Uz ?_;refine RR ?_;refine RS ?_;refine RT ?_;refine RU ?_;refine RV ?_;refine qi (i:=10) (K:=[1000004]) DG DG rfl rfl (qf qc rfl De) rfl ?_;refine qi (i:=11) (K:=[1000004]) DG DG rfl rfl (qf qc rfl De) rfl ?_;refine qi (i:=12) (K:=[1000004]) DG DG rfl rfl (qf qc rfl De) rfl ?_;refine Vv ?_;refine Xy ?_;refine XT ?_;refine XI ?_;refine qi (i:=15) (K:=[1000003,1000004]) DG DG rfl rfl (qf qc rfl De) rfl ?_;refine qi (i:=16) (K:=[1000003,1000004]) DG DG rfl rfl (qf qc rfl De) rfl ?_;refine qg 17 DG ?_;refine Me ?_;refine XH ?_;exact⟨Or.inl rfl,_,_,[(1000000,1000000),(1000001,1),(1000002,2),(1000003,3),(41,4)],Wk.refl _,rfl,rfl,rfl,rfl⟩
def gS (k:Nat) (s:Sto) (i:Nat) (c:Cas):List (Nat×Box):=[(1000000,.cells (stoS s.tick (.row (k+3)) (.row (k+1)) (.row (k+2)) (.p (zi s.roles)) s.pol s.ver)),(k+1,.row 69 7 (s.revs.map Rev.pv)),(k+2,.row 123 3 (s.ntcs.map Ntc.pv)),(k+3,.rws 91 5 ((s.cases.take i).map Cas.pv) (casL c (k+4)) ((s.cases.drop (i+1)).map Cas.pv)),(k+4,.row 119 3 (c.log.map Hap.pv))]
def gN (k:Nat) (s:Sto):List (Nat×Box):=[(1000000,.cells (stoS s.tick (.p (wc s.cases)) (.row (k+1)) (.row (k+2)) (.p (zi s.roles)) s.pol s.ver)),(k+1,.row 69 7 (s.revs.map Rev.pv)),(k+2,.row 123 3 (s.ntcs.map Ntc.pv))]
theorem gO_some {k:Nat} {s:Sto} {i:Nat} {c:Cas} (h:s.cases[i]?=some c):gO k s i=gS k s i c:=by unfold gO;rw[h];rfl
theorem wU {k:Nat} {s:Sto} {i:Nat} (h:s.cases[i]?=none):gO k s i=gN k s:=by unfold gO;rw[h];rfl
theorem dutR_snoc (s:Sto) (o:Opn) (l:List Obli) (d:Bool) {k:Nat} (hk:k<l.length):dutR s o (l.take (k+1)) d=dutyR o d (dutR s o (l.take k) d) l[k]:=by
 unfold dutR;rw[Ym hk,List.foldl_append];rfl
theorem log_cases (s:Sto) (o:Opn) (w:DT):(logR s o w).cases=s.cases\/∃c,s.cases[qR s.cases o.case_]?=some c/\(logR s o w).cases=s.cases.set (qR s.cases o.case_) (hapC s c o.subj w):=by
 unfold logR;split
 · exact .inl rfl
 · cases h:s.cases[qR s.cases o.case_]? with
   |none=>exact .inl rfl
   |some c=>exact .inr ⟨c,rfl,rfl⟩
theorem sameI_set {l:List Cas} {id:DT} {c c':Cas} (h:l[qR l id]?=some c) (hi:c'.id=c.id):qR (l.set (qR l id) c') id=qR l id:=by
 obtain⟨hlt,he⟩:=Yq.1 h;have h1:decide (c.id=id)=true:=by rw[<-he];exact List.findIdx_getElem (p:=fun c:Cas=>decide (c.id=id)) (w:=hlt)
 have h2:∀j (hj:j<l.length),j<qR l id->decide (l[j].id=id)=false:=fun j hj hlt2=>by
  have:=List.not_of_lt_findIdx (p:=fun c:Cas=>decide (c.id=id)) hlt2;simpa using this
 clear he h
 generalize qR l id=k at*;unfold qR;refine(Xx (by rw[Xh];exact hlt)).2 ⟨?_,fun j hj=>?_⟩
 · rw[List.getElem_set_self,hi];exact h1
 · rw[List.getElem_set_ne DP];exact h2 j DP hj
theorem log_same (s:Sto) (o:Opn) (w:DT):qR (logR s o w).cases o.case_=qR s.cases o.case_:=by
 rcases log_cases s o w with h|⟨c,h1,h2⟩
 · rw[h]
 · rw[h2];exact sameI_set h1 rfl
structure DutI (s t:Sto) (o:Opn) (n:Nat):Prop where
 same:qR t.cases o.case_=qR s.cases o.case_
 len:t.cases.length=s.cases.length
 revs:t.revs.length<=s.revs.length+n
 ntcs:t.ntcs.length<=s.ntcs.length+n
 logs:∀B:Nat,(∀c∈s.cases,c.log.length<=B)->∀c∈t.cases,c.log.length<=B+n
theorem DutI.step {s t:Sto} {o:Opn} {n:Nat} (h:DutI s t o n) (d:Bool) (x:Obli):DutI s (dutyR o d t x) o (n+1):=by
 have h0:DutI s t o (n+1):=⟨h.same,h.len,by have:=h.revs;omega,by have:=h.ntcs;omega,fun B hB c hc=>by have:=h.logs B hB c hc;omega⟩;unfold dutyR;split
 · refine⟨(log_same _ _ _).trans h.same,?_,?_,?_,?_⟩
   · rcases log_cases t o x.arg with e|⟨c,e1,e2⟩
     · rw[e];exact h.len
     · rw[e2,Xh];exact h.len
   · have:(logR t o x.arg).revs=t.revs:=by unfold logR;split;rfl;split<;>rfl
     rw[this];exact h0.revs
   · have:(logR t o x.arg).ntcs=t.ntcs:=by unfold logR;split;rfl;split<;>rfl
     rw[this];exact h0.ntcs
   · intro B hB c hc;rcases log_cases t o x.arg with e|⟨c0,e1,e2⟩
     · rw[e]at hc;exact h0.logs B hB c hc
     · rw[e2]at hc;rcases List.mem_or_eq_of_mem_set hc with hc|rfl
       · exact h0.logs B hB c hc
       · have:=h.logs B hB c0 (YI e1);show(c0.log++[_]).length<=_;rw[Ya,YF];omega
 · split
   · refine⟨h.same,h.len,?_,h0.ntcs,h0.logs⟩;show(t.revs++[_]).length<=_;rw[Ya,YF];have:=h.revs;omega
   · split
     · refine⟨h.same,h.len,h0.revs,?_,h0.logs⟩;show(t.ntcs++[_]).length<=_;rw[Ya,YF];have:=h.ntcs;omega
     · exact h0
theorem dutI:∀(s:Sto) (o:Opn) (l:List Obli) (d:Bool) (k:Nat),k<=l.length->DutI s (dutR s o (l.take k) d) o k
 |s,o,l,d,0,_=>⟨rfl,rfl,Yk _,Yk _,fun B hB c hc=>hB c hc⟩
 |s,o,l,d,k+1,h=>by rw[dutR_snoc s o l d DP];exact(dutI s o l d k DP).step d _
structure Sto.Len (s:Sto):Prop where
 cases:s.cases.length<=1000
 each:∀c∈s.cases,c.log.length<=1001
 revs:s.revs.length<=1001
 ntcs:s.ntcs.length<=1001
theorem dt_log {o:Opn} {d:Bool} {t:Sto} {x:Obli} (h:x.kind=1/\d=true):dutyR o d t x=logR t o x.arg:=by unfold dutyR;rw[if_pos h]
theorem dt_open {o:Opn} {d:Bool} {t:Sto} {x:Obli} (h:¬(x.kind=1/\d=true)) (h3:x.kind=3):dutyR o d t x=opnR t o x.arg:=by unfold dutyR;rw[if_neg h,if_pos h3]
theorem dt_ntc {o:Opn} {d:Bool} {t:Sto} {x:Obli} (h4:x.kind=4):dutyR o d t x={t with ntcs:=t.ntcs++[⟨t.tick,o.case_,x.arg⟩]}:=by unfold dutyR;rw[if_neg DP,if_neg DP,if_pos h4]
theorem dt_no {o:Opn} {d:Bool} {t:Sto} {x:Obli} (h:¬(x.kind=1/\d=true)) (h3:x.kind≠3) (h4:x.kind≠4):dutyR o d t x=t:=by unfold dutyR;rw[if_neg h,if_neg h3,if_neg h4]
theorem gduties_h (s:Sto) (hs:s.Len) (o:Opn) (l:List Obli) (hn:l.length<=1000000) (done:Bool) (i:Nat) (hi:done=true->i=qR s.cases o.case_):HoldsW prog 77 [.ptr 1000000 0,.p (.agg o.pv),.p (zh l),.p (pB done)] (gO 1000000 s i) (.tup []) (gO 0 (dutR s o l done) i):=by
 have hs1:=hs.cases;have hs3:=hs.revs;have hno:∀{t:Sto} {n:Nat},DutI s t o n->(t.cases[i]?=none↔s.cases[i]?=none):=fun h=>by rw[List.getElem?_eq_none_iff,List.getElem?_eq_none_iff,h.len]
 cases hcs:s.cases[i]? with
 |none=>
  rw[wU hcs];have ll:(l.map Obli.pv).length=l.length:=by simp
  refine qE (ts:=[]) func77 DG rfl rfl rfl ?_;refine Kq ?_;rw[ll];refine qe ?_;refine uB ?_;refine uZ [0,3,5,10,11,12] [(5,5),(1000000,1000000),(1000001,1),(1000002,2)] ?_;refine qG (fun m st=>∃(k:Nat) (kk:Int) (t:Sto),k<=l.length/\m=l.length-k/\kk=k/\t=dutR s o (l.take k) done/\st=⟨60,[(0,.ptr 1000000 0),(3,.p (pB done)),(5,.ptr 5 0),(10,.p (zh l)),(11,.p (pI l.length)),(12,.p (pI kk))],(5,.cells (o.pv.map .p))::gN 0 t⟩) l.length ⟨0,0,s,Yl _,rfl,rfl,rfl,rfl⟩ ?_;rintro m st ⟨k,_,t,hk,rfl,rfl,ht,rfl⟩;have hD:=dutI s o l done k hk;rw[<-ht]at hD;refine uA ?_;refine uC (fun hlt=>?_) (fun hlt=>?_)
  · refine qh ?_;simp only[Yf]at hlt;have hlt':k<l.length:=by omega
    have hst:=dutR_snoc s o l done hlt';rw[<-ht]at hst;obtain⟨x,hx⟩:∃x,x=l[k]:=⟨_,rfl⟩;rw[<-hx]at hst;have hr1:=hD.revs;have hr2:=hD.ntcs;have hr3:=hD.len;refine Kx ?_;refine Ux ?_;refine V1 ?_;refine Lx ?_;refine KB ?_;rw[show(bif x.kind==1 then done else false)=decide (x.kind=1/\done=true)by cases done<;>by_cases h:x.kind=1<;>simp[h]];by_cases h1:x.kind=1/\done=true
    · rw[Yz h1];rw[dt_log h1]at hst;refine uC (fun hc=>?_) (fun hc=>?_);rotate_left
      · cases hc
      have HL:=logs_h t DP (fun c hc=>by have:=hD.logs 1001 (fun c hc=>hs.each c hc) c hc;omega) o x.arg;rw[hD.same,<-hi h1.2]at HL;rw[wU ((hno hD).2 hcs),wU (by have:=(hno (hD.step done x)).2 hcs;rw[dt_log h1]at this;exact this)]at HL;simp only[gN,Nat.reduceAdd];refine uR ?_;refine uW [(1000000,1000000),(1,1000001),(2,1000002)] HL ?_;refine KF ?_;refine⟨_,_,?_,qj [0,3,5,10,11,12] [(5,5),(1000000,1000000),(28001,1),(28002,2)] rfl rfl,k+1,_,_,hlt',rfl,qq hlt' DP,hst.symm,rfl⟩;omega
    · rw[YB h1];refine uC (fun hc=>?_) (fun hc=>?_)
      · cases hc
      refine uA ?_;by_cases h3:x.kind=3
      · rw[show(x.kind==3)=true by simp[h3]];rw[dt_open h1 h3]at hst;refine uC (fun hc=>?_) (fun hc=>?_);rotate_left
        · cases hc
        have HO:=open_h t EY i o x.arg;rw[wU ((hno hD).2 hcs),wU (show(opnR t o x.arg).cases[i]?=none from(hno hD).2 hcs)]at HO
        simp only[gN,Nat.reduceAdd];refine uR ?_;refine uW [(1000000,1000000),(1,1000001),(2,1000002)] HO ?_;refine KF ?_;refine⟨_,_,?_,qj [0,3,5,10,11,12] [(5,5),(1000000,1000000),(37001,1),(37002,2)] rfl rfl,k+1,_,_,hlt',rfl,qq hlt' DP,hst.symm,rfl⟩;omega
      · rw[show(x.kind==3)=false by simp[h3]];refine uC (fun hc=>?_) (fun hc=>?_)
        · cases hc
        refine uA ?_;by_cases h4:x.kind=4
        · rw[show(x.kind==4)=true by simp[h4]];rw[dt_ntc h4]at hst;refine uC (fun hc=>?_) (fun hc=>?_);rotate_left
          · cases hc
          have hs2:=hs.ntcs;simp only[gN,Nat.reduceAdd];(repeat refine qA ?_);refine qD 19 rfl DG ?_
          refine Mt ?_;refine Mu ?_;refine Mv ?_;refine Mw ?_;refine Mx ?_;refine My ?_;refine Mz ?_;refine MA ?_;refine MB ?_;refine MC ?_;refine Mf ?_;refine Mg ?_;refine Mh ?_;refine Mi ?_;refine KL ?_;refine XI ?_;refine Rc ?_;refine Re ?_;refine qg 18 DG ?_;refine Lz ?_;refine SW.wk (qj [0,3,5,10,11,12] [(5,5),(1000000,1000000),(1,1),(56,2)] rfl rfl) ?_;refine ?fk9_112;rotate_left;refine uA ?_;refine⟨_,_,?_,qj [0,3,5,10,11,12] [(5,5),(1000000,1000000),(1,1),(2,2)] rfl rfl,k+1,_,_,hlt',rfl,qq hlt' DP,hst.symm,?_⟩
          · omega
          · rw[show(t.ntcs++[(⟨t.tick,o.case_,x.arg⟩:Ntc)]).map Ntc.pv=t.ntcs.map Ntc.pv++[[pI t.tick,pS o.case_,pS x.arg]]from Yr ..];rfl
        · rw[show(x.kind==4)=false by simp[h4]];rw[dt_no h1 h3 h4]at hst;refine uC (fun hc=>?_) (fun hc=>?_)
          · cases hc
          refine Kw ?_;refine⟨_,_,?_,qj [0,3,5,10,11,12] [(5,5),(1000000,1000000),(1,1),(2,2)] rfl rfl,k+1,_,_,hlt',rfl,qq hlt' DP,hst.symm,rfl⟩;omega
  · refine qC ?_;simp only[Yh]at hlt;have hkk:k=l.length:=by omega
    subst hkk;rw[Yu]at ht;rw[<-ht,wU ((hno hD).2 hcs)];exact⟨Or.inl rfl,_,_,[(1000000,1000000),(1,1),(2,2)],Wk.refl _,rfl,rfl,rfl,rfl⟩
 |some c=>
  rw[gO_some hcs];have ll:(l.map Obli.pv).length=l.length:=by simp
  refine qE (ts:=[]) func77 DG rfl rfl rfl ?_;refine Kq ?_;rw[ll];refine qe ?_;refine uB ?_;refine uZ [0,3,5,10,11,12] [(5,5),(1000000,1000000),(1000001,1),(1000002,2),(1000003,3),(1000004,4)] ?_;refine qG (fun m st=>∃(k:Nat) (kk:Int) (t:Sto) (d:Cas),k<=l.length/\m=l.length-k/\kk=k/\t=dutR s o (l.take k) done/\t.cases[i]?=some d/\st=⟨60,[(0,.ptr 1000000 0),(3,.p (pB done)),(5,.ptr 5 0),(10,.p (zh l)),(11,.p (pI l.length)),(12,.p (pI kk))],(5,.cells (o.pv.map .p))::gS 0 t i d⟩) l.length ⟨0,0,s,c,Yl _,rfl,rfl,rfl,hcs,rfl⟩ ?_
  rintro m st ⟨k,_,t,d,hk,rfl,rfl,ht,hd,rfl⟩;have hD:=dutI s o l done k hk;rw[<-ht]at hD;refine uA ?_;refine uC (fun hlt=>?_) (fun hlt=>?_)
  · refine qh ?_;simp only[Yf]at hlt;have hlt':k<l.length:=by omega
    have hst:=dutR_snoc s o l done hlt';rw[<-ht]at hst;obtain⟨x,hx⟩:∃x,x=l[k]:=⟨_,rfl⟩;rw[<-hx]at hst;have hr1:=hD.revs;have hr2:=hD.ntcs;have hr3:=hD.len;refine Kx ?_;refine Ux ?_;refine V1 ?_;refine Lx ?_;refine KB ?_;rw[show(bif x.kind==1 then done else false)=decide (x.kind=1/\done=true)by cases done<;>by_cases h:x.kind=1<;>simp[h]];by_cases h1:x.kind=1/\done=true
    · rw[Yz h1];rw[dt_log h1]at hst;refine uC (fun hc=>?_) (fun hc=>?_);rotate_left
      · cases hc
      have HL:=logs_h t DP (fun c hc=>by have:=hD.logs 1001 (fun c hc=>hs.each c hc) c hc;omega) o x.arg;rw[hD.same,<-hi h1.2]at HL;obtain⟨d',hd'⟩:∃d',(logR t o x.arg).cases[i]?=some d':=Option.ne_none_iff_exists'.1 (fun h=>by have:=(hno (hD.step done x)).1 (by rw[dt_log h1];exact h);rw[hcs]at this;cases this);rw[gO_some hd,gO_some hd']at HL
      simp only[gS,Nat.reduceAdd];refine uR ?_;refine uW [(1000000,1000000),(1,1000001),(2,1000002),(3,1000003),(4,1000004)] HL ?_;refine KF ?_;refine⟨_,_,?_,qj [0,3,5,10,11,12] [(5,5),(1000000,1000000),(28001,1),(28002,2),(28003,3),(28004,4)] rfl rfl,k+1,_,_,d',hlt',rfl,qq hlt' DP,hst.symm,hd',rfl⟩;omega
    · rw[YB h1];refine uC (fun hc=>?_) (fun hc=>?_)
      · cases hc
      refine uA ?_;by_cases h3:x.kind=3
      · rw[show(x.kind==3)=true by simp[h3]];rw[dt_open h1 h3]at hst;refine uC (fun hc=>?_) (fun hc=>?_);rotate_left
        · cases hc
        have HO:=open_h t EY i o x.arg;rw[gO_some hd,gO_some (show(opnR t o x.arg).cases[i]?=some d from hd)]at HO
        simp only[gS,Nat.reduceAdd];refine uR ?_;refine uW [(1000000,1000000),(1,1000001),(2,1000002),(3,1000003),(4,1000004)] HO ?_;refine KF ?_;refine⟨_,_,?_,qj [0,3,5,10,11,12] [(5,5),(1000000,1000000),(37001,1),(37002,2),(37003,3),(37004,4)] rfl rfl,k+1,_,_,d,hlt',rfl,qq hlt' DP,hst.symm,hd,rfl⟩;omega
      · rw[show(x.kind==3)=false by simp[h3]];refine uC (fun hc=>?_) (fun hc=>?_)
        · cases hc
        refine uA ?_;by_cases h4:x.kind=4
        · rw[show(x.kind==4)=true by simp[h4]];rw[dt_ntc h4]at hst;refine uC (fun hc=>?_) (fun hc=>?_);rotate_left
          · cases hc
          have hs2:=hs.ntcs;simp only[gS,Nat.reduceAdd];(repeat refine qA ?_);refine qD 19 rfl DG ?_
          refine Mt ?_;refine Mu ?_;refine Mv ?_;refine Mw ?_;refine Mx ?_;refine My ?_;refine Mz ?_;refine MA ?_;refine MB ?_;refine MC ?_;refine Mf ?_;refine Mg ?_;refine Mh ?_;refine Mi ?_;refine KL ?_;refine XI ?_;refine Rc ?_;refine Re ?_;refine qg 18 DG ?_;refine Lz ?_;refine SW.wk (qj [0,3,5,10,11,12] [(5,5),(1000000,1000000),(1,1),(56,2),(3,3),(4,4)] rfl rfl) ?_;refine ?fk9_242;rotate_left;refine uA ?_;refine⟨_,_,?_,qj [0,3,5,10,11,12] [(5,5),(1000000,1000000),(1,1),(2,2),(3,3),(4,4)] rfl rfl,k+1,_,_,d,hlt',rfl,qq hlt' DP,hst.symm,hd,?_⟩
          · omega
          · rw[show(t.ntcs++[(⟨t.tick,o.case_,x.arg⟩:Ntc)]).map Ntc.pv=t.ntcs.map Ntc.pv++[[pI t.tick,pS o.case_,pS x.arg]]from Yr ..];rfl
        · rw[show(x.kind==4)=false by simp[h4]];rw[dt_no h1 h3 h4]at hst;refine uC (fun hc=>?_) (fun hc=>?_)
          · cases hc
          refine Kw ?_;refine⟨_,_,?_,qj [0,3,5,10,11,12] [(5,5),(1000000,1000000),(1,1),(2,2),(3,3),(4,4)] rfl rfl,k+1,_,_,d,hlt',rfl,qq hlt' DP,hst.symm,hd,rfl⟩;omega
  · refine qC ?_;simp only[Yh]at hlt;have hkk:k=l.length:=by omega
    subst hkk;rw[Yu]at ht;rw[<-ht,gO_some hd];exact⟨Or.inl rfl,_,_,[(1000000,1000000),(1,1),(2,2),(3,3),(4,4)],Wk.refl _,rfl,rfl,rfl,rfl⟩
theorem mks_d:((0,2):Mk)∈mks:=by simp[mks]
theorem mks_n:((0,0):Mk)∈mks:=by simp[mks]
theorem breaks_h (s:Sto) (hs:s.Ok) (o:Opn) (m:Mk) (hm:m∈mks):Holds prog 71 [.agg s.pv,.agg o.pv,mkP m] (.p (pB (brkC s o m))) []:=by
 have hr:=hs.roles;have hv:=hs.revs;have HH:=hass_h s DP o.subj jw;have HL:=lateC_h s o.subj DP;unfold brkC;rw[<-zt hm mks_d,<-zt hm mks_n];refine qo (ts:=[6]) func71 DG rfl rfl rfl ?_;refine LM ?_;refine qV rfl rfl rfl rfl (HH) rfl rfl ?_;refine Xz ?_;refine Xz ?_;refine qV rfl rfl rfl rfl (HL) rfl rfl ?_;refine Xz ?_;refine Ky ?_;refine Lg ?_;change(bif (bif (bif o.glass then(bif mkE m (0,2)then true else mkE m (0,0))else false)then hasC s.roles o.subj jw else false)then !lateC s o.subj else false)=_;cases o.glass<;>cases mkE m (0,2)<;>cases mkE m (0,0)<;>cases hasC s.roles o.subj jw<;>rfl
def hapO (k:Nat) (s:Sto) (i:Nat) (cs:List SV) (g:List Hap):List (Nat×Box):=[(1000001,.row 69 7 (s.revs.map Rev.pv)),(1000002,.row 123 3 (s.ntcs.map Ntc.pv)),(1000003,.rws 91 5 ((s.cases.take i).map Cas.pv) cs ((s.cases.drop (i+1)).map Cas.pv)),(k,.row 119 3 (g.map Hap.pv))]
theorem happens_h (s:Sto) (i:Nat) (hi:i<s.cases.length) (c:Cas) (hl:c.log.length<=10000000) (actor what:DT):
 HoldsW prog 128 [.agg (stoS s.tick (.row 1000003) (.row 1000001) (.row 1000002) (.p (zi s.roles)) s.pol s.ver),.ptr 1000003 (i*5),.p (pS actor),.p (pS what)] (hapO 1000004 s i (casL c 1000004) c.log) (.tup []) (hapO 4 s i (casL c 4) (hapC s c actor what).log):=by
 have lt:(s.cases.take i).length=i:=by rw[Yd];omega
 have hoff:i*5+4=((s.cases.take i).map Cas.pv).length*5+4:=by rw[Yb,lt]
 unfold hapO;rw[show(hapC s c actor what).log.map Hap.pv=c.log.map Hap.pv++[[pI s.tick,pS actor,pS what]]by unfold hapC;rw[Yr];rfl];refine qE (ts:=[]) func128 DG rfl rfl rfl ?_;refine uA ?_;refine GD ?_;refine RN ?_;refine RO ?_;refine RP ?_;refine RQ ?_;refine Uz ?_;refine RR ?_;refine RS ?_;refine RT ?_;refine RU ?_;refine RV ?_;refine K6 ?_;refine UX ?_;refine XI ?_;refine qi (i:=12) (K:=[1000003,1000004]) DG DG rfl rfl (qf qc rfl De) rfl ?_;refine qi (i:=13) (K:=[1000003,1000004]) DG DG rfl rfl (qf qc rfl De) rfl ?_;refine XT ?_;refine Me ?_;refine XH ?_;exact⟨Or.inl rfl,_,_,[(1000001,1000001),(1000002,1000002),(1000003,1000003),(19,4)],Wk.refl _,rfl,rfl,rfl,rfl⟩
theorem happensN_h (s:Sto) (id owner state actor what:DT):
 HoldsW prog 128 [.agg (stoS s.tick (.row 1000003) (.row 1000001) (.row 1000002) (.p (zi s.roles)) s.pol s.ver),.ptr 1000005 0,.p (pS actor),.p (pS what)]
  [(1000001,.row 69 7 (s.revs.map Rev.pv)),(1000002,.row 123 3 (s.ntcs.map Ntc.pv)),(1000003,.row 91 5 (s.cases.map Cas.pv)),(1000005,.cells [.p (pS id),.p (pS owner),.p (pS state),.p nilV,.p nilV])] (.tup [])
  [(1000001,.row 69 7 (s.revs.map Rev.pv)),(1000002,.row 123 3 (s.ntcs.map Ntc.pv)),(1000003,.row 91 5 (s.cases.map Cas.pv)),(1000005,.cells [.p (pS id),.p (pS owner),.p (pS state),.p nilV,.row 4]),(4,.row 119 3 [[pI s.tick,pS actor,pS what]])]:=by
 refine qE (ts:=[]) func128 DG rfl rfl rfl ?_;refine uA ?_;refine GD ?_;refine LQ ?_;refine Gg ?_;refine Vb ?_;refine X5 ?_;refine MF ?_;refine XX ?_;refine Ug ?_;refine Vu ?_;refine VS ?_;refine K6 ?_;refine UX ?_;refine qd rfl rfl rfl (act_append_nil qc rfl rfl rfl rfl rfl rfl rfl rfl rfl rfl rfl rfl rfl rfl rfl (by simp only[Yg,List.length_nil];omega) ?_);refine qi (i:=12) (K:=[1000005]) DG DG rfl rfl (qf qc rfl De) rfl ?_;refine qi (i:=13) (K:=[1000005]) DG DG rfl rfl (qf qc rfl De) rfl ?_;refine KE ?_;refine XH ?_;exact⟨Or.inl rfl,_,_,[(1000001,1000001),(1000002,1000002),(1000003,1000003),(1000005,1000005),(19,4)],Wk.refl _,rfl,rfl,rfl,rfl⟩
def InsF:Prop:=∀(l:List Fld) (i:Nat) (x:Fld),i<l.length->l.length<=1000->HoldsW prog 192 [.row 1000000,.p (pI i),.row 1000001] [(1000000,.row 96 4 (l.map Fld.pv)),(1000001,.row 96 4 [x.pv])] (.row 0) [(0,.row 96 4 ((l.take i++x::l.drop i).map Fld.pv))]
def wrtO (k:Nat) (pre post:List (List PV)) (c:Cas) (f:List Fld):List (Nat×Box):=[(1000003,.rws 91 5 pre (casS c k 1000004) post),(k,.row 96 4 (f.map Fld.pv)),(1000004,.row 119 3 (c.log.map Hap.pv))]
theorem write_h (HI:InsF) (pre post:List (List PV)) (hp:∀x∈pre,x.length=5) (c:Cas) (hf:c.fields.length<=1000) (name:DT) (v:Val):
 HoldsW prog 130 [.ptr 1000003 (pre.length*5),.p (pS name),.p (.agg v.pv)] (wrtO 1000005 pre post c c.fields) (.tup []) (wrtO 5 pre post c (wrtC c.fields name v)):=by
 have H:=fld_ix c.fields DP _ _ (fun f=>!jx f.name name) (fun f=>write1_h name f);have hoff:pre.length*5+3=pre.length*5+3:=rfl;have lf:(c.fields.map Fld.pv).length=c.fields.length:=by simp
 obtain⟨W,hW⟩:∃W,W=wrtC c.fields name v:=⟨_,rfl⟩;rw[<-hW];unfold wrtC at hW;generalize hk:c.fields.findIdx (fun f=>!jx f.name name)=k at*;unfold wrtO;cases hx:c.fields[k]? with
 |none=>
  rw[hx]at hW;simp only at hW;rw[Yc (by have:=List.getElem?_eq_none_iff.1 hx;omega)]at H;have e9:W.map Fld.pv=c.fields.map Fld.pv++[[pS name,pI v.kind,pI v.n,pS v.s]]:=by rw[hW,Yr];rfl
  rw[e9];refine qE (ts:=[]) func130 DG rfl rfl rfl ?_;refine Kq ?_;refine qm qc rfl (wf 3 rfl rfl rfl rfl hp hoff rfl E6) True.intro rfl ?_;refine uS ?_;refine uK H ?_;refine Ko ?_;refine Kz ?_;refine uC (fun hc=>?_) (fun hc=>?_);rotate_left
  · cases hc
  (repeat refine qA ?_);refine qD 13 rfl DG ?_
  refine RW ?_;refine RX ?_;refine RY ?_;refine qi (i:=3) (K:=[1000005]) DG DG rfl rfl (qf qc rfl De) rfl ?_;refine qi (i:=4) (K:=[1000005]) DG DG rfl rfl (qf qc (wf 3 rfl rfl rfl rfl hp hoff rfl E6) True.intro) rfl ?_;refine RZ ?_;refine qi (i:=6) (K:=[1000005]) DG DG rfl rfl (qf qc rfl De) rfl ?_;refine R0 ?_;refine Un ?_;refine Xy ?_;refine Uc ?_;refine XI ?_;refine qi (i:=10) (K:=[1000003,1000005]) DG DG rfl rfl (qf qc rfl De) rfl ?_;refine qi (i:=11) (K:=[1000003,1000005]) DG DG rfl rfl (qf qc rfl De) rfl ?_;refine Vr ?_;refine Mj ?_;refine XH ?_;exact⟨Or.inl rfl,_,_,[(1000003,1000003),(38,5),(1000004,1000004)],Wk.refl _,rfl,rfl,rfl,rfl⟩
 |some f=>
  rw[hx]at hW;simp only at hW;obtain⟨hlt,hfe⟩:=Yq.1 hx;rw[Yi hlt]at H;refine qE (ts:=[]) func130 DG rfl rfl rfl ?_;refine Kq ?_;refine qm qc rfl (wf 3 rfl rfl rfl rfl hp hoff rfl E6) True.intro rfl ?_;refine uS ?_;refine uK H ?_;refine Ko ?_;refine Kz ?_;rw[show decide ((k:Int)<0)=false by rw[Yh];omega];refine uC (fun hc=>?_) (fun hc=>?_)
  · cases hc
  (repeat refine qA ?_);refine qD 11 rfl DG ?_
  refine LQ ?_;refine Gg ?_;refine qi (i:=3) (K:=[]) DG DG rfl rfl (qf qc (wf 3 rfl rfl rfl rfl hp hoff rfl E6) True.intro) rfl ?_;refine X5 ?_;refine qi (i:=5) (K:=[]) DG DG rfl rfl (qf qc rfl (by rw[lf];omega)) rfl ?_;refine XX ?_;refine qi (i:=7) (K:=[]) DG DG rfl rfl (qf qc (opR_loadL (x:=f.pv) rfl rfl rfl rfl (by rw[Int.toNat_natCast,YH,hx];rfl) rfl) EJ) rfl ?_;refine Vu ?_;refine VS ?_;refine Ms ?_;refine XH ?_;refine SW.wk (qj [0,4,5,6,41] [(4,4),(5,5),(1000003,1000003),(1000004,1000004),(1000005,1000005)] rfl rfl) ?_;refine ?fk5_81;rotate_left;rw[beqB];by_cases hn:f.name=name
  · rw[Yi hn]at hW;rw[Yz hn];rw[show W.map Fld.pv=set1 (c.fields.map Fld.pv) (k:Int).toNat 1 [pI v.kind,pI v.n,pS v.s]by
     rw[hW,List.map_set];unfold set1;rw[qw hlt,hfe,Int.toNat_natCast];rfl]
    refine uC (fun hc=>?_) (fun hc=>?_);rotate_left
    · cases hc
    refine R7 ?_;refine RW ?_;refine RX ?_;refine RY ?_;refine qi (i:=3) (K:=[1000005]) DG DG rfl rfl (qf qc (wf 3 rfl rfl rfl rfl hp hoff rfl E6) True.intro) rfl ?_;refine qi (i:=4) (K:=[1000005]) DG DG rfl rfl (qf qc rfl De) rfl ?_;refine RZ ?_;refine qi (i:=6) (K:=[1000005]) DG DG rfl rfl (qf qc rfl (by rw[lf];omega)) rfl ?_;refine R0 ?_;refine Un ?_;refine qd rfl rfl rfl (zu qc rfl rfl rfl rfl rfl EJ rfl rfl rfl rfl rfl ?_);refine XH ?_;exact⟨Or.inl rfl,_,_,[(1000003,1000003),(1000005,5),(1000004,1000004)],Wk.refl _,rfl,rfl,rfl,rfl⟩
  · rw[Yc hn]at hW;rw[YB hn];have HX:=HI c.fields k ⟨name,v⟩ hlt hf;rw[<-hW]at HX;refine uC (fun hc=>?_) (fun hc=>?_)
    · cases hc
    (repeat refine qA ?_);refine qD 14 rfl DG ?_
    refine qi (i:=0) (K:=[1000005,22]) DG DG rfl rfl (qf qc rfl De) rfl ?_;refine qi (i:=1) (K:=[1000005,22]) DG DG rfl rfl (qf qc rfl De) rfl ?_;refine qi (i:=2) (K:=[1000005,22]) DG DG rfl rfl (qf qc rfl De) rfl ?_;refine qi (i:=3) (K:=[1000005,22]) DG DG rfl rfl (qf qc rfl De) rfl ?_;refine qi (i:=4) (K:=[1000005,22]) DG DG rfl rfl (qf qc (wf 3 rfl rfl rfl rfl hp hoff rfl E6) True.intro) rfl ?_;refine qi (i:=5) (K:=[1000005,22]) DG DG rfl rfl (qf qc rfl De) rfl ?_;refine qi (i:=6) (K:=[1000005,22]) DG DG rfl rfl (qf qc rfl De) rfl ?_;refine qi (i:=7) (K:=[1000005,22]) DG DG rfl rfl (qf qc rfl De) rfl ?_;refine qi (i:=8) (K:=[1000005,22]) DG DG rfl rfl (qf qc rfl De) rfl ?_;refine Uc ?_;refine Xy ?_;refine VY ?_;refine qd rfl rfl rfl (act_call_W [(1000005,1000000),(22,1000001)] rfl rfl rfl rfl rfl rfl (HX) rfl rfl rfl ?_);refine qi (i:=11) (K:=[1000003,1000005,22]) DG DG rfl rfl (qf qc rfl De) rfl ?_;refine qi (i:=12) (K:=[1000003,1000005,22]) DG DG rfl rfl (qf qc rfl De) rfl ?_;refine Vv ?_;refine Mj ?_;refine XH ?_;exact⟨Or.inl rfl,_,_,[(1000003,1000003),(24000,5),(1000004,1000004)],Wk.refl _,rfl,rfl,rfl,rfl⟩
theorem noPol_cv:Cv (.agg [pS ⟨#[]⟩,pB false,pI 0,nilV,nilV,nilV,nilV]) (.agg (polP noPol)):=by
 rw[qY];exact CvL.agg (.cons (.refl _) (.cons (.refl _) (.cons (.refl _) (.cons (.nil 1) (.cons (.nil 5) (.cons (.nil 7) (.cons (.nil 3) .nil)))))))
theorem parse_h (b:Bs) (hb:b.length<=100000):Holds prog 26 [pL b] (.tup [.p (.agg (polP (zk b).1)),.p (pI (zk b).2.1),.p (pI (zk b).2.2)]) []:=by
 by_cases hlong:4096<b.length
 · have HL:=all_long b hlong hb;have e:zk b=(noPol,6,4096):=by unfold zk;rw[Yi hlong]
   rw[e];refine Vd ?_;show HoldsW _ _ [.p (pL b)] [] _ _;refine M0 ?_;refine Kq ?_;refine uK HL ?_;refine Ku ?_;refine uC (fun hc=>?_) (fun hc=>?_);rotate_left
   · cases hc
   refine Kp ?_;exact Gt
 · have hb4:b.length<=4096:=by omega
   have HL:=all_l b hb4;obtain⟨R,hR⟩:∃R,R=zk b:=⟨_,rfl⟩;rw[<-hR];unfold zk at hR;rw[Yc hlong]at hR;cases hl:lexL b with
   |error e=>
    rw[hl]at hR HL;simp only at hR;subst hR;refine Vd ?_;show HoldsW _ _ [.p (pL b)] [] _ _;refine M0 ?_;refine Kq ?_;refine uK HL ?_;refine Ku ?_;refine uC (fun hc=>?_) (fun hc=>?_);rotate_left
    · cases hc
    refine Kp ?_;exact Gt
   |ok l=>
    rw[hl]at hR HL;simp only at hR;have ht:=tokOk_of hb4 hl;have hne:0<l.length:=by
     have:=lexF_ok_ne hl;cases l with
     |nil=>exact absurd rfl this
     |cons=>simp
    have hP:=policy_ok ht 5 DP DP;have H1:=hP.1 ⟨0,0,0,0⟩ hne;have s1:=(hP.2 ⟨0,0,0,0⟩ hne).1.2;have hf:=polF_fit 4 (pol_fitQ ht 5 ⟨0,0,0,0⟩);generalize polQ l 5 ⟨0,0,0,0⟩=r at*;obtain⟨p,s⟩:=r;simp only at H1 s1 hf hR;have HR:=right_h p hf;have HH:=qbh ht s s1;have HS:=qsyn_h ht s s1;obtain⟨S1,hS1⟩:∃S1,S1=if(ze l s).kind=7 then s else synQ l s:=⟨_,rfl⟩
    have e1:S1.at_=s.at_:=by
     rw[hS1];split
     · rfl
     · exact jv _ _ _
    rw[<-hS1]at hR;have HW:=qwrong_h (l:=l) S1 5 (b.length:Int);have h1:(pI (zW p))=pI (zW p):=rfl;clear h1
    rw[qY]at H1 HR;refine Vd ?_;show HoldsW _ _ [.p (pL b)] [] _ _;refine M0 ?_;refine Kq ?_;refine uO HL ?_;refine Ku ?_;refine uC (fun hc=>?_) (fun hc=>?_)
    · cases hc
    refine qh ?_;refine SW.wk (qu (k:=13000) rfl) ?_;refine Kq ?_;refine uW [(23,1000000)] H1 ?_;refine Ko ?_;refine uZ [0,2,3,4,8,9] [(2,2),(9,9),(23,23)] ?_;change SW _ _ _ ⟨61,[(0,.p (pL b)),(2,.ptr 2 0),(3,.p (pI 0)),(4,.p (pI 0)),(8,.ptr 23 0),(9,.ptr 9 0)],[(2,.cells [.p (pS ⟨#[]⟩),.p (pB false),.p (pI 0),.p nilV,.p nilV,.p nilV,.p nilV]),(9,.cells [.p (pS p.id),.p (pB p.set),.p (pI p.alg),.p (tgtP p.target),.p (.sl 5 (p.rules.map zo)),.p (.sl 7 (p.kids.map polP)),.p (zh p.obls)])]++[(23,.cells [.p (.sl 4 (l.map Tok.pv)),.p (pI (s.at_:Int)),.p (pI s.rules),.p (pI s.bad),.p (pI s.place)])]⟩;refine uR ?_;refine uW [(23,1000000)] HH ?_;refine Ko ?_;refine Ut ?_;refine SW.mono (Q:=fun e st=>e=.normal/\Wk st ⟨61,[(0,.p (pL b)),(2,.ptr 2 0),(3,.p (pI 0)),(4,.p (pI 0)),(8,.ptr 23 0),(9,.ptr 9 0)],[(2,.cells [.p (pS ⟨#[]⟩),.p (pB false),.p (pI 0),.p nilV,.p nilV,.p nilV,.p nilV]),(9,.cells [.p (pS p.id),.p (pB p.set),.p (pI p.alg),.p (tgtP p.target),.p (.sl 5 (p.rules.map zo)),.p (.sl 7 (p.kids.map polP)),.p (zh p.obls)])]++[(23,.cells [.p (.sl 4 (l.map Tok.pv)),.p (pI (S1.at_:Int)),.p (pI S1.rules),.p (pI S1.bad),.p (pI S1.place)])]⟩) ?_ ?_
    · by_cases hk:(ze l s).kind=7
      · rw[Yi hk]at hS1;subst S1;rw[show((ze l s).kind !=7)=false by simp[hk]];refine uC (fun hc=>?_) (fun hc=>?_)
        · cases hc
        refine qh ?_;exact GB
      · rw[Yc hk]at hS1;subst S1;rw[show((ze l s).kind !=7)=true by simp[hk]];refine uC (fun hc=>?_) (fun hc=>?_);rotate_left
        · cases hc
        refine uR ?_;refine uW [(23,1000000)] HS ?_;refine qe ?_;exact GB
    rintro e st ⟨rfl,hw⟩;refine V3 ?_;clear hw hS1 e1
    obtain⟨S2,hS2⟩:∃S2,S2=if S1.bad=0/\zW p≠0 then jq S1 5 (b.length:Int)else S1:=⟨_,rfl⟩
    rw[<-hS2]at hR;refine Ut ?_;refine SW.mono (Q:=fun e st=>e=.normal/\Wk st ⟨61,[(0,.p (pL b)),(2,.ptr 2 0),(3,.p (pI 0)),(4,.p (pI 0)),(8,.ptr 23 0),(9,.ptr 9 0),(41,.p (pB (decide (S1.bad=0/\zW p≠0))))],[(2,.cells [.p (pS ⟨#[]⟩),.p (pB false),.p (pI 0),.p nilV,.p nilV,.p nilV,.p nilV]),(9,.cells [.p (pS p.id),.p (pB p.set),.p (pI p.alg),.p (tgtP p.target),.p (.sl 5 (p.rules.map zo)),.p (.sl 7 (p.kids.map polP)),.p (zh p.obls)])]++[(23,.cells [.p (.sl 4 (l.map Tok.pv)),.p (pI (S1.at_:Int)),.p (pI S1.rules),.p (pI S1.bad),.p (pI S1.place)])]⟩) ?_ ?_
    · refine uR ?_;by_cases hb0:S1.bad=0
      · rw[show(S1.bad==0)=true by simp[hb0]];refine uS ?_;refine KV ?_;rw[show decide (S1.bad=0/\zW p≠0)=(zW p !=0)by simp only[hb0,true_and];rw[YO];simp];exact⟨rfl,qj [0,2,3,4,8,9,41] [(2,2),(9,9),(23,23)] rfl rfl⟩
      · rw[show(S1.bad==0)=false by simp[hb0]];refine Ko ?_;rw[show decide (S1.bad=0/\zW p≠0)=false by simp[hb0]];exact⟨rfl,qj [0,2,3,4,8,9,41] [(2,2),(9,9),(23,23)] rfl rfl⟩
    rintro e st ⟨rfl,hw⟩;refine V3 ?_;clear hw
    refine Ut ?_;refine SW.mono (Q:=fun e st=>e=.normal/\Wk st ⟨61,[(0,.p (pL b)),(2,.ptr 2 0),(3,.p (pI 0)),(4,.p (pI 0)),(8,.ptr 23 0),(9,.ptr 9 0)],[(2,.cells [.p (pS ⟨#[]⟩),.p (pB false),.p (pI 0),.p nilV,.p nilV,.p nilV,.p nilV]),(9,.cells [.p (pS p.id),.p (pB p.set),.p (pI p.alg),.p (tgtP p.target),.p (.sl 5 (p.rules.map zo)),.p (.sl 7 (p.kids.map polP)),.p (zh p.obls)])]++[(23,.cells [.p (.sl 4 (l.map Tok.pv)),.p (pI (S2.at_:Int)),.p (pI S2.rules),.p (pI S2.bad),.p (pI S2.place)])]⟩) ?_ ?_
    · by_cases hk:S1.bad=0/\zW p≠0
      · rw[Yi hk]at hS2;subst S2;rw[Yz hk];refine uC (fun hc=>?_) (fun hc=>?_);rotate_left
        · cases hc
        refine uR ?_;refine uW [(23,1000000)] HW ?_;refine qe ?_;exact GB
      · rw[Yc hk]at hS2;subst S2;rw[YB hk];refine uC (fun hc=>?_) (fun hc=>?_)
        · cases hc
        refine qh ?_;exact GB
    rintro e st ⟨rfl,hw⟩;refine V3 ?_;clear hw hS2
    refine uR ?_;refine qe ?_;by_cases hb2:S2.bad≠0
    · rw[Yi hb2]at hR;rw[show(S2.bad !=0)=true by simpa using hb2];refine uC (fun hc=>?_) (fun hc=>?_);rotate_left
      · cases hc
      refine uD [2] [1,3,5,7,9,11,13,15,17,18,21,23] ?_;refine qT ?_;refine uQ ?_;rw[hR];exact Gt
    · rw[Yc hb2]at hR;rw[show(S2.bad !=0)=false by simpa using hb2];refine uC (fun hc=>?_) (fun hc=>?_)
      · cases hc
      refine Kv ?_;refine Ks ?_;rw[hR,qY];exact⟨Or.inr rfl,_,_,[],_,Wk.refl _,rfl,rfl,.three (.refl _) (.refl _) (.refl _),rfl,rfl⟩
def InsC:Prop:=∀(l:List Cas) (i:Nat) (id owner state:DT) (g:List (List PV)),i<=l.length->l.length<=1000->HoldsW prog 129 [.row 1000000,.p (pI i),.row 1000001]
 [(1000000,.row 91 5 (l.map Cas.pv)),(1000001,.rws 91 5 [] [.p (pS id),.p (pS owner),.p (pS state),.p nilV,.row 1000002] []),(1000002,.row 119 3 g)] (.row 0)
 [(0,.rws 91 5 ((l.take i).map Cas.pv) [.p (pS id),.p (pS owner),.p (pS state),.p (fldsP []),.row 2] ((l.drop i).map Cas.pv)),(2,.row 119 3 g)]
def stR (s:Sto) (i:Nat):SV:=match s.cases[i]? with
 |some _=>.agg (stoS s.tick (.row 3) (.row 1) (.row 2) (.p (zi s.roles)) s.pol s.ver)
 |none=>.agg (stoS s.tick (.p (wc s.cases)) (.row 1) (.row 2) (.p (zi s.roles)) s.pol s.ver)
def stW (s:Sto) (i:Nat):List (Nat×Box):=match s.cases[i]? with
 |some c=>[(1,.row 69 7 (s.revs.map Rev.pv)),(2,.row 123 3 (s.ntcs.map Ntc.pv)),(3,.rws 91 5 ((s.cases.take i).map Cas.pv) (casL c 4) ((s.cases.drop (i+1)).map Cas.pv)),(4,.row 119 3 (c.log.map Hap.pv))]
 |none=>[(1,.row 69 7 (s.revs.map Rev.pv)),(2,.row 123 3 (s.ntcs.map Ntc.pv))]
theorem bytesLess_irr:∀l:List UInt8,Op.bytesLess l l=false
 |[]=>rfl
 |a::l=>by
  have ih:=bytesLess_irr l;simp[Op.bytesLess,ih]
theorem lessB_irr (s:DT):jx s s=false:=bytesLess_irr s.toList
theorem zO {l:List Cas} {id:DT} {c:Cas} (h:wa l id=some c):qR l id=jG l id:=by
 obtain⟨hk,he,_,hi⟩:=zQ h;unfold qR;refine(Xx hk).2 ⟨by rw[he];exact Yz hi,fun j hj=>?_⟩;have:=List.not_of_lt_findIdx (p:=fun c:Cas=>!jx c.id id) hj;rw[Yh];intro h2;rw[h2,lessB_irr]at this;cases this
theorem done2_h (s:Sto) (hs:s.Ok) (o:Opn) (ho:o.Ok) (hr:rdyC s o=0) (hk:o.kind=2) (c:Cas) (hc:wa s.cases o.case_=some c):Holds prog 74 [.agg s.pv,.agg o.pv] (stR s (qR s.cases o.case_)) (stW s (qR s.cases o.case_)):=by
 have hcs:=hs.cases;have HO:=ownS_h s hs (qR s.cases o.case_);have HR:=qaq s hs o ho;rw[hr]at HR;have HF:=find_h s DP o.case_;rw[<-zO hc]at HF;obtain⟨hkk,hee,_,_⟩:=zQ hc;rw[<-zO hc]at hkk;have hsome:s.cases[qR s.cases o.case_]?=some c:=by rw[zO hc];rw[Yj (by rw[<-zO hc];exact hkk)];rw[hee]
 have hsp:=jd hsome;generalize qR s.cases o.case_=i at*;unfold stR stW;unfold casB at HO;rw[hsome]at HO⊢;have hone:∀x∈[c.pv],x.length=5/\∀q∈x,oneP q=true:=fun x hx=>by rw[YA]at hx;subst hx;exact wN c
 rw[show s.pv=stoP s.tick (.sl 5 ((s.cases.take i).map Cas.pv++([c.pv]++(s.cases.drop (i+1)).map Cas.pv))) (jX s.revs) (qan s.ntcs) (zi s.roles) s.pol s.ver by rw[hsp];rfl]at HF;simp only[Y5,Xe]at HO;refine Vd ?_;show HoldsW _ _ [.p (.agg s.pv),.p (.agg o.pv)] [] _ _;refine K9 ?_;refine uC (fun hx=>?_) (fun hx=>?_)
 · cases hx
 refine qh ?_;refine SW.wk ((qu (k:=14003) rfl).trans (qu (k:=14004) rfl)) ?_;refine uR ?_;refine qy rfl (qP ((qu (k:=14005) rfl).trans ((qaT (k:=14000) [c.pv] rfl rfl hone).trans ((qu (k:=14000) rfl).trans ((qu (k:=14001) rfl).trans (qu (k:=14002) rfl))))) rfl rfl rfl rfl HF rfl rfl ?_);refine Lk ?_;refine uC (fun hx=>?_) (fun hx=>?_)
 · cases hx
 refine Lu ?_;refine uC (fun hx=>?_) (fun hx=>?_)
 · cases hx
 refine LB ?_;refine uC (fun hx=>?_) (fun hx=>?_)
 · cases hx
 refine LR ?_;refine uC (fun hx=>?_) (fun hx=>?_)
 · cases hx
 refine uA ?_;refine Ua ?_;refine uC (fun hx=>?_) (fun hx=>?_)
 · cases hx
 refine uA ?_;refine M2 ?_;refine uC (fun hx=>?_) (fun hx=>?_)
 · cases hx
 refine uA ?_;rw[show(o.kind==8)=false by rw[beq_eq_false_iff_ne];omega];refine uC (fun hx=>?_) (fun hx=>?_)
 · cases hx
 refine Kv ?_;refine Ks ?_;exact Vi
theorem stR_set {s:Sto} {i:Nat} (hi:i<s.cases.length) (c2:Cas):stR {s with cases:=s.cases.set i c2} i=.agg (stoS s.tick (.row 3) (.row 1) (.row 2) (.p (zi s.roles)) s.pol s.ver):=by
 unfold stR;dsimp only;rw[List.getElem?_set_self hi]
theorem stW_set {s:Sto} {i:Nat} (hi:i<s.cases.length) (c2:Cas):stW {s with cases:=s.cases.set i c2} i=[(1,.row 69 7 (s.revs.map Rev.pv)),(2,.row 123 3 (s.ntcs.map Ntc.pv)),(3,.rws 91 5 ((s.cases.take i).map Cas.pv) (casL c2 4) ((s.cases.drop (i+1)).map Cas.pv)),(4,.row 119 3 (c2.log.map Hap.pv))]:=by
 unfold stW;dsimp only;rw[List.getElem?_set_self hi,List.take_set_of_le (Nat.le_refl _),List.drop_set_of_lt DP]
theorem onCase_some {s:Sto} {id:DT} {c:Cas} (f:Cas->Cas) (hc:wa s.cases id=some c):onCase s id f={s with cases:=s.cases.set (qR s.cases id) (f c)}:=by
 obtain⟨hk,he,_⟩:=zQ hc;unfold onCase;rw[Yj hk,he,zO hc]
theorem done4_h (s:Sto) (hs:s.Ok) (o:Opn) (ho:o.Ok) (hr:rdyC s o=0) (hk:o.kind=4) (c:Cas) (hc:wa s.cases o.case_=some c):Holds prog 74 [.agg s.pv,.agg o.pv] (stR (zl s o) (qR (zl s o).cases o.case_)) (stW (zl s o) (qR (zl s o).cases o.case_)):=by
 have hd:zl s o={s with cases:=s.cases.set (qR s.cases o.case_) (hapC s {c with state:=o.to_} o.subj o.to_)}:=by
  unfold zl;rw[Yc DP,Yc DP,Yi hk,onCase_some _ hc]
 have hsi:qR (s.cases.set (qR s.cases o.case_) (hapC s {c with state:=o.to_} o.subj o.to_)) o.case_=qR s.cases o.case_:=by
  obtain⟨h1,h2,_⟩:=zQ hc;exact sameI_set (c:=c) (by rw[zO hc,Yj h1,h2]) rfl
 rw[hd];dsimp only;rw[hsi];clear hd hsi
 have hlt0:qR s.cases o.case_<s.cases.length:=by rw[zO hc];exact(zQ hc).1
 rw[stR_set hlt0,stW_set hlt0];have hlog:=(hs.each c EB).log;have HH:=happens_h s (qR s.cases o.case_) hlt0 {c with state:=o.to_} (by show c.log.length<=_;omega) o.subj o.to_;have hcs:=hs.cases;have HO:=ownS_h s hs (qR s.cases o.case_);have HR:=qaq s hs o ho;rw[hr]at HR;have HF:=find_h s DP o.case_;rw[<-zO hc]at HF;have hsome:s.cases[qR s.cases o.case_]?=some c:=by obtain⟨h1,h2,_⟩:=zQ hc;rw[zO hc,Yj h1,h2]
 have hsp:=jd hsome;have lt0:(s.cases.take (qR s.cases o.case_)).length=qR s.cases o.case_:=by rw[Yd];omega
 generalize qR s.cases o.case_=i at*;unfold casB at HO;rw[hsome]at HO;have hone:∀x∈[c.pv],x.length=5/\∀q∈x,oneP q=true:=fun x hx=>by rw[YA]at hx;subst hx;exact wN c
 rw[show s.pv=stoP s.tick (.sl 5 ((s.cases.take i).map Cas.pv++([c.pv]++(s.cases.drop (i+1)).map Cas.pv))) (jX s.revs) (qan s.ntcs) (zi s.roles) s.pol s.ver by rw[hsp];rfl]at HF;simp only[Y5,Xe]at HO;refine Vd ?_;show HoldsW _ _ [.p (.agg s.pv),.p (.agg o.pv)] [] _ _;refine K9 ?_;refine uC (fun hx=>?_) (fun hx=>?_)
 · cases hx
 refine qh ?_;refine SW.wk ((qu (k:=14003) rfl).trans (qu (k:=14004) rfl)) ?_;refine uR ?_;refine qy rfl (qP (((qu (k:=14005) rfl).trans ((qaT (k:=14000) [c.pv] rfl rfl hone).trans ((qu (k:=14000) rfl).trans ((qu (k:=14001) rfl).trans (qu (k:=14002) rfl)))))) rfl rfl rfl rfl HF rfl rfl ?_);refine Lk ?_;refine uC (fun hx=>?_) (fun hx=>?_)
 · cases hx
 refine Lu ?_;refine uC (fun hx=>?_) (fun hx=>?_)
 · cases hx
 refine uA ?_;rw[show(o.kind==4)=true by simp[hk]];refine uC (fun hx=>?_) (fun hx=>?_);rotate_left
 · cases hx
 have hbd:(0:Int)<=(i:Int)/\(i:Int)<((((s.cases.take i).map Cas.pv).length+((casL c 14005).length/5+((s.cases.drop (i+1)).map Cas.pv).length):Nat):Int):=by
  rw[Yb,lt0,show(casL c 14005).length=5 from rfl];omega
 have hoff:(i:Int).toNat*5+2=((s.cases.take i).map Cas.pv).length*5+2:=by rw[Yb,lt0,Int.toNat_natCast]
 refine uR ?_;refine qm qc rfl rfl (hbd) rfl ?_;refine uS ?_;refine qy rfl (jU qc rfl rfl rfl rfl rfl (k:=2) hoff rfl rfl rfl rfl (by show 2+1<=5;omega) ?_);refine qe ?_;refine uD [14001,14002,14000,14005] [1,3,5,7,9,11,13,15,17,18] ?_;refine qJ qc rfl rfl rfl (hbd) rfl ?_;rw[Int.toNat_natCast];refine uT ?_;refine uw [(14001,1000001),(14002,1000002),(14000,1000003),(14005,1000004)] HH ?_;refine qT ?_;refine uR ?_;refine Ks ?_;exact⟨Or.inr rfl,_,_,[(14001,1),(14002,2),(14000,3),(84004,4)],_,Wk.refl _,rfl,rfl,.refl _,rfl,rfl⟩
theorem done3_h (HI:InsF) (s:Sto) (hs:s.Ok) (o:Opn) (ho:o.Ok) (hr:rdyC s o=0) (hk:o.kind=3) (c:Cas) (hc:wa s.cases o.case_=some c):Holds prog 74 [.agg s.pv,.agg o.pv] (stR (zl s o) (qR (zl s o).cases o.case_)) (stW (zl s o) (qR (zl s o).cases o.case_)):=by
 have hd:zl s o={s with cases:=s.cases.set (qR s.cases o.case_) (hapC s {c with fields:=wrtC c.fields o.field o.val} o.subj wWrite)}:=by
  unfold zl;rw[Yc DP,Yi hk,onCase_some _ hc]
 have hsi:qR (s.cases.set (qR s.cases o.case_) (hapC s {c with fields:=wrtC c.fields o.field o.val} o.subj wWrite)) o.case_=qR s.cases o.case_:=by
  obtain⟨h1,h2,_⟩:=zQ hc;exact sameI_set (c:=c) (by rw[zO hc,Yj h1,h2]) rfl
 rw[hd];dsimp only;rw[hsi];clear hd hsi
 have hlt0:qR s.cases o.case_<s.cases.length:=by rw[zO hc];exact(zQ hc).1
 rw[stR_set hlt0,stW_set hlt0];have hco:=hs.each c EB;have hlog:=hco.log;have HW:=write_h HI ((s.cases.take (qR s.cases o.case_)).map Cas.pv) ((s.cases.drop (qR s.cases o.case_+1)).map Cas.pv) (fun x hx=>(qbq _ x hx).1) c hco.fields o.field o.val;have HH:=happens_h s (qR s.cases o.case_) hlt0 {c with fields:=wrtC c.fields o.field o.val} (by show c.log.length<=_;omega) o.subj wWrite;have hcs:=hs.cases;have HO:=ownS_h s hs (qR s.cases o.case_);have HR:=qaq s hs o ho;rw[hr]at HR;have HF:=find_h s DP o.case_;rw[<-zO hc]at HF;have hsome:s.cases[qR s.cases o.case_]?=some c:=by obtain⟨h1,h2,_⟩:=zQ hc;rw[zO hc,Yj h1,h2]
 have hsp:=jd hsome;have lt0:(s.cases.take (qR s.cases o.case_)).length=qR s.cases o.case_:=by rw[Yd];omega
 generalize qR s.cases o.case_=i at*;unfold casB at HO;rw[hsome]at HO;have hone:∀x∈[c.pv],x.length=5/\∀q∈x,oneP q=true:=fun x hx=>by rw[YA]at hx;subst hx;exact wN c
 rw[show s.pv=stoP s.tick (.sl 5 ((s.cases.take i).map Cas.pv++([c.pv]++(s.cases.drop (i+1)).map Cas.pv))) (jX s.revs) (qan s.ntcs) (zi s.roles) s.pol s.ver by rw[hsp];rfl]at HF;simp only[Y5,Xe]at HO;refine Vd ?_;show HoldsW _ _ [.p (.agg s.pv),.p (.agg o.pv)] [] _ _;refine K9 ?_;refine uC (fun hx=>?_) (fun hx=>?_)
 · cases hx
 refine qh ?_;rw[Yb,lt0]at HW;refine LG ?_;refine qy rfl (qP ((qu (k:=14004) rfl).trans ((qu (k:=14005) rfl).trans ((qaT (k:=14000) [c.pv] rfl rfl hone).trans ((qu (k:=14000) rfl).trans ((qu (k:=14001) rfl).trans (qu (k:=14002) rfl)))))) rfl rfl rfl rfl HF rfl rfl ?_);refine Lk ?_;refine uC (fun hx=>?_) (fun hx=>?_)
 · cases hx
 refine uA ?_;rw[show(o.kind==3)=true by simp[hk]];refine uC (fun hx=>?_) (fun hx=>?_);rotate_left
 · cases hx
 have hbd:(0:Int)<=(i:Int)/\(i:Int)<((((s.cases.take i).map Cas.pv).length+((casS c 14004 14005).length/5+((s.cases.drop (i+1)).map Cas.pv).length):Nat):Int):=by
  rw[Yb,lt0,show(casS c 14004 14005).length=5 from rfl];omega
 refine uD [14000,14004,14005] [1,3,5,7,9,11,13,15,16] ?_;refine qJ qc rfl rfl rfl (hbd) rfl ?_;rw[Int.toNat_natCast];refine uT ?_;refine uw [(14000,1000003),(14004,1000005),(14005,1000004)] HW ?_;refine qT ?_;refine SW.wk (qu (k:=57005) rfl) ?_;refine uD [14001,14002,14000,14005] [1,3,5,7,9,11,13,14] ?_;refine qJ qc rfl rfl rfl (hbd) rfl ?_;rw[Int.toNat_natCast];refine uT ?_;refine uw [(14001,1000001),(14002,1000002),(14000,1000003),(14005,1000004)] HH ?_;refine qT ?_;refine uR ?_;refine Ks ?_;exact⟨Or.inr rfl,_,_,[(14001,1),(14002,2),(14000,3),(65004,4)],_,Wk.refl _,rfl,rfl,.refl _,rfl,rfl⟩
theorem done8_h (s:Sto) (hs:s.Ok) (o:Opn) (ho:o.Ok) (hr:rdyC s o=0) (hk:o.kind=8):Holds prog 74 [.agg s.pv,.agg o.pv] (stR (zl s o) (qR (zl s o).cases o.case_)) (stW (zl s o) (qR (zl s o).cases o.case_)):=by
 rw[show zl s o={s with tick:=IntKind.i64.wrap (s.tick+o.rev)}by unfold zl;rw[Yc DP,Yc DP,Yc DP,Yc DP,Yc DP,Yc DP,Yi hk]];have hcs:=hs.cases;have HO:=ownS_h s hs (qR s.cases o.case_);have HR:=qaq s hs o ho;rw[hr]at HR;have HF:=find_h s DP o.case_;unfold stR stW
 try dsimp only
 generalize qR s.cases o.case_=i at*;unfold casB at HO;cases hcc:s.cases[i]? with
 |some c=>
  have hsp:=jd hcc;have hone:∀x∈[c.pv],x.length=5/\∀q∈x,oneP q=true:=fun x hx=>by rw[YA]at hx;subst hx;exact wN c
  rw[hcc]at HO;have HFS:=HF;rw[show s.pv=stoP s.tick (.sl 5 ((s.cases.take i).map Cas.pv++([c.pv]++(s.cases.drop (i+1)).map Cas.pv))) (jX s.revs) (qan s.ntcs) (zi s.roles) s.pol s.ver by rw[hsp];rfl]at HFS;simp only[Y5,Xe]at HO
  try dsimp only
  refine Vd ?_;show HoldsW _ _ [.p (.agg s.pv),.p (.agg o.pv)] [] _ _;refine K9 ?_;refine uC (fun hx=>?_) (fun hx=>?_)
  · cases hx
  refine qh ?_;refine Ml ?_;refine uR ?_;refine XQ ?_;refine Lk ?_;refine uC (fun hx=>?_) (fun hx=>?_)
  · cases hx
  refine Lu ?_;refine uC (fun hx=>?_) (fun hx=>?_)
  · cases hx
  refine LB ?_;refine uC (fun hx=>?_) (fun hx=>?_)
  · cases hx
  refine LR ?_;refine uC (fun hx=>?_) (fun hx=>?_)
  · cases hx
  refine uA ?_;refine Ua ?_;refine uC (fun hx=>?_) (fun hx=>?_)
  · cases hx
  refine uA ?_;refine M2 ?_;refine uC (fun hx=>?_) (fun hx=>?_)
  · cases hx
  refine uA ?_;rw[show(o.kind==8)=true by simp[hk]];refine uC (fun hx=>?_) (fun hx=>?_);rotate_left
  · cases hx
  refine LG ?_;refine Kt ?_;refine Ks ?_;exact Vi
 |none=>
  rw[hcc]at HO;simp only[Y5,Xe]at HO
  try dsimp only
  refine Vd ?_;show HoldsW _ _ [.p (.agg s.pv),.p (.agg o.pv)] [] _ _;refine K9 ?_;refine uC (fun hx=>?_) (fun hx=>?_)
  · cases hx
  refine qh ?_;refine Mm ?_;refine uR ?_;refine Vm ?_;refine Lk ?_;refine uC (fun hx=>?_) (fun hx=>?_)
  · cases hx
  refine Lu ?_;refine uC (fun hx=>?_) (fun hx=>?_)
  · cases hx
  refine LB ?_;refine uC (fun hx=>?_) (fun hx=>?_)
  · cases hx
  refine LR ?_;refine uC (fun hx=>?_) (fun hx=>?_)
  · cases hx
  refine uA ?_;refine Ua ?_;refine uC (fun hx=>?_) (fun hx=>?_)
  · cases hx
  refine uA ?_;refine M2 ?_;refine uC (fun hx=>?_) (fun hx=>?_)
  · cases hx
  refine uA ?_;rw[show(o.kind==8)=true by simp[hk]];refine uC (fun hx=>?_) (fun hx=>?_);rotate_left
  · cases hx
  refine LG ?_;refine Kt ?_;refine Ks ?_;exact VH
theorem done7_h (s:Sto) (hs:s.Ok) (o:Opn) (ho:o.Ok) (hr:rdyC s o=0) (hk:o.kind=7):Holds prog 74 [.agg s.pv,.agg o.pv] (stR (zl s o) (qR (zl s o).cases o.case_)) (stW (zl s o) (qR (zl s o).cases o.case_)):=by
 have hsz:o.text.size<=4096:=by
  have hf:wm o=true:=by
   cases h:wm o with
   |true=>rfl
   |false=>unfold rdyC at hr;rw[h]at hr;simp at hr
  unfold wm at hf;simp only[Yp,Yf]at hf;exact hf.2.2.1
 have h9:o.text.data.toList.length=o.text.size:=by rw[Yx];rfl
 have HP:Holds prog 26 [pS o.text] (.tup [.p (.agg (polP (zk o.text.data.toList).1)),.p (pI (zk o.text.data.toList).2.1),.p (pI (zk o.text.data.toList).2.2)]) []:=parse_h o.text.data.toList EA;rw[qY]at HP;have hd:zl s o=if(zk o.text.data.toList).2.1=0 then{s with pol:=(zk o.text.data.toList).1,ver:=IntKind.i64.wrap (s.ver+1)}else s:=by unfold zl;rw[Yc DP,Yc DP,Yc DP,Yc DP,Yc DP,Yi hk]
 rw[hd];clear hd
 generalize zk o.text.data.toList=P at*;obtain⟨p,e,at_⟩:=P;dsimp only at HP⊢;by_cases he:e=0
 · rw[Yi he];have hcs:=hs.cases;have HO:=ownS_h s hs (qR s.cases o.case_);have HR:=qaq s hs o ho;rw[hr]at HR;have HF:=find_h s DP o.case_;unfold stR stW
   try dsimp only
   generalize qR s.cases o.case_=i at*;unfold casB at HO;cases hcc:s.cases[i]? with
   |some c=>
    have hsp:=jd hcc;have hone:∀x∈[c.pv],x.length=5/\∀q∈x,oneP q=true:=fun x hx=>by rw[YA]at hx;subst hx;exact wN c
    rw[hcc]at HO;have HFS:=HF;rw[show s.pv=stoP s.tick (.sl 5 ((s.cases.take i).map Cas.pv++([c.pv]++(s.cases.drop (i+1)).map Cas.pv))) (jX s.revs) (qan s.ntcs) (zi s.roles) s.pol s.ver by rw[hsp];rfl]at HFS;simp only[Y5,Xe]at HO
    try dsimp only
    refine Vd ?_;show HoldsW _ _ [.p (.agg s.pv),.p (.agg o.pv)] [] _ _;refine K9 ?_;refine uC (fun hx=>?_) (fun hx=>?_)
    · cases hx
    refine qh ?_;refine Ml ?_;refine uR ?_;refine XQ ?_;refine Lk ?_;refine uC (fun hx=>?_) (fun hx=>?_)
    · cases hx
    refine Lu ?_;refine uC (fun hx=>?_) (fun hx=>?_)
    · cases hx
    refine LB ?_;refine uC (fun hx=>?_) (fun hx=>?_)
    · cases hx
    refine LR ?_;refine uC (fun hx=>?_) (fun hx=>?_)
    · cases hx
    refine uA ?_;refine Ua ?_;refine uC (fun hx=>?_) (fun hx=>?_)
    · cases hx
    refine uA ?_;refine Kk ?_;refine uC (fun hx=>?_) (fun hx=>?_);rotate_left
    · cases hx
    refine LG ?_;refine uO HP ?_;refine Ku ?_;rw[show(e==0)=true by simp[he]];refine uC (fun hx=>?_) (fun hx=>?_);rotate_left
    · cases hx
    refine uA ?_;refine Kq ?_;refine Ks ?_;exact Vi
   |none=>
    rw[hcc]at HO;simp only[Y5,Xe]at HO
    try dsimp only
    refine Vd ?_;show HoldsW _ _ [.p (.agg s.pv),.p (.agg o.pv)] [] _ _;refine K9 ?_;refine uC (fun hx=>?_) (fun hx=>?_)
    · cases hx
    refine qh ?_;refine Mm ?_;refine uR ?_;refine Vm ?_;refine Lk ?_;refine uC (fun hx=>?_) (fun hx=>?_)
    · cases hx
    refine Lu ?_;refine uC (fun hx=>?_) (fun hx=>?_)
    · cases hx
    refine LB ?_;refine uC (fun hx=>?_) (fun hx=>?_)
    · cases hx
    refine LR ?_;refine uC (fun hx=>?_) (fun hx=>?_)
    · cases hx
    refine uA ?_;refine Ua ?_;refine uC (fun hx=>?_) (fun hx=>?_)
    · cases hx
    refine uA ?_;refine Kk ?_;refine uC (fun hx=>?_) (fun hx=>?_);rotate_left
    · cases hx
    refine LG ?_;refine uO HP ?_;refine Ku ?_;rw[show(e==0)=true by simp[he]];refine uC (fun hx=>?_) (fun hx=>?_);rotate_left
    · cases hx
    refine uA ?_;refine Kq ?_;refine Ks ?_;exact VH
 · rw[Yc he];have hcs:=hs.cases;have HO:=ownS_h s hs (qR s.cases o.case_);have HR:=qaq s hs o ho;rw[hr]at HR;have HF:=find_h s DP o.case_;unfold stR stW
   try dsimp only
   generalize qR s.cases o.case_=i at*;unfold casB at HO;cases hcc:s.cases[i]? with
   |some c=>
    have hsp:=jd hcc;have hone:∀x∈[c.pv],x.length=5/\∀q∈x,oneP q=true:=fun x hx=>by rw[YA]at hx;subst hx;exact wN c
    rw[hcc]at HO;have HFS:=HF;rw[show s.pv=stoP s.tick (.sl 5 ((s.cases.take i).map Cas.pv++([c.pv]++(s.cases.drop (i+1)).map Cas.pv))) (jX s.revs) (qan s.ntcs) (zi s.roles) s.pol s.ver by rw[hsp];rfl]at HFS;simp only[Y5,Xe]at HO
    try dsimp only
    refine Vd ?_;show HoldsW _ _ [.p (.agg s.pv),.p (.agg o.pv)] [] _ _;refine K9 ?_;refine uC (fun hx=>?_) (fun hx=>?_)
    · cases hx
    refine qh ?_;refine Ml ?_;refine uR ?_;refine XQ ?_;refine Lk ?_;refine uC (fun hx=>?_) (fun hx=>?_)
    · cases hx
    refine Lu ?_;refine uC (fun hx=>?_) (fun hx=>?_)
    · cases hx
    refine LB ?_;refine uC (fun hx=>?_) (fun hx=>?_)
    · cases hx
    refine LR ?_;refine uC (fun hx=>?_) (fun hx=>?_)
    · cases hx
    refine uA ?_;refine Ua ?_;refine uC (fun hx=>?_) (fun hx=>?_)
    · cases hx
    refine uA ?_;refine Kk ?_;refine uC (fun hx=>?_) (fun hx=>?_);rotate_left
    · cases hx
    refine LG ?_;refine uO HP ?_;refine Ku ?_;rw[show(e==0)=false by simp[he]];refine uC (fun hx=>?_) (fun hx=>?_)
    · cases hx
    refine Kv ?_;refine Ks ?_;exact Vi
   |none=>
    rw[hcc]at HO;simp only[Y5,Xe]at HO
    try dsimp only
    refine Vd ?_;show HoldsW _ _ [.p (.agg s.pv),.p (.agg o.pv)] [] _ _;refine K9 ?_;refine uC (fun hx=>?_) (fun hx=>?_)
    · cases hx
    refine qh ?_;refine Mm ?_;refine uR ?_;refine Vm ?_;refine Lk ?_;refine uC (fun hx=>?_) (fun hx=>?_)
    · cases hx
    refine Lu ?_;refine uC (fun hx=>?_) (fun hx=>?_)
    · cases hx
    refine LB ?_;refine uC (fun hx=>?_) (fun hx=>?_)
    · cases hx
    refine LR ?_;refine uC (fun hx=>?_) (fun hx=>?_)
    · cases hx
    refine uA ?_;refine Ua ?_;refine uC (fun hx=>?_) (fun hx=>?_)
    · cases hx
    refine uA ?_;refine Kk ?_;refine uC (fun hx=>?_) (fun hx=>?_);rotate_left
    · cases hx
    refine LG ?_;refine uO HP ?_;refine Ku ?_;rw[show(e==0)=false by simp[he]];refine uC (fun hx=>?_) (fun hx=>?_)
    · cases hx
    refine Kv ?_;refine Ks ?_;exact VH
theorem done6_h (s:Sto) (hs:s.Ok) (o:Opn) (ho:o.Ok) (hr:rdyC s o=0) (hk:o.kind=6):Holds prog 74 [.agg s.pv,.agg o.pv] (stR (zl s o) (qR (zl s o).cases o.case_)) (stW (zl s o) (qR (zl s o).cases o.case_)):=by
 have hrl:=hs.roles;have HH:=hass_h s DP o.case_ o.field;have hd:zl s o=if hasC s.roles o.case_ o.field then s else{s with roles:=s.roles++[⟨o.case_,o.field⟩]}:=by unfold zl;rw[Yc DP,Yc DP,Yc DP,Yc DP,Yi hk]
 rw[hd];clear hd
 generalize hasC s.roles o.case_ o.field=b at*;cases b with
 |true=>
  simp only[if_true];have hcs:=hs.cases;have HO:=ownS_h s hs (qR s.cases o.case_);have HR:=qaq s hs o ho;rw[hr]at HR;have HF:=find_h s DP o.case_;unfold stR stW
  try dsimp only
  generalize qR s.cases o.case_=i at*;unfold casB at HO;cases hcc:s.cases[i]? with
  |some c=>
   have HHS:=HH;rw[show s.pv=stoP s.tick (.sl 5 ((s.cases.take i).map Cas.pv++([c.pv]++(s.cases.drop (i+1)).map Cas.pv))) (jX s.revs) (qan s.ntcs) (zi s.roles) s.pol s.ver by rw[jd hcc];rfl]at HHS;have hsp:=jd hcc;have hone:∀x∈[c.pv],x.length=5/\∀q∈x,oneP q=true:=fun x hx=>by rw[YA]at hx;subst hx;exact wN c
   rw[hcc]at HO;have HFS:=HF;rw[show s.pv=stoP s.tick (.sl 5 ((s.cases.take i).map Cas.pv++([c.pv]++(s.cases.drop (i+1)).map Cas.pv))) (jX s.revs) (qan s.ntcs) (zi s.roles) s.pol s.ver by rw[hsp];rfl]at HFS;simp only[Y5,Xe]at HO
   try dsimp only
   refine Vd ?_;show HoldsW _ _ [.p (.agg s.pv),.p (.agg o.pv)] [] _ _;refine K9 ?_;refine uC (fun hx=>?_) (fun hx=>?_)
   · cases hx
   refine qh ?_;refine Ml ?_;refine uR ?_;refine XQ ?_;refine Lk ?_;refine uC (fun hx=>?_) (fun hx=>?_)
   · cases hx
   refine Lu ?_;refine uC (fun hx=>?_) (fun hx=>?_)
   · cases hx
   refine LB ?_;refine uC (fun hx=>?_) (fun hx=>?_)
   · cases hx
   refine LR ?_;refine uC (fun hx=>?_) (fun hx=>?_)
   · cases hx
   refine uA ?_;refine Kl ?_;refine uC (fun hx=>?_) (fun hx=>?_);rotate_left
   · cases hx
   refine uR ?_;refine V7 ?_;refine Ko ?_;refine uC (fun hx=>?_) (fun hx=>?_)
   · cases hx
   refine qh ?_;refine LG ?_;refine Ks ?_;exact Vi
  |none=>
   rw[hcc]at HO;simp only[Y5,Xe]at HO
   try dsimp only
   refine Vd ?_;show HoldsW _ _ [.p (.agg s.pv),.p (.agg o.pv)] [] _ _;refine K9 ?_;refine uC (fun hx=>?_) (fun hx=>?_)
   · cases hx
   refine qh ?_;refine Mm ?_;refine uR ?_;refine Vm ?_;refine Lk ?_;refine uC (fun hx=>?_) (fun hx=>?_)
   · cases hx
   refine Lu ?_;refine uC (fun hx=>?_) (fun hx=>?_)
   · cases hx
   refine LB ?_;refine uC (fun hx=>?_) (fun hx=>?_)
   · cases hx
   refine LR ?_;refine uC (fun hx=>?_) (fun hx=>?_)
   · cases hx
   refine uA ?_;refine Kl ?_;refine uC (fun hx=>?_) (fun hx=>?_);rotate_left
   · cases hx
   refine uR ?_;refine GQ ?_;refine Ko ?_;refine uC (fun hx=>?_) (fun hx=>?_)
   · cases hx
   refine qh ?_;refine LG ?_;refine Ks ?_;exact VH
 |false=>
  simp only[YC,if_false];have hcs:=hs.cases;have HO:=ownS_h s hs (qR s.cases o.case_);have HR:=qaq s hs o ho;rw[hr]at HR;have HF:=find_h s DP o.case_;unfold stR stW
  try dsimp only
  generalize qR s.cases o.case_=i at*;unfold casB at HO;rw[show zi (s.roles++[⟨o.case_,o.field⟩])=.sl 2 (s.roles.map Rol.pv++[[pS o.case_,pS o.field]])from congrArg (PV.sl 2) (Yr ..)];cases hcc:s.cases[i]? with
  |some c=>
   have HHS:=HH;rw[show s.pv=stoP s.tick (.sl 5 ((s.cases.take i).map Cas.pv++([c.pv]++(s.cases.drop (i+1)).map Cas.pv))) (jX s.revs) (qan s.ntcs) (zi s.roles) s.pol s.ver by rw[jd hcc];rfl]at HHS;have hsp:=jd hcc;have hone:∀x∈[c.pv],x.length=5/\∀q∈x,oneP q=true:=fun x hx=>by rw[YA]at hx;subst hx;exact wN c
   rw[hcc]at HO;have HFS:=HF;rw[show s.pv=stoP s.tick (.sl 5 ((s.cases.take i).map Cas.pv++([c.pv]++(s.cases.drop (i+1)).map Cas.pv))) (jX s.revs) (qan s.ntcs) (zi s.roles) s.pol s.ver by rw[hsp];rfl]at HFS;simp only[Y5,Xe]at HO
   try dsimp only
   refine Vd ?_;show HoldsW _ _ [.p (.agg s.pv),.p (.agg o.pv)] [] _ _;refine K9 ?_;refine uC (fun hx=>?_) (fun hx=>?_)
   · cases hx
   refine qh ?_;refine Ml ?_;refine uR ?_;refine XQ ?_;refine Lk ?_;refine uC (fun hx=>?_) (fun hx=>?_)
   · cases hx
   refine Lu ?_;refine uC (fun hx=>?_) (fun hx=>?_)
   · cases hx
   refine LB ?_;refine uC (fun hx=>?_) (fun hx=>?_)
   · cases hx
   refine LR ?_;refine uC (fun hx=>?_) (fun hx=>?_)
   · cases hx
   refine uA ?_;refine Kl ?_;refine uC (fun hx=>?_) (fun hx=>?_);rotate_left
   · cases hx
   refine uR ?_;refine V7 ?_;refine Ko ?_;refine uC (fun hx=>?_) (fun hx=>?_);rotate_left
   · cases hx
   refine uR ?_;refine XA ?_;refine Ko ?_;refine SW.wk (qu (k:=110) rfl) ?_;refine uR ?_;refine Ks ?_;exact Vi
  |none=>
   rw[hcc]at HO;simp only[Y5,Xe]at HO
   try dsimp only
   refine Vd ?_;show HoldsW _ _ [.p (.agg s.pv),.p (.agg o.pv)] [] _ _;refine K9 ?_;refine uC (fun hx=>?_) (fun hx=>?_)
   · cases hx
   refine qh ?_;refine Mm ?_;refine uR ?_;refine Vm ?_;refine Lk ?_;refine uC (fun hx=>?_) (fun hx=>?_)
   · cases hx
   refine Lu ?_;refine uC (fun hx=>?_) (fun hx=>?_)
   · cases hx
   refine LB ?_;refine uC (fun hx=>?_) (fun hx=>?_)
   · cases hx
   refine LR ?_;refine uC (fun hx=>?_) (fun hx=>?_)
   · cases hx
   refine uA ?_;refine Kl ?_;refine uC (fun hx=>?_) (fun hx=>?_);rotate_left
   · cases hx
   refine uR ?_;refine GQ ?_;refine Ko ?_;refine uC (fun hx=>?_) (fun hx=>?_);rotate_left
   · cases hx
   refine uR ?_;refine XA ?_;refine Ko ?_;refine SW.wk (qu (k:=110) rfl) ?_;refine uR ?_;refine Ks ?_;exact VH
theorem close_some {s:Sto} {o:Opn} (hr:rdyC s o=0) (hk:o.kind=5):0<o.rev/\∃r,s.revs[(o.rev-1).toNat]?=some r:=by
 have hf:wm o=true:=by
  cases h:wm o with
  |true=>rfl
  |false=>unfold rdyC at hr;rw[h]at hr;simp at hr
 refine⟨form_close hf hk,?_⟩;unfold rdyC at hr;rw[hf]at hr;simp only[Bool.true_eq_false,if_false]at hr;rw[Yc DP,Yc DP,Yi hk]at hr;unfold qac at hr;cases h:s.revs[(o.rev-1).toNat]? with
 |none=>rw[h]at hr;simp at hr
 |some r=>exact⟨r,rfl⟩
theorem done5_h (s:Sto) (hs:s.Ok) (o:Opn) (ho:o.Ok) (hr:rdyC s o=0) (hk:o.kind=5):Holds prog 74 [.agg s.pv,.agg o.pv] (stR (zl s o) (qR (zl s o).cases o.case_)) (stW (zl s o) (qR (zl s o).cases o.case_)):=by
 obtain⟨hpos,r,hrv⟩:=close_some hr hk;have hrl:=hs.revs;have hro:=ho.rev.2;have lr:(s.revs.map Rev.pv).length=s.revs.length:=by simp
 have hd:zl s o={s with revs:=s.revs.set (o.rev-1).toNat {r with open_:=false}}:=by unfold zl;rw[Yc DP,Yc DP,Yc DP,Yi hk,hrv]
 obtain⟨hlt,hre⟩:=Yq.1 hrv;obtain⟨k,hkk⟩:∃k,k=(o.rev-1).toNat:=⟨_,rfl⟩;have hw:IntKind.i64.wrap (o.rev-1)=(k:Int):=by rw[YD _ DP];omega
 rw[hd];clear hd hrv
 have hltk:k<s.revs.length:=by omega
 have hrek:s.revs[k]=r:=by subst hkk;exact hre
 rw[<-hkk];clear hre hlt hkk
 have hset:(s.revs.set k {r with open_:=false}).map Rev.pv=set1 (s.revs.map Rev.pv) (k:Int).toNat 6 [pB false]:=by
  rw[List.map_set];unfold set1;rw[qw hltk,hrek,Int.toNat_natCast];rfl
 have hcs:=hs.cases;have HO:=ownS_h s hs (qR s.cases o.case_);have HR:=qaq s hs o ho;rw[hr]at HR;have HF:=find_h s DP o.case_;unfold stR stW
 try dsimp only
 generalize qR s.cases o.case_=i at*;unfold casB at HO;rw[hset];cases hcc:s.cases[i]? with
 |some c=>
  have hsp:=jd hcc;have hone:∀x∈[c.pv],x.length=5/\∀q∈x,oneP q=true:=fun x hx=>by rw[YA]at hx;subst hx;exact wN c
  rw[hcc]at HO;have HFS:=HF;rw[show s.pv=stoP s.tick (.sl 5 ((s.cases.take i).map Cas.pv++([c.pv]++(s.cases.drop (i+1)).map Cas.pv))) (jX s.revs) (qan s.ntcs) (zi s.roles) s.pol s.ver by rw[hsp];rfl]at HFS;simp only[Y5,Xe]at HO
  try dsimp only
  refine Vd ?_;show HoldsW _ _ [.p (.agg s.pv),.p (.agg o.pv)] [] _ _;refine K9 ?_;refine uC (fun hx=>?_) (fun hx=>?_)
  · cases hx
  refine qh ?_;refine Ml ?_;refine uR ?_;refine XQ ?_;refine Lk ?_;refine uC (fun hx=>?_) (fun hx=>?_)
  · cases hx
  refine Lu ?_;refine uC (fun hx=>?_) (fun hx=>?_)
  · cases hx
  refine LB ?_;refine uC (fun hx=>?_) (fun hx=>?_)
  · cases hx
  refine uA ?_;rw[show(o.kind==5)=true by simp[hk]];refine uC (fun hx=>?_) (fun hx=>?_);rotate_left
  · cases hx
  refine LG ?_;rw[hw];refine Ka ?_;refine uS ?_;refine MD ?_;refine K4 ?_;refine Ks ?_;exact Vi
 |none=>
  rw[hcc]at HO;simp only[Y5,Xe]at HO
  try dsimp only
  refine Vd ?_;show HoldsW _ _ [.p (.agg s.pv),.p (.agg o.pv)] [] _ _;refine K9 ?_;refine uC (fun hx=>?_) (fun hx=>?_)
  · cases hx
  refine qh ?_;refine Mm ?_;refine uR ?_;refine Vm ?_;refine Lk ?_;refine uC (fun hx=>?_) (fun hx=>?_)
  · cases hx
  refine Lu ?_;refine uC (fun hx=>?_) (fun hx=>?_)
  · cases hx
  refine LB ?_;refine uC (fun hx=>?_) (fun hx=>?_)
  · cases hx
  refine uA ?_;rw[show(o.kind==5)=true by simp[hk]];refine uC (fun hx=>?_) (fun hx=>?_);rotate_left
  · cases hx
  refine LG ?_;rw[hw];refine Ka ?_;refine uS ?_;refine MD ?_;refine K4 ?_;refine Ks ?_;exact VH
theorem findI_le (l:List Cas) (id:DT):jG l id<=l.length:=List.findIdx_le_length
theorem ins_at (l:List Cas) {j:Nat} (hj:j<=l.length) (c:Cas):(l.take j++c::l.drop j)[j]?=some c/\(l.take j++c::l.drop j).take j=l.take j/\(l.take j++c::l.drop j).drop (j+1)=l.drop j:=by
 have h:(l.take j).length=j:=by rw[Yd];omega
 refine⟨?_,?_,?_⟩
 · rw[Yy DP,h,Nat.sub_self];rfl
 · rw[Y7 DP,YN DP]
 · rw[List.drop_append,List.drop_of_length_le DP,h,show j+1-j=1 by omega];rfl
theorem ins_same (l:List Cas) (id:DT) (c:Cas) (hc:c.id=id):qR (l.take (jG l id)++c::l.drop (jG l id)) id=jG l id:=by
 have hle:=findI_le l id;have h1:=(ins_at l hle c).1;have hbelow:∀j (hj:j<l.length),j<jG l id->l[j].id≠id:=fun j hj hlt h2=>by
  have:=List.not_of_lt_findIdx (p:=fun c:Cas=>!jx c.id id) hlt;rw[h2,lessB_irr]at this;cases this
 generalize jG l id=k at*;obtain⟨hk,he⟩:=Yq.1 h1;unfold qR;refine(Xx hk).2 ⟨by rw[he];exact Yz hc,fun j hj=>?_⟩;rw[Yh,List.getElem_append_left Dw,List.getElem_take];exact hbelow j DP hj
theorem done1_h (HI:InsC) (s:Sto) (hs:s.Ok) (o:Opn) (ho:o.Ok) (hr:rdyC s o=0) (hk:o.kind=1):Holds prog 74 [.agg s.pv,.agg o.pv] (stR (zl s o) (qR (zl s o).cases o.case_)) (stW (zl s o) (qR (zl s o).cases o.case_)):=by
 obtain⟨c2,hc2⟩:∃c2:Cas,c2=⟨o.case_,o.subj,wOpen,[],[⟨s.tick,o.subj,wNew⟩]⟩:=⟨_,rfl⟩;have hd:zl s o={s with cases:=s.cases.take (jG s.cases o.case_)++c2::s.cases.drop (jG s.cases o.case_)}:=by unfold zl;rw[Yi hk,hc2]
 have hle:=findI_le s.cases o.case_;rw[hd];dsimp only;rw[ins_same s.cases o.case_ c2 (by rw[hc2])];clear hd
 have hcs:=hs.cases;have HO:=ownS_h s hs s.cases.length;have HR:=qaq s hs o ho;rw[hr]at HR;have HF:=find_h s DP o.case_;have HX:=fun g=>HI s.cases (jG s.cases o.case_) o.case_ o.subj wOpen g hle hcs
 obtain⟨i1,i2,i3⟩:=ins_at s.cases hle c2;unfold stR stW;dsimp only;rw[i1,i2,i3];generalize jG s.cases o.case_=j at*;unfold casB at HO;rw[YT (Yk _)]at HO;simp only[Y5,Xe]at HO;have HN:=happensN_h s o.case_ o.subj wOpen o.subj wNew;subst hc2;dsimp only;refine Vd ?_;show HoldsW _ _ [.p (.agg s.pv),.p (.agg o.pv)] [] _ _;refine K9 ?_;refine uC (fun hx=>?_) (fun hx=>?_)
 · cases hx
 refine qh ?_;refine LG ?_;refine qy rfl (qP ((qu (k:=14000) rfl).trans ((qu (k:=14001) rfl).trans (qu (k:=14002) rfl))) rfl rfl rfl rfl HF rfl rfl ?_);refine K0 ?_;rw[show(o.kind==1)=true by simp[hk]];refine uC (fun hx=>?_) (fun hx=>?_);rotate_left
 · cases hx
 refine Kq ?_;refine uW [(14001,1000001),(14002,1000002),(14000,1000003),(8,1000005)] HN ?_;refine K4 ?_;refine uW [(14000,1000000),(43,1000001),(39004,1000002)] ((HX _)) ?_;refine Kt ?_;refine Ks ?_;exact⟨Or.inr rfl,_,_,[(14001,1),(14002,2),(45000,3),(45002,4)],_,Wk.refl _,rfl,rfl,.refl _,rfl,rfl⟩
theorem ready_form {s:Sto} {o:Opn} (hr:rdyC s o=0):wm o=true:=by
 cases h:wm o with
 |true=>rfl
 |false=>unfold rdyC at hr;rw[h]at hr;simp at hr
theorem form_kind {o:Opn} (h:wm o=true):1<=o.kind/\o.kind<=8:=by
 unfold wm at h;simp only[Yp]at h;have ht:=h.2.2.2.2.2.2.2;unfold takC at ht;apply Xa;intro hk;rw[Yc DP,Yc DP,Yc DP,Yc DP,Yc DP,Yc DP,Yc DP]at ht;cases ht
theorem ready_case {s:Sto} {o:Opn} (hr:rdyC s o=0) (hk:o.kind=2\/o.kind=3\/o.kind=4):∃c,wa s.cases o.case_=some c:=by
 have hf:=ready_form hr;unfold rdyC at hr;rw[hf]at hr;simp only[Bool.true_eq_false,if_false]at hr;rw[Yc DP,Yi hk]at hr;unfold qbr at hr;cases h:wa s.cases o.case_ with
 |none=>rw[h]at hr;simp at hr
 |some c=>exact⟨c,rfl⟩
theorem done_h (HF:InsF) (HC:InsC) (s:Sto) (hs:s.Ok) (o:Opn) (ho:o.Ok) (hr:rdyC s o=0):Holds prog 74 [.agg s.pv,.agg o.pv] (stR (zl s o) (qR (zl s o).cases o.case_)) (stW (zl s o) (qR (zl s o).cases o.case_)):=by
 have hk:=form_kind (ready_form hr);have h8:o.kind=1\/o.kind=2\/o.kind=3\/o.kind=4\/o.kind=5\/o.kind=6\/o.kind=7\/o.kind=8:=by omega
 rcases h8 with h|h|h|h|h|h|h|h
 · exact done1_h HC s hs o ho hr h
 · obtain⟨c,hc⟩:=ready_case hr (.inl h);rw[show zl s o=s by unfold zl;rw[Yc DP,Yc DP,Yc DP,Yc DP,Yc DP,Yc DP,Yc DP]];exact done2_h s hs o ho hr h c hc
 · obtain⟨c,hc⟩:=ready_case hr (.inr (.inl h));exact done3_h HF s hs o ho hr h c hc
 · obtain⟨c,hc⟩:=ready_case hr (.inr (.inr h));exact done4_h s hs o ho hr h c hc
 · exact done5_h s hs o ho hr h
 · exact done6_h s hs o ho hr h
 · exact done7_h s hs o ho hr h
 · exact done8_h s hs o ho hr h
structure Sto.Sm (s:Sto):Prop where
 cases:s.cases.length<=100
 each:∀c∈s.cases,c.fields.length<=100/\c.log.length<=300
 revs:s.revs.length<=300
 ntcs:s.ntcs.length<=300
 roles:s.roles.length<=100
 pol:∃n,PolF n s.pol
 sz:s.pol.sz<=500000
theorem Sto.Sm.ok {s:Sto} (h:s.Sm):s.Ok:=⟨by have:=h.cases;omega,fun c hc=>⟨by have:=(h.each c hc).1;omega,by have:=(h.each c hc).2;omega⟩,by have:=h.revs;omega,by have:=h.ntcs;omega,by have:=h.roles;omega,h.pol,h.sz⟩
theorem Sto.Sm.opn {s:Sto} (h:s.Sm) (o:Opn) (r:DT):(opnR s o r).Ok:=⟨by have:=h.cases;show s.cases.length<=_;omega,fun c hc=>⟨by have:=(h.each c hc).1;omega,by have:=(h.each c hc).2;omega⟩,by have:=h.revs;show(s.revs++[_]).length<=_;rw[List.length_append,List.length_singleton];omega,by have:=h.ntcs;show s.ntcs.length<=_;omega,by have:=h.roles;show s.roles.length<=_;omega,h.pol,h.sz⟩
theorem Sto.Sm.len {s:Sto} (h:s.Sm):s.Len:=⟨by have:=h.cases;omega,fun c hc=>by have:=(h.each c hc).2;omega,by have:=h.revs;omega,by have:=h.ntcs;omega⟩
theorem Sto.Sm.opl {s:Sto} (h:s.Sm) (o:Opn) (r:DT):(opnR s o r).Len:=⟨by have:=h.cases;show s.cases.length<=_;omega,fun c hc=>by have:=(h.each c hc).2;omega,by have:=h.revs;show(s.revs++[_]).length<=_;rw[List.length_append,List.length_singleton];omega,by have:=h.ntcs;show s.ntcs.length<=_;omega⟩
theorem len_on {s:Sto} (hc:s.cases.length<=900) (he:∀c∈s.cases,c.log.length<=1000) (hr:s.revs.length<=1000) (hn:s.ntcs.length<=1000) (id:DT) (f:Cas->Cas) (hf:∀c∈s.cases,(f c).log.length<=1001):(onCase s id f).Len:=by
 unfold onCase;cases h:s.cases[jG s.cases id]? with
 |none=>
  show s.Len;exact⟨by omega,fun c hc=>by have:=he c hc;omega,by omega,by omega⟩
 |some c=>
  refine⟨by show(s.cases.set _ _).length<=_;rw[Xh];omega,fun d hd=>?_,by show s.revs.length<=_;omega,by show s.ntcs.length<=_;omega⟩;rcases List.mem_or_eq_of_mem_set hd with hd|rfl
  · have:=he d hd;omega
  · exact hf c (YI h)
theorem done_len {s:Sto} (hc:s.cases.length<=900) (he:∀c∈s.cases,c.log.length<=1000) (hr:s.revs.length<=1000) (hn:s.ntcs.length<=1000) (o:Opn):(zl s o).Len:=by
 have h0:s.Len:=⟨by omega,fun c hc=>by have:=he c hc;omega,by omega,by omega⟩;unfold zl;split
 · refine⟨?_,fun c hm=>?_,h0.revs,h0.ntcs⟩
   · show(s.cases.take _++_::s.cases.drop _).length<=_;rw[Ya,Yg,Yd,Yo];omega
   · have hm':c∈s.cases.take (jG s.cases o.case_)++⟨o.case_,o.subj,wOpen,[],[⟨s.tick,o.subj,wNew⟩]⟩::s.cases.drop (jG s.cases o.case_):=hm;rcases YL.1 hm' with h|h
     · exact h0.each c (Xd h)
     · rcases Y0.1 h with rfl|h
       · show([_]:List Hap).length<=_;simp
       · exact h0.each c (YX h)
 · split
   · exact len_on hc he hr hn _ _ fun c hm=>by show(c.log++[_]).length<=_;rw[Ya,YF];have:=he c hm;omega
   · split
     · exact len_on hc he hr hn _ _ fun c hm=>by show(c.log++[_]).length<=_;rw[Ya,YF];have:=he c hm;omega
     · split
       · cases h:s.revs[(o.rev-1).toNat]? with
         |none=>exact h0
         |some r=>exact⟨h0.cases,h0.each,by show(s.revs.set _ _).length<=_;rw[Xh];omega,h0.ntcs⟩
       · split
         · split
           · exact h0
           · exact⟨h0.cases,h0.each,h0.revs,h0.ntcs⟩
         · split
           · split
             · exact⟨h0.cases,h0.each,h0.revs,h0.ntcs⟩
             · exact h0
           · split
             · exact⟨h0.cases,h0.each,h0.revs,h0.ntcs⟩
             · exact h0
theorem rdy_opn {s:Sto} {o:Opn} (r:DT) (h:o.kind≠5):rdyC (opnR s o r) o=rdyC s o:=by
 unfold rdyC;rw[Yc h,Yc h];rfl
theorem glass_kind {o:Opn} (hf:wm o=true) (hg:o.glass=true):o.kind≠5:=by
 unfold wm at hf;simp only[Yp]at hf;have h:=hf.2.1;unfold reaC at h;rw[Yi hg]at h;simp only[Yp,onC,Yf]at h;omega
theorem joinM_zero (a:Mk):qaw (0,0) a=a:=by unfold qaw;simp
theorem joinM_assoc (a b c:Mk):qaw (qaw a b) c=qaw a (qaw b c):=by unfold qaw;simp[Nat.max_assoc]
theorem joinL_foldl:∀(l:List Mk) (a:Mk),l.foldl qaw a=qaw a (joinL l)
 |[],a=>by unfold joinL qaw;simp
 |x::l,a=>by
  have e:joinL (x::l)=qaw x (joinL l):=by
   unfold joinL;rw[List.foldl_cons,joinL_foldl l (qaw (0,0) x),joinM_zero];rfl
  rw[List.foldl_cons,joinL_foldl l (qaw a x),e,joinM_assoc]
end Go.Proofs.YtblgnefkgkchhaaGreatDoor
