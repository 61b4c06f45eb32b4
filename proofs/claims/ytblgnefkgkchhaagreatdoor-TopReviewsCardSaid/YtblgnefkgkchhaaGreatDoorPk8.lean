/- Part 8. -/
import Derived.Test.YtblgnefkgkchhaaGreatDoorPk7
set_option maxHeartbeats 4000000
set_option maxRecDepth 100000
set_option linter.unusedSimpArgs false
set_option linter.unusedVariables false
namespace Go.Proofs.YtblgnefkgkchhaaGreatDoor
open _root_.Go.Proofs.Tryz
section
open Go.RowKit
def keyM (l:List Mat):Option Mat:=l.find? (fun m=>decide (m.op=1)&&!m.attr.must)
def keyS:Tar->Option Mat
 |[]=>none
 |x::t=>if x.length=1 then(match keyM (x.getD 0 [])with|some m=>some m|none=>keyS t)else keyS t
theorem fold_zero {α:Type} {f:α->Int} (hf:∀x,0<=f x):∀{l:List α} {o:Int},0<=o->(o=0\/∃x∈l,f x=0)->l.foldl (fun o x=>min o (f x)) o=0
 |[],o,_,h=>by
  rcases h with h|⟨x,hx,_⟩
  · exact h
  · cases hx
 |y::l,o,ho,h=>by
  rw[List.foldl_cons];have hy:=hf y;refine fold_zero hf DP ?_;rcases h with h|⟨x,hx,h0⟩
  · exact .inl DP
  · rcases Y0.1 hx with rfl|hx
    · exact .inl DP
    · exact .inr ⟨x,hx,h0⟩
theorem allTT_zero {l:List Mat} {g:List Giv} {m:Mat} (hm:m∈l) (h:wD m g=0):allTT l g=0:=fold_zero (fun m=>(matchT_range m g).1) DP (.inr ⟨m,hm,h⟩)
theorem metT_zero {t:Tar} {g:List Giv} {x:List (List Mat)} (hx:x∈t) (h:anyTT x g=0):metT t g=0:=fold_zero (fun m=>(anyTT_range m g).1) DP (.inr ⟨x,hx,h⟩)
theorem anyTT_one (y:List Mat) (g:List Giv):anyTT [y] g=allTT y g:=by
 have:=allTT_range y g;show max 0 (allTT y g)=_;omega
theorem keyS_of:∀{t:Tar} {m:Mat},keyS t=some m->m.op=1/\m.attr.must=false/\∃x∈t,∃y,x=[y]/\m∈y
 |[],m,h=>by cases h
 |x::t,m,h=>by
  have up:keyS t=some m->m.op=1/\m.attr.must=false/\∃z∈x::t,∃y,z=[y]/\m∈y:=fun h=>by
   obtain⟨h1,h2,z,hz,h3⟩:=keyS_of h;exact⟨h1,h2,z,Y3 _ hz,h3⟩
  rw[keyS]at h;split at h
  · rename_i hl;obtain⟨y,rfl⟩:=List.length_eq_one_iff.1 hl;cases hk:keyM (([y]:List (List Mat)).getD 0 [])with
    |none=>rw[hk]at h;exact up h
    |some m'=>
     rw[hk]at h;cases h;have h1:=List.find?_some hk;have h2:=List.mem_of_find?_eq_some hk;simp only[Yp,Yf,Xo]at h1;exact⟨h1.1,h1.2,[y],by simp,y,rfl,h2⟩
  · exact up h
theorem key_met {t:Tar} {m:Mat} (h:keyS t=some m) {g:List Giv} (h0:wD m g=0):metT t g=0:=by
 obtain⟨_,_,x,hx,y,rfl,hm⟩:=keyS_of h;exact metT_zero hx (by rw[anyTT_one];exact allTT_zero hm h0)
def wQ (g:List Giv) (k:Pol):Bool:=match keyS k.target with
 |none=>true
 |some m=>decide (wD m g≠0)
theorem pick_na {g:List Giv} {k:Pol} (h:wQ g k=false) (n:Nat):qX g n k=noRs:=by
 cases n with
 |zero=>rfl
 |succ n=>
  unfold wQ at h;split at h
  · cases h
  · rename_i m hm;have h0:wD m g=0:=by simpa using h
    rw[qX,Yi (key_met hm h0)]
def skipM (l:List Mk):List Mk:=l.filter fun m=>decide (m≠(0,0))
def skipR (l:List Rs):List Rs:=l.filter fun x=>decide (x.m≠(0,0))
theorem skip_map (l:List Rs):(skipR l).map Rs.m=skipM (l.map Rs.m):=by
 unfold skipR skipM;rw[List.filter_map];rfl
theorem joinL_cons (x:Mk) (l:List Mk):joinL (x::l)=qaw x (joinL l):=by
 unfold joinL;rw[List.foldl_cons,joinL_foldl l (qaw (0,0) x),joinM_zero];rfl
theorem skipM_cons (m:Mk) (l:List Mk):skipM (m::l)=if m=(0,0)then skipM l else m::skipM l:=by
 unfold skipM;rw[List.filter_cons];by_cases h:m=(0,0)<;>simp[h]
theorem joinL_skip:∀l:List Mk,joinL (skipM l)=joinL l
 |[]=>rfl
 |m::l=>by
  rw[skipM_cons,joinL_cons];split
  · rename_i h;rw[h,joinM_zero];exact joinL_skip l
  · rw[joinL_cons,joinL_skip l]
theorem firstM_skip:∀l:List Mk,wK (skipM l)=wK l
 |[]=>rfl
 |m::l=>by
  rw[skipM_cons,wK];split
  · exact firstM_skip l
  · rename_i h;rw[wK,Yc h]
theorem onlyM_skip:∀(l:List Mk) (j:Mk),onlyM j (skipM l)=onlyM j l
 |[],j=>rfl
 |m::l,j=>by
  rw[skipM_cons,onlyM];split
  · rename_i h;rw[h,onlyM_skip l j,Yi DR];have:stepJ j (0,0)=j:=by
     unfold stepJ;split
     · rename_i h;exact h.symm
     · simp
    rw[this]
  · rw[onlyM];split
    · rw[onlyM_skip l]
    · rfl
theorem unlessM_skip (l:List Mk) {a b:Mk} (hb:b≠(0,0)):qaL (skipM l) a b=qaL l a b:=by
 have:b∈skipM l↔b∈l:=by
  unfold skipM;rw[List.mem_filter];simp[hb]
 unfold qaL;by_cases h:b∈l
 · rw[Yi h,Yi (this.2 h)]
 · rw[Yc h,Yc (fun h1=>h (this.1 h1))]
theorem allM_skip (alg:Int) (l:List Mk):allM alg (skipM l)=allM alg l:=by
 unfold allM;rw[joinL_skip,firstM_skip,onlyM_skip,unlessM_skip l DO,unlessM_skip l DO]
theorem partsO_skip {alg:Int} {m:Mk} (hm:m≠(0,0)):∀l:List Rs,qaC alg m (skipR l)=qaC alg m l
 |[]=>rfl
 |x::l=>by
  have ih:=partsO_skip hm (alg:=alg) l;unfold skipR at ih⊢;rw[List.filter_cons,qaC];by_cases h:x.m=(0,0)
  · rw[Yc (by simp[h]),Yc (by rw[h];exact fun e=>hm e.symm)];exact ih
  · rw[Yi (by simp[h]),qaC,ih]
theorem joinR_skip (p:Pol) (t:Int) (l:List Rs):joinR p t (skipR l)=joinR p t l:=by
 unfold joinR;rw[skip_map,allM_skip];by_cases hm:allM p.alg (l.map Rs.m)=(0,0)
 · rw[hm];simp
 · rw[partsO_skip hm]
theorem skip_filter (g:List Giv) (n:Nat):∀l:List Pol,skipR ((l.filter (wQ g)).map (qX g n))=skipR (l.map (qX g n))
 |[]=>rfl
 |k::l=>by
  have ih:=skip_filter g n l;unfold skipR at ih⊢;rw[List.filter_cons,Y2,List.filter_cons];by_cases h:wQ g k=true
  · rw[Yi h,Y2,List.filter_cons,ih]
  · have h':wQ g k=false:=by simpa using h
    rw[Yc h,pick_na h' n,Yc (by simp[noRs])];exact ih
theorem decide_pick (g:List Giv) (n:Nat) (p:Pol):qX g n (p.putKids (p.kids.filter (wQ g)))=qX g n p:=by
 cases n with
 |zero=>rfl
 |succ n=>
  rw[qX,qX];show(if metT p.target g=0 then noRs else joinR (p.putKids _) (metT p.target g) (p.rules.map (ruleR g)++(p.kids.filter (wQ g)).map (qX g n)))=_;split
  · rfl
  · have e:∀l,joinR (p.putKids (p.kids.filter (wQ g))) (metT p.target g) l=joinR p (metT p.target g) l:=fun l=>rfl
    rw[e,<-joinR_skip,<-joinR_skip p _ (p.rules.map (ruleR g)++p.kids.map (qX g n))];congr 1;have:=skip_filter g n p.kids;unfold skipR at this⊢;rw[List.filter_append,List.filter_append,this]
inductive SubL {α:Type} (R:α->α->Prop):List α->List α->Prop
 |nil:SubL R [] []
 |skip {a b:List α} {x:α} (h:SubL R a b):SubL R a (x::b)
 |keep {a b:List α} {x y:α} (hr:R y x) (h:SubL R a b):SubL R (y::a) (x::b)
theorem SubL.len {α:Type} {R:α->α->Prop} {a b:List α} (h:SubL R a b):a.length<=b.length:=by
 induction h with
 |nil=>exact Yk _
 |skip h ih=>simp;omega
 |keep hr h ih=>simp;omega
def SubP:Nat->Pol->Pol->Prop
 |0,_,_=>True
 |n+1,q,p=>q.id=p.id/\q.set=p.set/\q.alg=p.alg/\q.target=p.target/\q.rules=p.rules/\q.obls=p.obls/\SubL (SubP n) q.kids p.kids
theorem SubP.refl:∀(n:Nat) (p:Pol),SubP n p p
 |0,_=>True.intro
 |n+1,p=>⟨rfl,rfl,rfl,rfl,rfl,rfl,by
  have:∀l:List Pol,SubL (SubP n) l l:=fun l=>by
   induction l with
   |nil=>exact .nil
   |cons x l ih=>exact .keep (SubP.refl n x) ih
  exact this _⟩
theorem headE_sub {p q:Pol} (h:headE p=0) (h1:q.set=p.set) (h2:q.kids.length<=p.kids.length) (h3:q.target=p.target) (h4:q.obls=p.obls) (h5:q.rules=p.rules) (h6:q.alg=p.alg):headE q=0:=by
 unfold headE at h⊢;rw[h1,h3,h4,h5,h6];split at h
 · cases h
 · rename_i hc;have hc':¬(p.set&&decide (0<p.rules.length)||!p.set&&(decide (0<q.kids.length)||decide (p.alg=4)))=true:=by
    intro h;refine hc ?_;simp only[Xm,Yp,Yf,Xo]at h⊢;rcases h with⟨a,b⟩|⟨a,b|b⟩
    · exact .inl ⟨a,b⟩
    · exact .inr ⟨a,.inl DP⟩
    · exact .inr ⟨a,.inr b⟩
   rw[Yc hc'];split at h
   · rename_i ht;rw[Yi ht];split at h
     · rename_i ho;rw[Yi ho];split at h
       · cases h
       · rename_i hm;rw[Yc DP]
     · rename_i ho;rw[Yc ho];exact h
   · rename_i ht;rw[Yc ht];exact h
theorem polS_grow {n:Nat} {v:Wlk} {p:Pol} (h:(polS n v p).1=0):v.le (polS n v p).2:=
 ⟨fun s hs=>hasS_polS n hs h,by have:=polS_count n v p h;omega⟩
theorem Wlk.le_trans {a b c:Wlk} (h:a.le b) (h':b.le c):a.le c:=⟨fun s hs=>h'.1 s (h.1 s hs),Int.le_trans h.2 h'.2⟩
theorem polS_sub:∀(n:Nat) {p q:Pol} {w v:Wlk},SubP n q p->w.le v->(polS n v p).1=0->(polS n w q).1=0/\(polS n w q).2.le (polS n v p).2
 |0,p,q,w,v,_,_,h=>by cases h
 |n+1,p,q,w,v,⟨e1,e2,e3,e4,e5,e6,hk⟩,hl,h=>by
  obtain⟨h1,h2,h3⟩:=polS_kids h;obtain⟨g1,g2⟩:=headS_le hl h1;have hq:jZ w q=jZ w p:=by
   have a1:(jZ w p).1=0:=g1;unfold jZ at a1⊢;rw[e1,e3];split at a1
   · rename_i hc;simp only at a1;rw[Yi hc,headE_sub a1 e2 hk.len e4 e6 e5 e3];simp only[Yi hc,a1]
   · cases a1
  obtain⟨r1,r2⟩:=seqS_le (f:=jy) (f':=jy) (fun w v x hl h=>ruleS_le hl h) g2 h2;have key:∀{a b:List Pol},SubL (SubP n) a b->∀{w v:Wlk},w.le v->(seqS (polS n) v b).1=0->(seqS (polS n) w a).1=0/\(seqS (polS n) w a).2.le (seqS (polS n) v b).2:=by
   intro a b hs
   induction hs with
   |nil=>exact fun hl _=>⟨rfl,hl⟩
   |@skip a b x hs ih=>
    intro w v hl h;by_cases h0:(polS n v x).1=0
    · have eb:seqS (polS n) v (x::b)=seqS (polS n) (polS n v x).2 b:=by rw[seqS,Yi h0]
      rw[eb]at h⊢;exact ih (Wlk.le_trans hl (polS_grow h0)) h
    · rw[seqS,Yc h0]at h;exact absurd h h0
   |@keep a b x y hr hs ih=>
    intro w v hl h;by_cases h0:(polS n v x).1=0
    · have eb:seqS (polS n) v (x::b)=seqS (polS n) (polS n v x).2 b:=by rw[seqS,Yi h0]
      rw[eb]at h⊢;obtain⟨p1,p2⟩:=polS_sub n hr hl h0;have ea:seqS (polS n) w (y::a)=seqS (polS n) (polS n w y).2 a:=by rw[seqS,Yi p1]
      rw[ea];exact ih p2 h
    · rw[seqS,Yc h0]at h;exact absurd h h0
  obtain⟨k1,k2⟩:=key hk r2 h3;have eq1:polS (n+1) w q=seqS (polS n) (seqS jy (jZ w p).2 p.rules).2 q.kids:=by rw[polS,hq,e5,Yi g1,Yi r1]
  have eq2:polS (n+1) v p=seqS (polS n) (seqS jy (jZ v p).2 p.rules).2 p.kids:=by rw[polS,Yi h1,Yi h2]
  rw[eq1,eq2];exact⟨k1,k2⟩
theorem right_sub {p q:Pol} (h:zW p=0) (hs:SubP 4 q p):zW q=0:=(polS_sub 4 hs (Wlk.le_refl _) h).1
def zq (g:List Giv):Nat->Pol->Pol
 |0,p=>p
 |n+1,p=>p.putKids ((p.kids.filter (wQ g)).map (zq g n))
theorem sub_picked (g:List Giv):∀(n:Nat) (p:Pol),SubP n (zq g n p) p
 |0,_=>True.intro
 |n+1,p=>⟨rfl,rfl,rfl,rfl,rfl,rfl,by
  have:∀l:List Pol,SubL (SubP n) ((l.filter (wQ g)).map (zq g n)) l:=fun l=>by
   induction l with
   |nil=>exact .nil
   |cons x l ih=>
    rw[List.filter_cons];split
    · rw[Y2];exact .keep (sub_picked g n x) ih
    · exact .skip ih
  exact this _⟩
theorem decide_picked (g:List Giv):∀(n m:Nat) (p:Pol),qX g m (zq g n p)=qX g m p
 |0,m,p=>rfl
 |n+1,0,p=>rfl
 |n+1,m+1,p=>by
  rw[<-decide_pick g (m+1) p];have e:((p.kids.filter (wQ g)).map (zq g n)).map (qX g m)=(p.kids.filter (wQ g)).map (qX g m):=by
   rw[List.map_map];exact List.map_congr_left fun k _=>decide_picked g n m k
  rw[qX,qX];show(if metT p.target g=0 then noRs else joinR (p.putKids _) (metT p.target g) (p.rules.map (ruleR g)++((p.kids.filter (wQ g)).map (zq g n)).map (qX g m)))=(if metT p.target g=0 then noRs else joinR (p.putKids _) (metT p.target g) (p.rules.map (ruleR g)++(p.kids.filter (wQ g)).map (qX g m)));rw[e];rfl
def m0:Mat:=⟨⟨0,⟨#[]⟩,false⟩,0,⟨0,0,⟨#[]⟩⟩⟩
def keyR (t:Tar):Mat×Bool:=match keyS t with
 |some m=>(m,true)
 |none=>(m0,false)
theorem keyR_nil:keyR []=(m0,false):=rfl
theorem keyR_skip {x:List (List Mat)} {t:Tar} (h:x.length≠1):keyR (x::t)=keyR t:=by
 unfold keyR;rw[keyS,Yc h]
theorem keyR_none {y:List Mat} {t:Tar} (h:keyM y=none):keyR ([y]::t)=keyR t:=by
 have e:keyS ([y]::t)=match keyM y with|some m=>some m|none=>keyS t:=by rw[keyS,Yi (show [y].length=1 from rfl)];rfl
 unfold keyR;rw[e,h]
theorem keyR_some {y:List Mat} {t:Tar} {m:Mat} (h:keyM y=some m):keyR ([y]::t)=(m,true):=by
 have e:keyS ([y]::t)=match keyM y with|some m=>some m|none=>keyS t:=by rw[keyS,Yi (show [y].length=1 from rfl)];rfl
 unfold keyR;rw[e,h]
def isKey (m:Mat):Bool:=decide (m.op=1)&&!m.attr.must
theorem keyM_cons (m:Mat) (y:List Mat):keyM (m::y)=if isKey m then some m else keyM y:=by
 unfold keyM isKey;rw[List.find?_cons];split<;>simp_all
theorem key_h (t:Tar) (hl:TarSm t):Holds prog 236 [tgtP t] (.tup [.p (.agg (keyR t).1.pv),.p (pB (keyR t).2)]) []:=by
 have lt:(t.map fun x=>[anyP x]).length=t.length:=by simp
 have ht0:=hl.1;refine .ofW ?_;refine qz (T:=TTab) qc func236 DG rfl rfl rfl ?_;refine KH ?_;refine uZ [2,3,8,9,10] [(2,2)] ?_;refine qG (fun n s=>∃(k:Nat) (kk:Int),k<=t.length/\n=t.length-k/\kk=k/\keyR t=keyR (t.drop k)/\s=⟨38,[(2,.ptr 2 0),(3,.p (pB false)),(8,.p (tgtP t)),(9,.p (pI (t.map fun x=>[anyP x]).length)),(10,.p (pI kk))],[(2,.cells (m0.pv.map .p))]⟩) t.length ⟨0,0,Yl _,rfl,rfl,rfl,rfl⟩ ?_;rintro n s ⟨k,_,hk,rfl,rfl,ha,rfl⟩;refine uA ?_;refine uC (fun hlt=>?_) (fun hlt=>?_)
 · refine qh ?_;rw[lt]at hlt;simp only[Yf]at hlt;have hlt':k<t.length:=by omega
   have hxl:=hl.2 _ (Yn hlt');rw[Xf hlt']at ha;refine Kx ?_;refine qm qc rfl rfl Dq rfl ?_;rw[qw hlt'];refine Ko ?_;generalize t[k]=x at*;have lx:(x.map fun y=>[wF y]).length=x.length:=by simp
   refine uA ?_;rw[lx];by_cases h1:x.length=1
   · rw[show((x.length:Int)!=1)=false by simp[h1]];obtain⟨y,rfl⟩:=List.length_eq_one_iff.1 h1;have hyl:=hxl.2 y DQ;have ly:(y.map Mat.pv).length=y.length:=by simp
     refine uC (fun hc=>?_) (fun hc=>?_)
     · cases hc
     refine Kv ?_;refine Kd ?_;refine Lx ?_;refine uZ [2,3,8,9,10,19,20,21] [(2,2)] ?_;change SW _ _ _ ⟨38,[(2,.ptr 2 0),(3,.p (pB false)),(8,.p (tgtP t)),(9,.p (pI (t.map fun x=>[anyP x]).length)),(10,.p (pI k)),(19,.p (wF y)),(20,.p (pI (y.map Mat.pv).length)),(21,.p (pI 0))],[(2,.cells (m0.pv.map .p))]⟩;refine qG (fun n s=>∃(j:Nat) (jj:Int),j<=y.length/\n=y.length-j/\jj=j/\keyM y=keyM (y.drop j)/\s=⟨38,[(2,.ptr 2 0),(3,.p (pB false)),(8,.p (tgtP t)),(9,.p (pI (t.map fun x=>[anyP x]).length)),(10,.p (pI k)),(19,.p (wF y)),(20,.p (pI (y.map Mat.pv).length)),(21,.p (pI jj))],[(2,.cells (m0.pv.map .p))]⟩) y.length ⟨0,0,Yl _,rfl,rfl,rfl,rfl⟩ ?_;rintro n s ⟨j,_,hj,rfl,rfl,hb,rfl⟩;refine uA ?_;refine uC (fun hlj=>?_) (fun hlj=>?_)
     · refine qh ?_;rw[ly]at hlj;simp only[Yf]at hlj;have hlj':j<y.length:=by omega
       rw[Xf hlj',keyM_cons]at hb;refine Kx ?_;refine qm qc rfl rfl (by rw[ly];omega) rfl ?_;rw[qw hlj'];refine Ko ?_;generalize y[j]=m at*;obtain⟨⟨ac,an,am⟩,mo,⟨vk,vn,vs⟩⟩:=m;refine KB ?_;refine uC (fun hq=>?_) (fun hq=>?_)
       · have hq':isKey ⟨⟨ac,an,am⟩,mo,⟨vk,vn,vs⟩⟩=true:=by
          unfold isKey;revert hq
          by_cases h:mo=1<;>cases am<;>simp[h]
         rw[hq',Yi rfl]at hb;rw[keyR_some hb]at ha;rw[ha];refine Kp ?_;exact XC
       · have hq':isKey ⟨⟨ac,an,am⟩,mo,⟨vk,vn,vs⟩⟩=false:=by
          unfold isKey;revert hq
          by_cases h:mo=1<;>cases am<;>simp[h]
         rw[hq',Yc DQ]at hb;refine Kw ?_;refine⟨_,_,?_,qj [2,3,8,9,10,19,20,21] [(2,2)] rfl rfl,j+1,_,hlj',rfl,qq hlj' DP,hb,rfl⟩;omega
     · refine qC ?_;rw[ly]at hlj;simp only[Yh]at hlj;have hjj:j=y.length:=by omega
       subst hjj;rw[List.drop_length]at hb;rw[keyR_none hb]at ha;refine uA ?_;refine MG ?_;omega
   · rw[show((x.length:Int)!=1)=true by simp;omega];rw[keyR_skip h1]at ha;refine uC (fun hc=>?_) (fun hc=>?_)
     · refine Ls ?_;refine MG ?_;omega
     · cases hc
 · refine qC ?_;rw[lt]at hlt;simp only[Yh]at hlt;have hkk:k=t.length:=by omega
   subst hkk;rw[List.drop_length,keyR_nil]at ha;rw[ha];refine Kp ?_;exact XC
def pickF (g:List Giv) (ks:List Pol) (i:Nat):Bool:=match ks[i]? with
 |some k=>wQ g k
 |none=>false
def pickN (g:List Giv) (ks:List Pol) (n:Nat):List Nat:=(List.range n).filter (pickF g ks)
theorem pickF_at {g:List Giv} {ks:List Pol} {k:Nat} (h:k<ks.length):pickF g ks k=wQ g ks[k]:=by
 unfold pickF;rw[Yj h]
theorem pickN_succ (g:List Giv) (ks:List Pol) (k:Nat):pickN g ks (k+1)=if pickF g ks k then pickN g ks k++[k]else pickN g ks k:=by
 unfold pickN;rw[List.range_succ,List.filter_append];cases h:pickF g ks k<;>simp[h]
theorem pickN_len (g:List Giv) (ks:List Pol) (n:Nat):(pickN g ks n).length<=n:=by
 have:=List.length_filter_le (pickF g ks) (List.range n);rw[List.length_range]at this;exact this
theorem pick_key (g:List Giv) (k:Pol):wQ g k=(!(keyR k.target).2||decide (wD (keyR k.target).1 g≠0)):=by
 unfold wQ keyR;cases keyS k.target with
 |none=>rfl
 |some m=>simp
def natsP (l:List Nat):List (List PV):=l.map fun(i:Nat)=>[pI (i:Int)]
theorem keyR_fit {t:Tar} (ht:TarFit t):(keyR t).1.Fit:=by
 unfold keyR;cases h:keyS t with
 |none=>exact⟨⟨⟨by decide,by decide⟩,by decide⟩,⟨by decide,by decide⟩,⟨⟨by decide,by decide⟩,⟨by decide,by decide⟩,by decide⟩⟩
 |some m=>
  obtain⟨_,_,x,hx,y,rfl,hm⟩:=keyS_of h;exact ht _ hx _ DQ _ hm
theorem pick_h (ks:List Pol) (g:List Giv) (hg:GivOk g) (hn:ks.length<=1000000) (hf:∀k∈ks,TarFit k.target/\TarSm k.target):Holds prog 184 [.sl 7 (ks.map polP),js g] (.row 0) [(0,.row 3 1 (natsP (pickN g ks ks.length)))]:=by
 have l2:((ks.map polP).length)=ks.length:=by simp
 refine qo (ts:=[4]) func184 DG rfl rfl rfl ?_;refine Lr ?_;refine SW.wk (zw 5 900 3 1 rfl rfl) ?_;refine uZ [1,5,10,11,12] [(900,0)] ?_;refine qG (fun m s=>∃(k:Nat) (kk:Int),k<=ks.length/\m=ks.length-k/\kk=k/\s=⟨37,[(1,.p (js g)),(5,.row 0),(10,.p (.sl 7 (ks.map polP))),(11,.p (pI (ks.map polP).length)),(12,.p (pI kk))],[(0,.row 3 1 (natsP (pickN g ks k)))]⟩) ks.length ⟨0,0,Yl _,rfl,rfl,rfl⟩ ?_;rintro m s ⟨k,_,hk',rfl,rfl,rfl⟩;have hpl:=pickN_len g ks k;refine uA ?_;refine uC (fun hlt=>?_) (fun hlt=>?_)
 · refine qh ?_;rw[l2]at hlt;simp only[Yf]at hlt;have hlt':k<ks.length:=by omega
   obtain⟨ht,hts⟩:=hf _ (Yn hlt');have hK:=key_h ks[k].target hts;have hM:=match2_h (keyR ks[k].target).1 g (keyR_fit ht) hg.fit hg.len hg.bags;have hP:=pick_key g ks[k];have hsucc:=pickN_succ g ks k;rw[pickF_at hlt']at hsucc;obtain⟨x,hx⟩:∃x,x=ks[k]:=⟨_,rfl⟩;rw[<-hx]at hK hM hP hsucc;refine Kx ?_;refine Rh ?_;rw[qw hlt',<-hx,qY];refine Kt ?_;refine uO hK ?_;refine qe ?_;generalize keyR x.target=r at*;obtain⟨m,b⟩:=r;simp only at hM hP;cases b with
   |false=>
    rw[show(!false||decide (wD m g≠0))=true from rfl]at hP;rw[hP,Yi rfl]at hsucc;refine uA ?_;refine uC (fun hq=>?_) (fun hq=>?_)
    · refine uR ?_;refine V8 ?_;refine Ku ?_;refine⟨_,_,?_,qj [1,5,10,11,12] [(34,0)] rfl rfl,k+1,_,hlt',rfl,qq hlt' DP,?_⟩
      · omega
      · rw[hsucc];unfold natsP;rw[Yr];rfl
    · cases hq
   |true=>
    rw[show(!true||decide (wD m g≠0))=decide (wD m g≠0)from rfl]at hP;refine uR ?_;refine uK hM ?_;refine qe ?_;refine uC (fun hq=>?_) (fun hq=>?_)
    · have h0:wD m g≠0:=by simpa using hq
      rw[hP,Yz h0,Yi rfl]at hsucc;refine uR ?_;refine V8 ?_;refine Ku ?_;refine⟨_,_,?_,qj [1,5,10,11,12] [(34,0)] rfl rfl,k+1,_,hlt',rfl,qq hlt' DP,?_⟩
      · omega
      · rw[hsucc];unfold natsP;rw[Yr];rfl
    · have h0:¬wD m g≠0:=by simpa using hq
      rw[hP,YB h0,Yc DQ]at hsucc;refine Kw ?_;refine⟨_,_,?_,qj [1,5,10,11,12] [(0,0)] rfl rfl,k+1,_,hlt',rfl,qq hlt' DP,by rw[hsucc];rfl⟩;omega
 · refine qC ?_;rw[l2]at hlt;simp only[Yh]at hlt;have hkk:k=ks.length:=by omega
   subst hkk;refine Kp ?_;exact uF [(0,0)]
def pickL (g:List Giv) (ks:List Pol) (k:Nat):List Pol:=(ks.take k).filter (wQ g)
theorem pickL_succ {g:List Giv} {ks:List Pol} {k:Nat} (h:k<ks.length):pickL g ks (k+1)=if pickF g ks k then pickL g ks k++[ks[k]]else pickL g ks k:=by
 unfold pickL;rw[pickF_at h,Ym h,List.filter_append];cases hp:wQ g ks[k]<;>simp[hp]
theorem sumBy_filter {α:Type} (f:α->Nat) (p:α->Bool):∀l:List α,qQ f (l.filter p)<=qQ f l
 |[]=>Yk _
 |x::l=>by
  have h:=sumBy_filter f p l;rw[List.filter_cons];simp only[qQ,Y2,List.sum_cons]at h⊢;split
  · rw[Y2,List.sum_cons];omega
  · omega
theorem kids_sz {p:Pol} {l:List Pol} (h:qQ Pol.sz l<=qQ Pol.sz p.kids):(p.putKids l).sz<=p.sz:=by
 have e1:=Pol.sz_eq p;have e2:(p.putKids l).sz=1+p.rules.length+txt p.id+tsz p.target+osz p.obls+qQ rusz p.rules+qQ Pol.sz l:=Pol.sz_eq (p.putKids l);omega
theorem evalS_right {p:Pol} {g:List Giv} (h:zW p=0):jp p g=(qX g 4 p,0):=by unfold jp;rw[if_pos h]
theorem polF_up:∀{n:Nat} {p:Pol},PolF n p->PolF (n+1) p
 |n+1,p,h=>⟨h.1,h.2.1,fun k hk=>polF_up (h.2.2 k hk)⟩
theorem polF_add {n:Nat} {p:Pol} (h:PolF n p):∀m,PolF (n+m) p
 |0=>h
 |m+1=>polF_up (polF_add h m)
theorem subP_le:∀{m n:Nat} {q p:Pol},m<=n->SubP n q p->SubP m q p
 |0,_,_,_,_,_=>True.intro
 |m+1,n+1,q,p,h,⟨e1,e2,e3,e4,e5,e6,hk⟩=>⟨e1,e2,e3,e4,e5,e6,by
  have:∀{a b:List Pol},SubL (SubP n) a b->SubL (SubP m) a b:=by
   intro a b hs
   induction hs with
   |nil=>exact .nil
   |skip _ ih=>exact .skip ih
   |keep hr _ ih=>exact .keep (subP_le DP hr) ih
  exact this hk⟩
theorem pickL_at {g:List Giv} {ks:List Pol}:∀{n:Nat} (hn:n<=ks.length) (d:Pol),(pickN g ks n).map (fun i=>ks.getD i d)=pickL g ks n
 |0,_,d=>by simp[pickN,pickL]
 |n+1,hn,d=>by
  have h1:=pickN_succ g ks n;have h2:=pickL_succ (g:=g) (show n<ks.length by omega);have ih:=pickL_at (g:=g) (ks:=ks) (show n<=ks.length by omega) d;rw[h1,h2];split
  · rw[Yr,ih];simp[show n<ks.length by omega]
  · exact ih
theorem pickN_lt {g:List Giv} {ks:List Pol} {n:Nat} {i:Nat} (h:i∈pickN g ks n):i<n:=by
 unfold pickN at h;have:=(List.mem_filter.1 h).1;simpa using this
theorem picked_f (g:List Giv):∀{n:Nat} {p:Pol},PolF n p->PolF n (zq g n p)
 |n+1,p,h=>⟨⟨h.1.id,h.1.tgt,h.1.rules,h.1.obls,h.1.nr,by
   have:=List.length_filter_le (wQ g) p.kids;show((p.kids.filter (wQ g)).map (zq g n)).length<=reachBytes;rw[Yb];exact Xj this h.1.nk⟩,h.2.1,fun k hk=>by
   have hk':k∈(p.kids.filter (wQ g)).map (zq g n):=hk;obtain⟨x,hx,rfl⟩:=Y1.1 hk';exact picked_f g (h.2.2 x (List.mem_filter.1 hx).1)⟩
theorem sumBy_mono {α:Type} {f h:α->Nat} (hle:∀x,f x<=h x):∀l:List α,qQ f l<=qQ h l
 |[]=>Yk _
 |x::l=>by
  have:=sumBy_mono hle l;have:=hle x;simp only[qQ,Y2,List.sum_cons]at*;omega
theorem picked_sz (g:List Giv):∀(n:Nat) (p:Pol),(zq g n p).sz<=p.sz
 |0,p=>Yk _
 |n+1,p=>by
  refine kids_sz ?_;have h1:qQ Pol.sz ((p.kids.filter (wQ g)).map (zq g n))=qQ (fun k=>(zq g n k).sz) (p.kids.filter (wQ g)):=by
   simp only[qQ,List.map_map];rfl
  rw[h1];exact Xj (sumBy_mono (picked_sz g n) _) (sumBy_filter _ _ _)
def PickOk (g:List Giv) (n:Nat):Prop:=∀(p:Pol),PolF n p->p.sz<=500000->Holds prog 121 [.agg (polP p),js g] (.p (.agg (polP (zq g n p)))) []
theorem picked_step {g:List Giv} (hG:GivOk g) (n:Nat) (IH:PickOk g n):PickOk g (n+1):=by
 intro p hf hsz;obtain⟨_,_,hkl,_,_,hks⟩:=sz_big hsz (Yk _);have HK:=fun k (hk:k∈p.kids)=>IH k (hf.2.2 k hk) (hks k hk)
 have hkf:∀k∈p.kids,TarFit k.target/\TarSm k.target:=fun k hk=>⟨((polF_fit 2 hf).2 k hk).1.tgt,(sz_big (hks k hk) (Yk _)).1⟩
 have hP:=(pick_h p.kids g hG DP hkf).row_sl;have eR:polP (zq g (n+1) p)=[pS p.id,pB p.set,pI p.alg,tgtP p.target,.sl 5 (p.rules.map zo),.sl 7 ((((pickN g p.kids p.kids.length).map (fun i=>p.kids.getD i p)).map (zq g n)).map polP),zh p.obls]:=by
  rw[qY,pickL_at (Yk _) p];unfold pickL;rw[Yu];rfl
 rw[eR,qY];clear eR
 have hlt:∀i∈pickN g p.kids p.kids.length,i<p.kids.length:=fun i hi=>pickN_lt hi
 have hLl:=pickN_len g p.kids p.kids.length;generalize pickN g p.kids p.kids.length=L at*;obtain⟨id,set,al,tg,rules,ks,obls⟩:=p;simp only[Pol.id,Pol.set,Pol.alg,Pol.target,Pol.rules,Pol.kids,Pol.obls]at*;simp only[natsP]at hP;have l2:((ks.map polP).length)=ks.length:=by simp
 have lL:((L.map fun(i:Nat)=>[pI (i:Int)]).length)=L.length:=by simp
 generalize Pol.mk id set al tg rules ks obls=d;refine .ofW ?_;refine qz (T:=TTab) qc func121 DG rfl rfl rfl ?_;refine uA ?_;refine Kq ?_;refine uO hP ?_;refine qe ?_;refine uB ?_;refine SW.wk (zw 5 900 38 7 rfl rfl) ?_;refine uZ [1,2,4,5,11,12,13] [(2,2),(4,4),(900,0)] ?_;refine qG (fun m s=>∃(k:Nat) (kk:Int),k<=L.length/\m=L.length-k/\kk=k/\s=⟨31,[(1,.p (js g)),(2,.ptr 2 0),(4,.ptr 4 0),(5,.row 0),(11,.p (.sl 1 (L.map fun(i:Nat)=>[pI (i:Int)]))),(12,.p (pI (L.map fun(i:Nat)=>[pI (i:Int)]).length)),(13,.p (pI kk))],[(2,.cells [.p (pS id),.p (pB set),.p (pI al),.p (tgtP tg),.p (.sl 5 (rules.map zo)),.p (.sl 7 (ks.map polP)),.p (zh obls)]),(4,.cells [.p (pS ⟨#[]⟩),.p (pB false),.p (pI 0),.p nilV,.p nilV,.p nilV,.p nilV]),(0,.row 38 7 ((((L.take k).map (fun i=>ks.getD i d)).map (zq g n)).map polP))]⟩) L.length ⟨0,0,Yl _,rfl,rfl,rfl⟩ ?_;rintro m s ⟨k,_,hk',rfl,rfl,rfl⟩;refine uA ?_;refine uC (fun hq=>?_) (fun hq=>?_)
 · refine qh ?_;rw[lL]at hq;simp only[Yf]at hq;have hq':k<L.length:=by omega
   obtain⟨i,hi⟩:∃i,i=L[k]:=⟨_,rfl⟩;have hil:=hlt _ (Yn hq');rw[<-hi]at hil;have H:=HK _ (Yn hil);have hgd:ks.getD i d=ks[i]:=by simp[hil]
   obtain⟨x,hx⟩:∃x,x=ks[i]:=⟨_,rfl⟩;rw[<-hx]at H hgd;refine Kx ?_;refine GI ?_;rw[qw hq',<-hi];refine Kt ?_;refine Rh ?_;rw[qw hil,<-hx,qY];refine uS ?_;rw[qY x,qY (zq g n x)]at H;refine uO H ?_;refine Lj ?_;refine Ku ?_;refine⟨_,_,?_,qj [1,2,4,5,11,12,13] [(2,2),(4,4),(26,0)] rfl rfl,k+1,_,hq',rfl,qq hq' DP,?_⟩
   · omega
   · have e:(((L.take (k+1)).map (fun i=>ks.getD i d)).map (zq g n)).map polP=(((L.take k).map (fun i=>ks.getD i d)).map (zq g n)).map polP++[[pS (zq g n x).id,pB (zq g n x).set,pI (zq g n x).alg,tgtP (zq g n x).target,.sl 5 ((zq g n x).rules.map zo),.sl 7 ((zq g n x).kids.map polP),zh (zq g n x).obls]]:=by
      rw[Ym hq',Yr,Yr,Yr,<-hi];have e1: [i].map (fun i=>ks.getD i d)=[x]:=congrArg (fun q=>[q]) hgd;rw[e1];exact congrArg (fun q=>(((L.take k).map (fun i=>ks.getD i d)).map (zq g n)).map polP++[q]) (qY _)
     rw[e];rfl
 · refine qC ?_;rw[lL]at hq;simp only[Yh]at hq;have hkk:k=L.length:=by omega
   subst hkk;rw[Yu];refine KX ?_;exact⟨Or.inr rfl,_,_,[],_,qu (k:=0) rfl,rfl,rfl,.refl _,rfl,rfl⟩
theorem picked_all {g:List Giv} (hG:GivOk g):∀n,PickOk g n
 |0=>fun _ h=>h.elim
 |n+1=>picked_step hG n (picked_all hG n)
theorem eval_picked (n:Nat) {p:Pol} {g:List Giv} (h:zW p=0):jp (zq g (n+4) p) g=jp p g:=by
 rw[evalS_right h,evalS_right (right_sub h (subP_le DP (sub_picked g (n+4) p))),decide_picked]
theorem decI_h {n:Nat} (p:Pol) (hf:PolF n p) (hsz:p.sz<=500000) (g:List Giv) (hg:GivOk g):Holds prog 70 [.agg (polP p),js g] (.tup [.p (.agg (rsP (jp p g).1)),.p (pI (jp p g).2)]) []:=by
 have HR:=right_h p (polF_fit 4 hf);by_cases h:zW p=0
 · have HP:=picked_all hg (n+4) p (polF_add hf 4) hsz;have HE:=evPol_h (zq g (n+4) p) (picked_f g (polF_add hf 4)) (Xj (picked_sz g _ p) hsz) g hg;rw[eval_picked n h]at HE;rw[h]at HR;generalize jp p g=r at*;generalize zq g (n+4) p=q at*;rw[qY p]at HR HP⊢;rw[qY q]at HP HE;refine .ofW ?_;refine qz (T:=TTab) qc func70 DG rfl rfl rfl ?_;refine Kq ?_;refine uK HR ?_;refine qe ?_;refine uC (fun hc=>?_) (fun hc=>?_)
   · cases hc
   refine Kv ?_;refine uO HP ?_;refine uS ?_;refine uO HE ?_;refine Ks ?_;exact XC
 · have eE:jp p g=(noRs,1):=by unfold jp;rw[Yc h]
   rw[eE];rw[qY]at HR⊢;refine .ofW ?_;refine qz (T:=TTab) qc func70 DG rfl rfl rfl ?_;refine Kq ?_;refine uK HR ?_;rw[show(zW p !=0)=true by simpa using h];refine qe ?_;refine uC (fun hc=>?_) (fun hc=>?_)
   · refine Kp ?_;exact GM
   · cases hc
def zc:PV:=.v (.complex .f64 0 0)
def rplS (e:Int) (m:PV) (g:Bool) (v:Val) (h:Bool) (a:Int):List SV:=[.p (pI e),.p m,.p (pB g),.p (pI v.kind),.p (pI v.n),.p (pS v.s),.p (pB h),.p (pI a)]
def zeroD:List SV:=[.p (pI 0),.p (pS ⟨#[]⟩),.p (pS ⟨#[]⟩),.p (pS ⟨#[]⟩),.p (pS ⟨#[]⟩),.p (pI 0),.p (pI 0),.p (pS ⟨#[]⟩),.p (pI 0),.p (pS ⟨#[]⟩),.p (pS ⟨#[]⟩),.p (pB false),.p (pI 0),.p zc,.p (pB false),.p nilV]
theorem bad_zero {X:Prs} {p:Pol} (h:(if X.bad≠0 then(noPol,X.bad,X.place)else(p,0,0):Pol×Int×Int).2.1=0):(if X.bad≠0 then(noPol,X.bad,X.place)else(p,0,0):Pol×Int×Int).2.2=0:=by
 by_cases hb:X.bad≠0
 · rw[Yi hb]at h;exact absurd h hb
 · rw[Yc hb]
theorem parse_zero {b:Bs} (h:(zk b).2.1=0):(zk b).2.2=0:=by
 unfold zk at h⊢;split at h
 · exact absurd h (show¬(6:Int)=0 by decide)
 · rename_i h1;rw[Yc h1];cases hl:lexL b with
   |error e=>rw[hl]at h;exact absurd h (show¬(5:Int)=0 by decide)
   |ok l=>
    rw[hl]at h;exact bad_zero h
theorem pre_zero {s:Sto} {o:Opn} (h:(preC s o).1=0):(preC s o).2=0:=by
 unfold preC at h⊢;split at h
 · rename_i h1;exact absurd h h1
 · rename_i h1;rw[Yc h1];split at h
   · rename_i h2;rw[Yi h2];exact parse_zero h
   · rename_i h2;rw[Yc h2]
theorem s1_len {s:Sto} (hs:s.Sm) (o:Opn) (r:DT) (g:Bool):(zl (if g=true then opnR s o r else s) o).Len:=by
 split
 · exact done_len (by show s.cases.length<=_;have:=hs.cases;omega) (fun c hc=>by have:=(hs.each c hc).2;omega) (by show(s.revs++[_]).length<=_;rw[Ya,YF];have:=hs.revs;omega) (by show s.ntcs.length<=_;have:=hs.ntcs;omega) o
 · exact done_len (by have:=hs.cases;omega) (fun c hc=>by have:=(hs.each c hc).2;omega) EY (by have:=hs.ntcs;omega) o
theorem actR_eq {s:Sto} {o:Opn} {r:Rs} {g d:Bool} {s1:Sto} (hg:brkC s o r.m=g) (hd:d=(decide (r.m=(2,0))||g)) (hs1:s1=if g then opnR s o o.reason else s):
 actR s o r=(dutR (if d then zl s1 o else s1) o r.obls d,⟨if d then 0 else 12,r.m,g,if d&&decide (o.kind=2)&&!(decide (o.kind=2)&&hidC r.obls o.field)then qao ((wa s.cases o.case_).getD noCas) o.field else noV,d&&(decide (o.kind=2)&&hidC r.obls o.field),0⟩,⟨o,s.ver,r.m,g,r.obls⟩):=by
 subst hg hd hs1;rfl
theorem decide_g (HF:InsF) (HC:InsC) (s:Sto) (hs:s.Sm) (o:Opn) (ho:o.Ok) (hG:GivOk (askC s o)) (hz:∀c∈s.cases,∀f∈c.fields,f.name.size<=1000000):Holds prog 31 [.agg s.pv,.agg o.pv] (.tup [.p (.agg (gdC s o).1.pv),.p (.agg (gdC s o).2.1.pv),.p (.agg (gdC s o).2.2.1.pv),.p (pI (gdC s o).2.2.2)]) []:=by
 have H1:=qaq s hs.ok o ho;obtain⟨T,hT⟩:∃T,T=gdC s o:=⟨_,rfl⟩;rw[<-hT];unfold gdC at hT;refine Vd ?_;show HoldsW _ _ [.p (.agg s.pv),.p (.agg o.pv)] [] _ _;refine qz (T:=TTab) qc func31 DG rfl rfl rfl ?_;refine uA ?_;(repeat refine qA ?_);refine sw_scope 0 (fun m st=>∃(e a:Int),T=(s,badR e a,noDcd,e)/\st=⟨131,[(2,.ptr 2 0),(4,.ptr 4 0),(5,.ptr 5 0),(6,.ptr 6 0),(12,.p (pI e)),(13,.p (pI a))],[(2,.cells (s.pv.map .p)),(4,.cells zeroS),(5,.cells (rplS 0 zc false noV false 0)),(6,.cells zeroD)]⟩) rfl ?_ ?_
 rotate_left
 · rintro m st ⟨e,a,hT,rfl⟩;refine Ut ?_;refine Kv ?_;refine KD ?_;rw[hT];exact⟨Or.inr rfl,_,_,[],_,Wk.refl _,rfl,rfl,.four (.refl _) (.refl _) (CvL.agg (.cons (.refl _) (.cons (.refl _) (.cons (.refl _) (.cons (.refl _) (.cons (.refl _) (.cons (.refl _) (.cons (.refl _) (.cons (.refl _) (.cons (.refl _) (.cons (.refl _) (.cons (.refl _) (.cons (.refl _) (.cons (.refl _) (.cons (.refl _) (.cons (.refl _) (.cons (.nil 3) .nil))))))))))))))))) (.refl _),rfl,rfl⟩
 refine LN ?_;refine Kq ?_;refine uK H1 ?_;refine Ko ?_;by_cases h0:rdyC s o=0
 · have hready:=h0;have hform:=ready_form h0;rw[h0];refine uR ?_;refine Ko ?_;have hpre:preC s o=if o.kind=7 then((zk o.text.data.toList).2.1,(zk o.text.data.toList).2.2)else(0,0):=by unfold preC;rw[Yc (by simp[h0])]
   refine Ut ?_;refine SW.mono (Q:=fun e st=>e=.normal/\Wk st ⟨131,[(2,.ptr 2 0),(3,.ptr 3 0),(4,.ptr 4 0),(5,.ptr 5 0),(6,.ptr 6 0),(8,.ptr 8 0),(9,.ptr 9 0),(10,.ptr 10 0),(11,.p (pB false)),(12,.p (pI (preC s o).1)),(13,.p (pI (preC s o).2))],[(2,.cells (s.pv.map .p)),(3,.cells (o.pv.map .p)),(8,.cells [.p zc,.p nilV]),(9,.cells (rplS 0 zc false noV false 0)),(10,.cells zeroS),(4,.cells zeroS),(5,.cells (rplS 0 zc false noV false 0)),(6,.cells zeroD)]⟩) ?_ ?_
   · by_cases h7:o.kind=7
     · have hsz:o.text.size<=4096:=by
        unfold wm at hform;simp only[Yp,Yf]at hform;exact hform.2.2.1
       have h9:o.text.data.toList.length=o.text.size:=by rw[Yx];rfl
       have HP:Holds prog 26 [pS o.text] (.tup [.p (.agg (polP (zk o.text.data.toList).1)),.p (pI (zk o.text.data.toList).2.1),.p (pI (zk o.text.data.toList).2.2)]) []:=parse_h o.text.data.toList EA;rw[hpre,Yi h7];rw[show(o.kind==7)=true by simp[h7]];refine uC (fun hx=>?_) (fun hx=>?_);rotate_left
       · cases hx
       refine uR ?_;refine uO HP ?_;refine Ko ?_;exact GN
     · rw[hpre,Yc h7];rw[show(o.kind==7)=false by simp[h7]];refine uC (fun hx=>?_) (fun hx=>?_)
       · cases hx
       refine qh ?_;exact GN
   rintro e st ⟨rfl,hw⟩;refine V3 ?_;clear hw hpre
   refine uA ?_;by_cases hp:(preC s o).1=0
   · rw[Yc (by simp[hp])]at hT;rw[show((preC s o).1!=0)=false by simp[hp]];refine uC (fun hx=>?_) (fun hx=>?_)
     · cases hx
     refine qh ?_;rw[hp,pre_zero hp];obtain⟨n,hpf⟩:=hs.pol;have HA:=ask_h s hs.ok hz o;have HD:=decI_h s.pol hpf hs.sz (askC s o) hG;rw[qY]at HD;generalize hev:jp s.pol (askC s o)=ev at*;obtain⟨r,e2⟩:=ev;simp only at HD hT;refine uD [8] [1,3,5,7,8,10,13,15,17,18,21] ?_;refine uo HA ?_;refine uT ?_;refine uo HD ?_;refine KG ?_;refine uA ?_;by_cases he2:e2=0
     · rw[Yc (by simp[he2])]at hT;rw[show(e2 !=0)=false by simp[he2]];refine uC (fun hx=>?_) (fun hx=>?_)
       · cases hx
       refine qh ?_;have hm:r.m∈mks:=by
        have h9:(jp s.pol (askC s o)).1.m∈mks:=by
         unfold jp;split
         · exact qak _ _ _
         · simp[noRs,mks]
        rw[hev]at h9;exact h9
       have hrl:r.obls.length<=500000:=by
        have h9:(jp s.pol (askC s o)).1.obls.length<=s.pol.sz:=by
         unfold jp;split
         · exact qbw _ _ _
         · exact Yl _
        rw[hev]at h9;have:=hs.sz;simp only at h9;omega
       have HB:=breaks_h s hs.ok o r.m hm;have HO:=ownG_h s hs.ok;obtain⟨A,hA⟩:∃A,A=actR s o r:=⟨_,rfl⟩;rw[<-hA]at hT;have hbg:brkC s o r.m=true->o.glass=true:=fun h=>by unfold brkC at h;rw[Yp]at h;exact h.1
       generalize hgb:brkC s o r.m=g at*;refine uD [9] [1,3,5,7,9,11,15,12,16,19,20] ?_;refine uk HB ?_;refine KG ?_;refine KB ?_;refine uZ [2,3,4,5,6,8,9,10,11,13] [(2,2),(3,3),(8,8),(9,9),(10,10),(4,4),(5,5),(6,6)] ?_;change SW _ _ _ ⟨131,[(2,.ptr 2 0),(3,.ptr 3 0),(4,.ptr 4 0),(5,.ptr 5 0),(6,.ptr 6 0),(8,.ptr 8 0),(9,.ptr 9 0),(10,.ptr 10 0),(11,.p (pB (bif mkE r.m (2,0)then true else g))),(13,.p (pI 0))],[(2,.cells (s.pv.map .p)),(3,.cells (o.pv.map .p)),(8,.cells [.p (mkP r.m),.p (zh r.obls)]),(9,.cells (rplS 0 (mkP r.m) g noV false 0)),(10,.cells zeroS),(4,.cells zeroS),(5,.cells (rplS 0 zc false noV false 0)),(6,.cells zeroD)]⟩;rw[show(bif mkE r.m (2,0)then true else g)=(decide (r.m=(2,0))||g)by rw[zt hm DH];cases decide (r.m=(2,0))<;>rfl];obtain⟨d,hd⟩:∃d,d=(decide (r.m=(2,0))||g):=⟨_,rfl⟩;rw[<-hd];obtain⟨s1,hs1⟩:∃s1,s1=if g then opnR s o o.reason else s:=⟨_,rfl⟩
       rw[actR_eq hgb hd hs1]at hA;refine uR ?_;refine uO HO ?_;refine Ku ?_;refine Ut ?_;refine SW.mono (Q:=fun e st=>e=.normal/\Wk st ⟨131,[(2,.ptr 2 0),(3,.ptr 3 0),(4,.ptr 4 0),(5,.ptr 5 0),(6,.ptr 6 0),(8,.ptr 8 0),(9,.ptr 9 0),(10,.ptr 10 0),(11,.p (pB d)),(13,.p (pI 0))],[(2,.cells (s.pv.map .p)),(3,.cells (o.pv.map .p)),(8,.cells [.p (mkP r.m),.p (zh r.obls)]),(9,.cells (rplS 0 (mkP r.m) g noV false 0)),(10,.cells (stoS s1.tick (.p (wc s1.cases)) (.row 901) (.row 902) (.p (zi s1.roles)) s1.pol s1.ver)),(901,.row 69 7 (s1.revs.map Rev.pv)),(902,.row 123 3 (s1.ntcs.map Ntc.pv)),(4,.cells zeroS),(5,.cells (rplS 0 zc false noV false 0)),(6,.cells zeroD)]⟩) ?_ ?_
       · have hnn:s.cases[s.cases.length]?=none:=YT (Yk _)
         have HOP:=open_h s EY s.cases.length o o.reason;rw[wU hnn,wU (show(opnR s o o.reason).cases[s.cases.length]?=none from hnn)]at HOP
         cases g with
         |true=>
          simp only[if_true]at hs1;subst s1;refine uC (fun hx=>?_) (fun hx=>?_);rotate_left
          · cases hx
          refine uR ?_;refine uW [(10,1000000),(64001,1000001),(64002,1000002)] HOP ?_;refine qe ?_;exact⟨rfl,qj [2,3,4,5,6,8,9,10,11,13] [(2,2),(3,3),(8,8),(9,9),(10,10),(70001,901),(70002,902),(4,4),(5,5),(6,6)] rfl rfl⟩
         |false=>
          simp only[YC,if_false]at hs1;subst s1;refine uC (fun hx=>?_) (fun hx=>?_)
          · cases hx
          refine qh ?_;exact⟨rfl,qj [2,3,4,5,6,8,9,10,11,13] [(2,2),(3,3),(8,8),(9,9),(10,10),(64001,901),(64002,902),(4,4),(5,5),(6,6)] rfl rfl⟩
       rintro e st ⟨rfl,hw⟩;refine V3 ?_;clear hw
       refine uA ?_;cases hdd:d with
       |false=>
        rw[hdd]at hA hd;simp only[YC,if_false,Bool.false_and]at hA;obtain⟨U,hU⟩:∃U,U=dutR s1 o r.obls false:=⟨_,rfl⟩;rw[<-hU]at hA;rw[hA]at hT;simp only at hT;have hlen1:s1.Len:=by rw[hs1];split;exact hs.opl o o.reason;exact hs.len
        have hnn:s1.cases[s1.cases.length]?=none:=YT (Yk _)
        have hUi:=dutI s1 o r.obls false r.obls.length (Yk _);rw[Yu,<-hU]at hUi;have hUn:U.cases[s1.cases.length]?=none:=YT (by rw[hUi.len];exact Yk _)
        have HDU:=gduties_h s1 hlen1 o r.obls DP false s1.cases.length (fun h=>by cases h);rw[<-hU,wU hnn,wU hUn]at HDU;have HOV:=overC_h U (by rw[hUi.len];have:=hlen1.cases;omega);refine uC (fun hx=>?_) (fun hx=>?_)
        · cases hx
        refine Kq ?_;refine uW [(10,1000000),(901,1000001),(902,1000002)] HDU ?_;refine qe ?_;refine SW.wk ((qu (k:=111001) rfl).trans (qu (k:=111002) rfl)) ?_;refine Gh ?_;refine(?_:SW _ _ _ ⟨131,[(2,.ptr 2 0),(3,.ptr 3 0),(4,.ptr 4 0),(5,.ptr 5 0),(6,.ptr 6 0),(8,.ptr 8 0),(9,.ptr 9 0),(10,.ptr 10 0),(13,.p (pI 0))],[(2,.cells (s.pv.map .p)),(3,.cells (o.pv.map .p)),(8,.cells [.p (mkP r.m),.p (zh r.obls)]),(9,.cells (rplS 12 (mkP r.m) g noV false 0)),(10,.cells (stoS U.tick (.p (wc U.cases)) (.p (jX U.revs)) (.p (qan U.ntcs)) (.p (zi U.roles)) U.pol U.ver)),(4,.cells zeroS),(5,.cells (rplS 0 zc false noV false 0)),(6,.cells zeroD)]⟩);skip
        refine uR ?_;refine uK HOV ?_;refine qe ?_;cases hov:overC U with
        |true=>
         rw[hov]at hT;refine uC (fun hx=>?_) (fun hx=>?_);rotate_left
         · cases hx
         refine uA ?_;refine Uo ?_;exact VF
        |false=>
         rw[hov]at hT;refine uC (fun hx=>?_) (fun hx=>?_)
         · cases hx
         refine qh ?_;refine Kj ?_;refine UN ?_;refine UO ?_;refine UP ?_;refine UQ ?_;refine UR ?_;refine US ?_;refine UT ?_;refine UU ?_;refine UV ?_;refine UW ?_;refine UK ?_;refine UL ?_;refine Vr ?_;refine Xy ?_;refine Vv ?_;refine Xy ?_;refine KE ?_;refine UM ?_;refine XH ?_;refine M3 ?_;refine ?fk26_248;rotate_left;refine uQ ?_;rw[hT];exact XC
       |true=>
        rw[hdd]at hA hd;simp only[if_true,Bool.true_and]at hA;have hready1:rdyC s1 o=0:=by
         rw[hs1];split
         · rename_i hg;rw[rdy_opn _ (glass_kind hform (hbg hg))];exact hready
         · exact hready
        have hok1:s1.Ok:=by rw[hs1];split;exact hs.opn o o.reason;exact hs.ok
        have HDn:=done_h HF HC s1 hok1 o ho hready1;have hlen:(zl s1 o).Len:=by rw[hs1];exact s1_len hs o o.reason g
        obtain⟨t,ht⟩:∃t,t=zl s1 o:=⟨_,rfl⟩;rw[<-ht]at HDn hA hlen;obtain⟨Hh,hHh⟩:∃Hh,Hh=(decide (o.kind=2)&&hidC r.obls o.field):=⟨_,rfl⟩;rw[<-hHh]at hA;obtain⟨V,hV⟩:∃V,V=if(decide (o.kind=2)&&!Hh)=true then qao ((wa s.cases o.case_).getD noCas) o.field else noV:=⟨_,rfl⟩
        rw[<-hV]at hA;obtain⟨U,hU⟩:∃U,U=dutR t o r.obls true:=⟨_,rfl⟩;rw[<-hU]at hA;rw[hA]at hT;simp only at hT;have HHd:=hides_h r.obls o.field DP;have HCs:=case_h s hs.ok o.case_;have HFd:=fieldC_h ((wa s.cases o.case_).getD noCas) o.field (by
         cases hcc:wa s.cases o.case_ with
         |none=>exact Yl _
         |some c=>
          obtain⟨h1,h2,_⟩:=zQ hcc;have:=(hs.each c (h2▸Yn h1)).1;show c.fields.length<=_;omega)
        have hUi:=dutI t o r.obls true r.obls.length (Yk _);rw[Yu,<-hU]at hUi;have HDU:=gduties_h t hlen o r.obls DP true (qR t.cases o.case_) (fun _=>rfl);rw[<-hU]at HDU;have HOV:=overC_h U (by rw[hUi.len];have:=hlen.cases;omega);generalize hii:qR t.cases o.case_=i at*;unfold stR stW at HDn;cases hti:t.cases[i]? with
        |none=>
         have hUn:U.cases[i]?=none:=YT (by rw[hUi.len];exact List.getElem?_eq_none_iff.1 hti)
         rw[hti]at HDn;dsimp only at HDn;rw[wU hti,wU hUn]at HDU;refine SW.wk ((qu (k:=901) rfl).trans (qu (k:=902) rfl)) ?_;refine uC (fun hx=>?_) (fun hx=>?_);rotate_left
         · cases hx
         refine uR ?_;refine uO HDn ?_;refine Ko ?_;refine Ut ?_;refine SW.mono (Q:=fun e st=>e=.normal/\Wk st ⟨131,[(2,.ptr 2 0),(3,.ptr 3 0),(4,.ptr 4 0),(5,.ptr 5 0),(6,.ptr 6 0),(8,.ptr 8 0),(9,.ptr 9 0),(10,.ptr 10 0),(11,.p (pB true)),(13,.p (pI 0))],[(2,.cells (s.pv.map .p)),(3,.cells (o.pv.map .p)),(8,.cells [.p (mkP r.m),.p (zh r.obls)]),(9,.cells (rplS 0 (mkP r.m) g noV Hh 0)),(10,.cells (stoS t.tick (.p (wc t.cases)) (.row 901) (.row 902) (.p (zi t.roles)) t.pol t.ver)),(901,.row 69 7 (t.revs.map Rev.pv)),(902,.row 123 3 (t.ntcs.map Ntc.pv)),(4,.cells zeroS),(5,.cells (rplS 0 zc false noV false 0)),(6,.cells zeroD)]⟩) ?_ ?_
         · by_cases k2:o.kind=2
           · refine uR ?_;rw[show(o.kind==2)=true by simp[k2]];refine uS ?_;refine uK HHd ?_;refine Ko ?_;rw[show Hh=hidC r.obls o.field by rw[hHh,Yz k2];rfl];exact Gq
           · refine uR ?_;rw[show(o.kind==2)=false by simp[k2]];refine Ko ?_;rw[show Hh=false by rw[hHh,YB k2];rfl];exact Gq
         rintro e st ⟨rfl,hw⟩;refine V3 ?_;clear hw
         refine KB ?_;rw[show(bif o.kind==2 then !Hh else false)=(decide (o.kind=2)&&!Hh)by by_cases k2:o.kind=2<;>simp[k2]];refine Ut ?_;refine SW.mono (Q:=fun e st=>e=.normal/\Wk st ⟨131,[(2,.ptr 2 0),(3,.ptr 3 0),(4,.ptr 4 0),(5,.ptr 5 0),(6,.ptr 6 0),(8,.ptr 8 0),(9,.ptr 9 0),(10,.ptr 10 0),(11,.p (pB true)),(13,.p (pI 0))],[(2,.cells (s.pv.map .p)),(3,.cells (o.pv.map .p)),(8,.cells [.p (mkP r.m),.p (zh r.obls)]),(9,.cells (rplS 0 (mkP r.m) g V Hh 0)),(10,.cells (stoS t.tick (.p (wc t.cases)) (.row 901) (.row 902) (.p (zi t.roles)) t.pol t.ver)),(901,.row 69 7 (t.revs.map Rev.pv)),(902,.row 123 3 (t.ntcs.map Ntc.pv)),(4,.cells zeroS),(5,.cells (rplS 0 zc false noV false 0)),(6,.cells zeroD)]⟩) ?_ ?_
         · cases hv:(decide (o.kind=2)&&!Hh)with
           |true=>
            rw[hv]at hV;simp only[if_true]at hV;subst hV;refine uC (fun hx=>?_) (fun hx=>?_);rotate_left
            · cases hx
            refine uR ?_;refine uO HCs ?_;refine Kt ?_;refine uO HFd ?_;refine Ko ?_;exact Gw
           |false=>
            rw[hv]at hV;simp only[YC,if_false]at hV;subst hV;refine uC (fun hx=>?_) (fun hx=>?_)
            · cases hx
            refine qh ?_;exact Gw
         rintro e st ⟨rfl,hw⟩;refine V3 ?_;clear hw
         refine uR ?_;refine uW [(10,1000000),(901,1000001),(902,1000002)] HDU ?_;refine qe ?_;refine SW.wk ((qu (k:=111001) rfl).trans (qu (k:=111002) rfl)) ?_;refine Gh ?_;refine(?_:SW _ _ _ ⟨131,[(2,.ptr 2 0),(3,.ptr 3 0),(4,.ptr 4 0),(5,.ptr 5 0),(6,.ptr 6 0),(8,.ptr 8 0),(9,.ptr 9 0),(10,.ptr 10 0),(13,.p (pI 0))],[(2,.cells (s.pv.map .p)),(3,.cells (o.pv.map .p)),(8,.cells [.p (mkP r.m),.p (zh r.obls)]),(9,.cells (rplS 0 (mkP r.m) g V Hh 0)),(10,.cells (stoS U.tick (.p (wc U.cases)) (.p (jX U.revs)) (.p (qan U.ntcs)) (.p (zi U.roles)) U.pol U.ver)),(4,.cells zeroS),(5,.cells (rplS 0 zc false noV false 0)),(6,.cells zeroD)]⟩);skip
         refine uR ?_;refine uK HOV ?_;refine qe ?_;cases hov:overC U with
         |true=>
          rw[hov]at hT;refine uC (fun hx=>?_) (fun hx=>?_);rotate_left
          · cases hx
          refine uA ?_;refine Uo ?_;exact VF
         |false=>
          rw[hov]at hT;refine uC (fun hx=>?_) (fun hx=>?_)
          · cases hx
          refine qh ?_;refine Kj ?_;refine UN ?_;refine UO ?_;refine UP ?_;refine UQ ?_;refine UR ?_;refine US ?_;refine UT ?_;refine UU ?_;refine UV ?_;refine UW ?_;refine UK ?_;refine UL ?_;refine Vr ?_;refine Xy ?_;refine Vv ?_;refine Xy ?_;refine KE ?_;refine UM ?_;refine XH ?_;refine M3 ?_;refine ?fk26_403;rotate_left;refine uQ ?_;rw[hT];exact XC
        |some c=>
         obtain⟨c',hc'⟩:∃c',U.cases[i]?=some c':=⟨_,Yj (by rw[hUi.len];exact(Yq.1 hti).1)⟩
         have hone:∀x∈[c'.pv],x.length=5/\∀q∈x,oneP q=true:=fun x hx=>by rw[YA]at hx;subst hx;exact wN c'
         rw[hti]at HDn;dsimp only at HDn;rw[gO_some hti,gO_some hc']at HDU;unfold gS at HDU;simp only[Nat.reduceAdd]at HDU;refine SW.wk ((qu (k:=901) rfl).trans (qu (k:=902) rfl)) ?_;refine uC (fun hx=>?_) (fun hx=>?_);rotate_left
         · cases hx
         refine uR ?_;refine uO HDn ?_;refine Ko ?_;refine Ut ?_;refine SW.mono (Q:=fun e st=>e=.normal/\Wk st ⟨131,[(2,.ptr 2 0),(3,.ptr 3 0),(4,.ptr 4 0),(5,.ptr 5 0),(6,.ptr 6 0),(8,.ptr 8 0),(9,.ptr 9 0),(10,.ptr 10 0),(11,.p (pB true)),(13,.p (pI 0))],[(2,.cells (s.pv.map .p)),(3,.cells (o.pv.map .p)),(8,.cells [.p (mkP r.m),.p (zh r.obls)]),(9,.cells (rplS 0 (mkP r.m) g noV Hh 0)),(10,.cells (stoS t.tick (.row 903) (.row 901) (.row 902) (.p (zi t.roles)) t.pol t.ver)),(901,.row 69 7 (t.revs.map Rev.pv)),(902,.row 123 3 (t.ntcs.map Ntc.pv)),(903,.rws 91 5 ((t.cases.take i).map Cas.pv) (casL c 904) ((t.cases.drop (i+1)).map Cas.pv)),(904,.row 119 3 (c.log.map Hap.pv)),(4,.cells zeroS),(5,.cells (rplS 0 zc false noV false 0)),(6,.cells zeroD)]⟩) ?_ ?_
         · by_cases k2:o.kind=2
           · refine uR ?_;rw[show(o.kind==2)=true by simp[k2]];refine uS ?_;refine uK HHd ?_;refine Ko ?_;rw[show Hh=hidC r.obls o.field by rw[hHh,Yz k2];rfl];exact UE
           · refine uR ?_;rw[show(o.kind==2)=false by simp[k2]];refine Ko ?_;rw[show Hh=false by rw[hHh,YB k2];rfl];exact UE
         rintro e st ⟨rfl,hw⟩;refine V3 ?_;clear hw
         refine KB ?_;rw[show(bif o.kind==2 then !Hh else false)=(decide (o.kind=2)&&!Hh)by by_cases k2:o.kind=2<;>simp[k2]];refine Ut ?_;refine SW.mono (Q:=fun e st=>e=.normal/\Wk st ⟨131,[(2,.ptr 2 0),(3,.ptr 3 0),(4,.ptr 4 0),(5,.ptr 5 0),(6,.ptr 6 0),(8,.ptr 8 0),(9,.ptr 9 0),(10,.ptr 10 0),(11,.p (pB true)),(13,.p (pI 0))],[(2,.cells (s.pv.map .p)),(3,.cells (o.pv.map .p)),(8,.cells [.p (mkP r.m),.p (zh r.obls)]),(9,.cells (rplS 0 (mkP r.m) g V Hh 0)),(10,.cells (stoS t.tick (.row 903) (.row 901) (.row 902) (.p (zi t.roles)) t.pol t.ver)),(901,.row 69 7 (t.revs.map Rev.pv)),(902,.row 123 3 (t.ntcs.map Ntc.pv)),(903,.rws 91 5 ((t.cases.take i).map Cas.pv) (casL c 904) ((t.cases.drop (i+1)).map Cas.pv)),(904,.row 119 3 (c.log.map Hap.pv)),(4,.cells zeroS),(5,.cells (rplS 0 zc false noV false 0)),(6,.cells zeroD)]⟩) ?_ ?_
         · cases hv:(decide (o.kind=2)&&!Hh)with
           |true=>
            rw[hv]at hV;simp only[if_true]at hV;subst hV;refine uC (fun hx=>?_) (fun hx=>?_);rotate_left
            · cases hx
            refine uR ?_;refine uO HCs ?_;refine Kt ?_;refine uO HFd ?_;refine Ko ?_;exact UJ
           |false=>
            rw[hv]at hV;simp only[YC,if_false]at hV;subst hV;refine uC (fun hx=>?_) (fun hx=>?_)
            · cases hx
            refine qh ?_;exact UJ
         rintro e st ⟨rfl,hw⟩;refine V3 ?_;clear hw
         refine uR ?_;refine uW [(10,1000000),(901,1000001),(902,1000002),(903,1000003),(904,1000004)] HDU ?_;refine qe ?_;refine SW.wk ((qu (k:=111004) rfl).trans ((qaT (k:=111003) [c'.pv] rfl rfl hone).trans ((qu (k:=111003) rfl).trans ((qu (k:=111001) rfl).trans (qu (k:=111002) rfl))))) ?_;refine Gh ?_;refine(?_:SW _ _ _ ⟨131,[(2,.ptr 2 0),(3,.ptr 3 0),(4,.ptr 4 0),(5,.ptr 5 0),(6,.ptr 6 0),(8,.ptr 8 0),(9,.ptr 9 0),(10,.ptr 10 0),(13,.p (pI 0))],[(2,.cells (s.pv.map .p)),(3,.cells (o.pv.map .p)),(8,.cells [.p (mkP r.m),.p (zh r.obls)]),(9,.cells (rplS 0 (mkP r.m) g V Hh 0)),(10,.cells (stoS U.tick (.p (.sl 5 ((U.cases.take i).map Cas.pv++([c'.pv]++(U.cases.drop (i+1)).map Cas.pv)))) (.p (jX U.revs)) (.p (qan U.ntcs)) (.p (zi U.roles)) U.pol U.ver)),(4,.cells zeroS),(5,.cells (rplS 0 zc false noV false 0)),(6,.cells zeroD)]⟩);rw[jd hc'];refine uR ?_;refine uK HOV ?_;refine qe ?_;cases hov:overC U with
         |true=>
          rw[hov]at hT;refine uC (fun hx=>?_) (fun hx=>?_);rotate_left
          · cases hx
          refine uA ?_;refine Uo ?_;exact VF
         |false=>
          rw[hov]at hT;refine uC (fun hx=>?_) (fun hx=>?_)
          · cases hx
          refine qh ?_;refine Kj ?_;refine UN ?_;refine UO ?_;refine UP ?_;refine UQ ?_;refine UR ?_;refine US ?_;refine UT ?_;refine UU ?_;refine UV ?_;refine UW ?_;refine UK ?_;refine UL ?_;refine Vr ?_;refine Xy ?_;refine Vv ?_;refine Xy ?_;refine KE ?_;refine UM ?_;refine XH ?_;refine M3 ?_;refine ?fk26_524;rotate_left;refine uQ ?_;rw[hT];exact XC
     · rw[Yi he2]at hT;rw[show(e2 !=0)=true by simp[he2]];refine uC (fun hx=>?_) (fun hx=>?_);rotate_left
       · cases hx
       refine Uo ?_;exact VF
   · rw[Yi hp]at hT;rw[show((preC s o).1!=0)=true by simp[hp]];refine uC (fun hx=>?_) (fun hx=>?_);rotate_left
     · cases hx
     refine Uo ?_;exact VF
 · rw[show preC s o=(rdyC s o,0)by unfold preC;rw[Yi h0]]at hT;rw[Yi h0]at hT;generalize rdyC s o=e at*;refine uR ?_;rw[show(e==0)=false by simp[h0]];refine Ko ?_;refine uC (fun hx=>?_) (fun hx=>?_)
   · cases hx
   refine Kw ?_;rw[show(e !=0)=true by simp[h0]];refine uC (fun hx=>?_) (fun hx=>?_);rotate_left
   · cases hx
   refine Uo ?_;exact VF
end
section
open Go.RowKit Go.Lib
attribute [local go_sem] wY jA
attribute [local go_sem low] jz zZ
theorem cel_rowO {z:Nat} {w:World} {e:TypeId} {v:Value} {css:List (Cel z)} (h:OwnF Subtype.val z w 0 e v css):RowO (fun _ _ cs (y:Cel z)=>cs=y.val) z (fun _=>True) w 0 e v css:=⟨css,h,rfl,fun i h1 h2=>rfl⟩
theorem cel_ownF {z:Nat} {w:World} {e:TypeId} {v:Value} {css:List (Cel z)} (h:RowO (fun _ _ cs (y:Cel z)=>cs=y.val) z (fun _=>True) w 0 e v css):OwnF Subtype.val z w 0 e v css:=by
 obtain⟨l,h1,h2,h3⟩:=h;have e:l=css:=List.ext_getElem h2 fun i a b=>Subtype.ext (h3 i a b)
 rw[<-e];exact h1
theorem ins_flat {z:Nat} (css:List (Cel z)) (x:Cel z) (i:Nat):(css.take i++x::css.drop i).flatMap Subtype.val=(css.flatMap Subtype.val).take (i*z)++x.val++(css.flatMap Subtype.val).drop (i*z):=by
 rw[List.flatMap_append,YW,flatC_take (fun x:Cel z=>x.2.1),flatC_drop (fun x:Cel z=>x.2.1),YU]
theorem ins_endF (w:World) (v u:Value) (css:List (Cel 4)) (x:Cel 4) (hv:OwnF Subtype.val 4 w 0 96 v css) (hu:OwnF Subtype.val 4 w 0 96 u [x]) (hne:v.ownBlock≠u.ownBlock) (hn:css.length<=1000):
 Calls prog 192 #[v,.int .i64 css.length,u] w fun ex w'=>∃v',ex=.returned v'/\OwnF Subtype.val 4 w' 0 96 v' (css++[x])/\w.grownBy w' v.ownBlock/\(v'.ownBlock=v.ownBlock\/v'.ownBlock=some w.heap.size):=by
 obtain⟨i0,zv,hi0,hzs,hzb,hz0,hzc⟩:=(qc 96 _ rfl).info;have hzb4:i0.bytes<=1000:=by rw[hzb];decide
 have hzc4:zv.cells.size=4:=by rw[<-Yx,hzc];rfl
 have hun:=qaG hu;rcases hu.2 with⟨_,h0⟩|⟨vb,vc,curv,rfl,_,hh2,hvc,_,hcs2,htake2⟩
 · simp at h0
 have hx:∀j b,x.val[j]?=some b->w.cell? ⟨vb,0+0*4+j,none⟩=some b:=fun j b hj=>by
  rw[jL hh2,show 0+0*4+j=j by omega];have e:curv.toList.take 4=x.val:=by simpa using htake2
  exact wM e hj
 obtain⟨v',w',hrun,g1,g2,g3⟩:=wy (P:=prog) (R:=fun _ _ cs (y:Cel 4)=>cs=y.val) (ok:=fun _=>True) ⟨fun _ _ _ _ _ _ h=>h,fun _ _ _ _ _ _ h=>h⟩ 88 88 0 96 i0 zv i0.bytes underlying88 hi0 hz0 hzs rfl hzc4 (by show 0<4;decide)
  v css (cel_rowO hv) (some ⟨vb,0,none⟩) vc [x] (fun _=>⟨vb,0,rfl,lt_of_block hh2,fun i hi=>by
    have:i=0:=by simpa using hi
    subst this;exact⟨x.val,x.2.1,fun j b hj=>hx j b hj,x.2.2,rfl⟩⟩) (show css.length+1<=maxLen by unfold maxLen;omega) (Xj (Nat.mul_le_mul (show css.length+[x].length<=1001 by simp;omega) hzb4) DO) (Yl _) trivial
 obtain⟨A,c,hve,hnc⟩:=hv.shape;subst hve;have hc63:c<=9223372036854775807:=by
  rcases hv.2 with⟨e,_⟩|⟨g,cap,cur,e,_,_,_,hm,_⟩
  · simp only[Value.slice.injEq]at e;omega
  · simp only[Value.slice.injEq]at e;unfold maxLen at hm;omega
 have hrun':∀ty,(Builtin.append_ #[88,88] ty #[.slice A css.length c,.slice (some ⟨vb,0,none⟩) 1 vc]).run prog w=.ok v' w':=fun ty=>by
  have h:=hrun;unfold Builtin.append_ at h⊢;exact h
 have hfin:=cel_ownF g1;clear g1 hrun hx hv hu htake2
 replace hfin:=hide hfin
 generalize css.length=n at hrun' hnc hc63 hn g2 g3⊢;have hob:∀a b,(Value.slice A n a).ownBlock=(Value.slice A n b).ownBlock:=fun a b=>by cases A<;>rfl
 go_enter func192,ntmps192
 go_wp2_with (at_builtin;refine Lib.wpList_append_run _ rfl _ _ _ _ rfl _ _ rfl rfl _ _ (hrun' _) ?_)
 all_goals(go_ret;exact⟨v',rfl,hfin.out,by first|exact g2|(rw[hob n c];exact g2),by first|exact g3|(rw[hob n c];exact g3)⟩)
theorem ins_rawF:InsRaw prog 192 96 4:=by
 refine⟨⟨_,func192,by kernel_rfl,by kernel_rfl⟩,fun w v u css x i hv hu hne hi hn=>?_⟩;by_cases he:i=css.length
 · subst he;rw[Yu,List.drop_length];exact ins_endF w v u css x hv hu hne hn
 · have h1c:∀b∈css.flatMap Subtype.val,b.oneCell'=true:=fun b hb=>by
    obtain⟨y,_,hy⟩:=List.mem_flatMap.1 hb;exact y.2.2 b hy
   have hfl:=ins_flat css x i;have hll:(css.take i++x::css.drop i).length=css.length+1:=by simp only[Ya,Yd,Yg,Yo];omega
   have hfl2:((css.take i++x::css.drop i).flatMap Subtype.val).length=(css.length+1)*4:=by rw[zU (fun x:Cel 4=>x.2.1),hll]
   rcases hu.2 with⟨_,h0⟩|⟨vb,vc,curv,rfl,_,hh2,hvc,_,hcs2,htake2⟩
   · simp at h0
   have e1:curv.toList.take 4=x.val:=by simpa using htake2
   have hvc':1<=vc:=by simpa using hvc
   rcases hv.2 with⟨_,h0⟩|⟨g,c,cur,rfl,_,hh,hnc,hcm,hcs,htake⟩
   · omega
   have hvb:vb≠g:=fun h=>hne DF
   by_cases hr:css.length+1<=c
   · refine(ins_shiftF w g css.length c i vb vc cur curv _ _ DP hr (by unfold maxLen at hcm;omega) hvb hh htake hcs hh2 e1 DP h1c x.2.2).mono ?_;rintro ex w' ⟨rfl,X,hL,hX1,hX2⟩;have hg:w'.heap[g]?=some (.cells X 96 (0,0)):=by rw[hL.heap];exact setRow_heap w g cur X 96 (0,0) hh
     refine⟨_,rfl,⟨hll▸hfl2,.inr ⟨g,c,X,by rw[hll],Yl _,hg,by rw[hll];exact hr,hcm,by rw[hX1,hcs],by rw[hll,hX2,hfl]⟩⟩,⟨hL.os,hL.tape,hL.output,by rw[hL.heap,setRow_size];exact Yk _,fun k hk hne=>?_⟩,Or.inl rfl⟩;rw[hL.heap,setRow_other w g k X (fun h=>hne DF)]
   · refine(ins_growF w g css.length c i vb vc cur curv _ _ DP hnc DP hn hvb hh htake hcs hh2 e1 DP h1c x.2.2).mono ?_;rintro ex w' ⟨G,rfl,hG1,hG2,X,hL,hX1,hX2⟩;have hg:w'.heap[w.heap.size]?=some (.cells X 96 (0,0)):=by rw[hL.heap];exact heap_alloc_new w _
     refine⟨_,rfl,⟨hll▸hfl2,.inr ⟨w.heap.size,G,X,by rw[hll],Yl _,hg,by rw[hll];exact hG1,hG2,hX1,by rw[hll,hX2,hfl]⟩⟩,⟨hL.os,hL.tape,hL.output,by rw[hL.heap];exact((Below.refl w.heap.size w).alloc (Yk _) _).size,fun k hk hne=>?_⟩,Or.inr rfl⟩;rw[hL.heap];exact((Below.refl _ w).alloc (Yk _) _).block k hk
theorem ins_endC (w:World) (v u:Value) (css:List (Cel 5)) (x:Cel 5) (hv:OwnF Subtype.val 5 w 0 91 v css) (hu:OwnF Subtype.val 5 w 0 91 u [x]) (hne:v.ownBlock≠u.ownBlock) (hn:css.length<=1000):
 Calls prog 129 #[v,.int .i64 css.length,u] w fun ex w'=>∃v',ex=.returned v'/\OwnF Subtype.val 5 w' 0 91 v' (css++[x])/\w.grownBy w' v.ownBlock/\(v'.ownBlock=v.ownBlock\/v'.ownBlock=some w.heap.size):=by
 obtain⟨i0,zv,hi0,hzs,hzb,hz0,hzc⟩:=(qc 91 _ rfl).info;have hzb4:i0.bytes<=1000:=by rw[hzb];decide
 have hzc4:zv.cells.size=5:=by rw[<-Yx,hzc];rfl
 have hun:=qaG hu;rcases hu.2 with⟨_,h0⟩|⟨vb,vc,curv,rfl,_,hh2,hvc,_,hcs2,htake2⟩
 · simp at h0
 have hx:∀j b,x.val[j]?=some b->w.cell? ⟨vb,0+0*5+j,none⟩=some b:=fun j b hj=>by
  rw[jL hh2,show 0+0*5+j=j by omega];have e:curv.toList.take 5=x.val:=by simpa using htake2
  exact wM e hj
 obtain⟨v',w',hrun,g1,g2,g3⟩:=wy (P:=prog) (R:=fun _ _ cs (y:Cel 5)=>cs=y.val) (ok:=fun _=>True) ⟨fun _ _ _ _ _ _ h=>h,fun _ _ _ _ _ _ h=>h⟩ 28 28 0 91 i0 zv i0.bytes underlying28 hi0 hz0 hzs rfl hzc4 (by show 0<5;decide)
  v css (cel_rowO hv) (some ⟨vb,0,none⟩) vc [x] (fun _=>⟨vb,0,rfl,lt_of_block hh2,fun i hi=>by
    have:i=0:=by simpa using hi
    subst this;exact⟨x.val,x.2.1,fun j b hj=>hx j b hj,x.2.2,rfl⟩⟩) (show css.length+1<=maxLen by unfold maxLen;omega) (Xj (Nat.mul_le_mul (show css.length+[x].length<=1001 by simp;omega) hzb4) DO) (Yl _) trivial
 obtain⟨A,c,hve,hnc⟩:=hv.shape;subst hve;have hc63:c<=9223372036854775807:=by
  rcases hv.2 with⟨e,_⟩|⟨g,cap,cur,e,_,_,_,hm,_⟩
  · simp only[Value.slice.injEq]at e;omega
  · simp only[Value.slice.injEq]at e;unfold maxLen at hm;omega
 have hrun':∀ty,(Builtin.append_ #[28,28] ty #[.slice A css.length c,.slice (some ⟨vb,0,none⟩) 1 vc]).run prog w=.ok v' w':=fun ty=>by
  have h:=hrun;unfold Builtin.append_ at h⊢;exact h
 have hfin:=cel_ownF g1;clear g1 hrun hx hv hu htake2
 replace hfin:=hide hfin
 generalize css.length=n at hrun' hnc hc63 hn g2 g3⊢;have hob:∀a b,(Value.slice A n a).ownBlock=(Value.slice A n b).ownBlock:=fun a b=>by cases A<;>rfl
 go_enter func129,ntmps129
 go_wp2_with (at_builtin;refine Lib.wpList_append_run _ rfl _ _ _ _ rfl _ _ rfl rfl _ _ (hrun' _) ?_)
 all_goals(go_ret;exact⟨v',rfl,hfin.out,by first|exact g2|(rw[hob n c];exact g2),by first|exact g3|(rw[hob n c];exact g3)⟩)
theorem ins_rawC:InsRaw prog 129 91 5:=by
 refine⟨⟨_,func129,by kernel_rfl,by kernel_rfl⟩,fun w v u css x i hv hu hne hi hn=>?_⟩;by_cases he:i=css.length
 · subst he;rw[Yu,List.drop_length];exact ins_endC w v u css x hv hu hne hn
 · have h1c:∀b∈css.flatMap Subtype.val,b.oneCell'=true:=fun b hb=>by
    obtain⟨y,_,hy⟩:=List.mem_flatMap.1 hb;exact y.2.2 b hy
   have hfl:=ins_flat css x i;have hll:(css.take i++x::css.drop i).length=css.length+1:=by simp only[Ya,Yd,Yg,Yo];omega
   have hfl2:((css.take i++x::css.drop i).flatMap Subtype.val).length=(css.length+1)*5:=by rw[zU (fun x:Cel 5=>x.2.1),hll]
   rcases hu.2 with⟨_,h0⟩|⟨vb,vc,curv,rfl,_,hh2,hvc,_,hcs2,htake2⟩
   · simp at h0
   have e1:curv.toList.take 5=x.val:=by simpa using htake2
   have hvc':1<=vc:=by simpa using hvc
   rcases hv.2 with⟨_,h0⟩|⟨g,c,cur,rfl,_,hh,hnc,hcm,hcs,htake⟩
   · omega
   have hvb:vb≠g:=fun h=>hne DF
   by_cases hr:css.length+1<=c
   · refine(ins_shiftC w g css.length c i vb vc cur curv _ _ DP hr (by unfold maxLen at hcm;omega) hvb hh htake hcs hh2 e1 DP h1c x.2.2).mono ?_;rintro ex w' ⟨rfl,X,hL,hX1,hX2⟩;have hg:w'.heap[g]?=some (.cells X 91 (0,0)):=by rw[hL.heap];exact setRow_heap w g cur X 91 (0,0) hh
     refine⟨_,rfl,⟨hll▸hfl2,.inr ⟨g,c,X,by rw[hll],Yl _,hg,by rw[hll];exact hr,hcm,by rw[hX1,hcs],by rw[hll,hX2,hfl]⟩⟩,⟨hL.os,hL.tape,hL.output,by rw[hL.heap,setRow_size];exact Yk _,fun k hk hne=>?_⟩,Or.inl rfl⟩;rw[hL.heap,setRow_other w g k X (fun h=>hne DF)]
   · refine(ins_growC w g css.length c i vb vc cur curv _ _ DP hnc DP hn hvb hh htake hcs hh2 e1 DP h1c x.2.2).mono ?_;rintro ex w' ⟨G,rfl,hG1,hG2,X,hL,hX1,hX2⟩;have hg:w'.heap[w.heap.size]?=some (.cells X 91 (0,0)):=by rw[hL.heap];exact heap_alloc_new w _
     refine⟨_,rfl,⟨hll▸hfl2,.inr ⟨w.heap.size,G,X,by rw[hll],Yl _,hg,by rw[hll];exact hG1,hG2,hX1,by rw[hll,hX2,hfl]⟩⟩,⟨hL.os,hL.tape,hL.output,by rw[hL.heap];exact((Below.refl w.heap.size w).alloc (Yk _) _).size,fun k hk hne=>?_⟩,Or.inr rfl⟩;rw[hL.heap];exact((Below.refl _ w).alloc (Yk _) _).block k hk
theorem insF_ok:InsF:=fun l i x hi hn=>by
 have h:=insF_of ins_rawF (l.map Fld.pv) x.pv i Dt (by rw[Yb];exact hn);rw[<-List.map_take,<-List.map_drop,<-Y2,<-Yr]at h;exact h
theorem insC_ok:InsC:=fun l i id owner state g hi hn=>by
 have h:=insC_of (z:=4) (e2:=119) (z2:=3) ins_rawC (l.map Cas.pv) (pS id) (pS owner) (pS state) g i Dt (by rw[Yb];exact hn);rw[<-List.map_take,<-List.map_drop]at h;exact h
end
section
open Go.RowKit
theorem bl_irr:∀l:List UInt8,Op.bytesLess l l=false
 |[]=>rfl
 |a::l=>by simp[Op.bytesLess,bl_irr l]
theorem bl_trans:∀{a b c:List UInt8},Op.bytesLess a b=true->Op.bytesLess b c=true->Op.bytesLess a c=true
 |a,[],c,h,_=>by cases a<;>simp[Op.bytesLess]at h
 |a,_::_,[],_,h=>by simp[Op.bytesLess]at h
 |[],_::_,_::_,_,_=>rfl
 |a::x,b::y,c::z,h,k=>by
  simp only[Op.bytesLess,Xm,Yp,Yf,beq_iff_eq]at h k⊢;rcases h with h|⟨rfl,h⟩
  · rcases k with k|⟨rfl,k⟩
    · left;simp only[UInt8.lt_iff_toNat_lt]at*;omega
    · left;exact h
  · rcases k with k|⟨rfl,k⟩
    · left;exact k
    · right;exact⟨rfl,bl_trans h k⟩
theorem bl_tot:∀{a b:List UInt8},Op.bytesLess a b=false->Op.bytesLess b a=false->a=b
 |[],[],_,_=>rfl
 |[],_::_,h,_=>by simp[Op.bytesLess]at h
 |_::_,[],_,h=>by simp[Op.bytesLess]at h
 |a::x,b::y,h,k=>by
  simp only[Op.bytesLess,Bool.or_eq_false_iff,Bool.and_eq_false_iff,Yh,beq_eq_false_iff_ne]at h k;have e:a=b:=UInt8.toNat_inj.1 (by
   have h1:=h.1;have k1:=k.1;simp only[UInt8.lt_iff_toNat_lt]at h1 k1;omega)
  subst e;have h2:=h.2.resolve_left fun h=>h rfl
  have k2:=k.2.resolve_left fun h=>h rfl
  rw[bl_tot h2 k2]
theorem less_irr (s:DT):jx s s=false:=bl_irr _
theorem less_trans {a b c:DT} (h:jx a b=true) (k:jx b c=true):jx a c=true:=bl_trans h k
theorem less_tot {a b:DT} (h:jx a b=false) (k:jx b a=false):a=b:=by
 have:=bl_tot h k;rw[ByteArray.toList_eq,ByteArray.toList_eq]at this;cases a;cases b;simp only[ByteArray.mk.injEq];exact Xw.1 this
theorem less_ge {a b:DT} (h:jx a b=false) (hne:a≠b):jx b a=true:=by
 cases k:jx b a with
 |true=>rfl
 |false=>exact absurd (less_tot h k) hne
section
variable {α:Type} (k:α->DT)
def Srt (l:List α):Prop:=l.Pairwise fun a b=>jx (k a) (k b)=true
def plc (l:List α) (id:DT):Nat:=l.findIdx fun c=>!jx (k c) id
variable {k}
theorem plc_le (l:List α) (id:DT):plc k l id<=l.length:=List.findIdx_le_length
theorem plc_bef {l:List α} {id:DT} {j:Nat} (hj:j<plc k l id) (hl:j<l.length):jx (k l[j]) id=true:=by
 have:=List.not_of_lt_findIdx (p:=fun c=>!jx (k c) id) hj;simpa using this
theorem plc_at {l:List α} {id:DT} (h:plc k l id<l.length):jx (k l[plc k l id]) id=false:=by
 have:=List.findIdx_getElem (p:=fun c=>!jx (k c) id) (w:=h);rw[Xo]at this;exact this
theorem srt_plc {l:List α} (h:Srt k l) {i:Nat} (hi:i<l.length):plc k l (k l[i])=i:=by
 refine(Xx hi).2 ⟨by rw[less_irr];rfl,fun j hj=>?_⟩;have:=(List.pairwise_iff_getElem.1 h) j i DP hi hj;rw[this];rfl
theorem srt_set {l:List α} (h:Srt k l) {i:Nat} {x:α} (hx:∀y,l[i]?=some y->k x=k y):Srt k (l.set i x):=by
 refine List.pairwise_iff_getElem.2 fun a b ha hb hab=>?_
 rw[Xh]at ha hb;have h1:=(List.pairwise_iff_getElem.1 h) a b ha hb hab;have e:∀j (hj:j<l.length),k ((l.set i x)[j]'(by rw[Xh];exact hj))=k l[j]:=fun j hj=>by
  rw[List.getElem_set];split
  · rename_i hij;subst hij;exact hx _ (Yj hj)
  · rfl
 rw[e a ha,e b hb];exact h1
theorem srt_ins {l:List α} (h:Srt k l) {x:α} (hno:∀y,l[plc k l (k x)]?=some y->k y≠k x):Srt k (l.take (plc k l (k x))++x::l.drop (plc k l (k x))):=by
 have hp:=List.pairwise_iff_getElem.1 h;have hle:=plc_le (k:=k) l (k x);have hbef:∀j (hj:j<plc k l (k x)) (hl:j<l.length),jx (k l[j]) (k x)=true:=fun j hj hl=>plc_bef hj hl
 have haft:∀j (hj:plc k l (k x)<=j) (hl:j<l.length),jx (k x) (k l[j])=true:=fun j hj hl=>by
  have hlt:plc k l (k x)<l.length:=by omega
  have h0:jx (k x) (k l[plc k l (k x)])=true:=less_ge (plc_at hlt) (hno _ (Yj hlt));by_cases e:plc k l (k x)=j
  · subst e;exact h0
  · exact less_trans h0 (hp _ _ hlt hl DP)
 generalize plc k l (k x)=p at*;unfold Srt;rw[List.pairwise_append];refine⟨h.sublist (List.take_sublist _ _),?_,fun a ha b hb=>?_⟩
 · rw[List.pairwise_cons];refine⟨fun b hb=>?_,h.sublist (List.drop_sublist _ _)⟩;obtain⟨j,hj,rfl⟩:=List.mem_iff_getElem.1 hb;rw[List.getElem_drop];exact haft _ DP _
 · obtain⟨i,hi,rfl⟩:=List.mem_iff_getElem.1 ha;rw[List.getElem_take];rw[Yd]at hi;rcases Y0.1 hb with rfl|hb
   · exact hbef _ DP _
   · obtain⟨j,hj,rfl⟩:=List.mem_iff_getElem.1 hb;rw[List.getElem_drop];rw[Yo]at hj;exact hp _ _ DP DP DP
end
def wtK (t:Tok):Nat:=8+t.s.length
section
variable (l:List Tok)
def Phi (k:Nat):Nat:=qQ wtK (l.take k)
variable {l}
theorem sumBy_app {α:Type} (f:α->Nat) (a b:List α):qQ f (a++b)=qQ f a+qQ f b:=by
 unfold qQ;rw[Yr,List.sum_append]
theorem jC {i j:Nat} (h:i<=j):Phi l i<=Phi l j:=by
 unfold Phi;have:=sumBy_take wtK (l.take j) i;rwa [List.take_take,Nat.min_eq_left h]at this
theorem qaB {s:Prs} (h:s.at_<l.length):Phi l s.next.at_=Phi l s.at_+(8+(ze l s).s.length):=by
 unfold Phi Prs.next;rw[sumBy_step h,hereQ_at h];rfl
theorem here_lt {s:Prs} (h:(ze l s).kind≠7):s.at_<l.length:=by
 apply Xa;intro hn;unfold ze at h;rw[List.getD_eq_getElem?_getD,YT DP]at h;exact h rfl
theorem jQ {s:Prs} {w:Bs} (h:isQ l s w=true):s.at_<l.length/\s.bad=0/\(ze l s).s=w:=by
 unfold isQ at h;simp only[Yp,Xm,Yf]at h;exact⟨here_lt DP,h.1.1,h.1.2⟩
theorem syn_at (s:Prs):(synQ l s).at_=s.at_:=jv _ _ _
theorem lim_at (s:Prs) (m:Bool):(limQ l s m).at_=s.at_:=by
 unfold limQ;split
 · exact jv _ _ _
 · rfl
theorem must_at (s:Prs) (w:Bs):s.at_<=(zT l s w).at_:=by
 unfold zT;split
 · exact Xr _
 · rw[syn_at];exact Yk _
theorem take_at (s:Prs) (w:Bs):s.at_<=(qab l s w).2.at_:=by
 unfold qab;split
 · exact Xr _
 · exact Yk _
theorem among_at (s:Prs) (ws:List Bs):s.at_<=(qO l s ws).2.at_:=by
 unfold qO;split
 · exact Xr _
 · rw[syn_at];exact Yk _
theorem mop_at (s:Prs):s.at_<=(mopQ l s).2.at_:=by
 unfold mopQ;repeat' split
 all_goals first|exact Xr _|(rw[syn_at];exact Yk _)
theorem txt_bs (s:Bs):txt (bs s)<=1+s.length:=by
 unfold txt;have:(bs s).size=s.length:=rfl
 omega
theorem name_sz (s:Prs):s.at_<=(zH l s).2.at_/\txt (bs (zH l s).1)+Phi l s.at_<=1+Phi l (zH l s).2.at_:=by
 unfold zH;dsimp only;by_cases hk:(ze l s).kind=1
 · rw[Yi hk];split
   · exact⟨Nat.le_refl _,by have:=txt_bs [];simp only[List.length_nil]at this;dsimp only;omega⟩
   · have:=qaB (here_lt (l:=l) (s:=s) DP);have h2:=txt_bs (ze l s).s;exact⟨Nat.le_succ _,by dsimp only;omega⟩
 · rw[Yc hk,Yi (syn_bad s)];dsimp only;rw[syn_at];exact⟨Yk _,by have:=txt_bs [];simp only[List.length_nil]at this;omega⟩
theorem atr_sz (s:Prs):s.at_<=(qaY l s).2.at_/\txt (qaY l s).1.name+Phi l s.at_<=1+Phi l (qaY l s).2.at_:=by
 have h1:=among_at (l:=l) s wCats;have h2:=must_at (l:=l) (qO l s wCats).2 [46];have h3:=name_sz (l:=l) (zT l (qO l s wCats).2 [46]);have h4:=take_at (l:=l) (zH l (zT l (qO l s wCats).2 [46])).2 [33];have p1:=jC (l:=l) (Xj h1 h2);have p4:=jC (l:=l) h4;unfold qaY;dsimp only;exact V5
theorem valK_sz {s:Prs} {v:Val} (h:valK l s=some v):s.at_<l.length/\txt v.s<=1+(ze l s).s.length:=by
 unfold valK at h;dsimp only at h;have hb:=txt_bs (ze l s).s;have h0:txt ⟨#[]⟩=1:=rfl
 repeat' split at h
 all_goals first
  |(cases h;done)
  |(cases h;refine⟨?_,by dsimp only;omega⟩;first|exact here_lt DP|exact(jQ DI).1)
theorem val_sz (s:Prs):s.at_<=(valQ l s).2.at_/\txt (valQ l s).1.s+Phi l s.at_<=1+Phi l (valQ l s).2.at_:=by
 have h0:txt noV.s=1:=rfl;unfold valQ;split
 · rename_i v hv;obtain⟨h1,h2⟩:=valK_sz hv;have:=qaB h1;split
   · exact⟨Nat.le_refl _,by dsimp only;omega⟩
   · exact⟨Nat.le_succ _,by dsimp only;omega⟩
 · dsimp only;rw[syn_at];exact⟨Yk _,by omega⟩
def Bd {β:Type} (f:β->Nat) (c:Nat) (g:Prs->β×Prs):Prop:=∀s,s.at_<=(g s).2.at_/\f (g s).1+Phi l s.at_<=c+Phi l (g s).2.at_
theorem mat_sz:Bd (l:=l) msz 2 (matQ l):=fun s=>by
 have h1:=atr_sz (l:=l) s;have h2:=mop_at (l:=l) (qaY l s).2;have h3:=val_sz (l:=l) (mopQ l (qaY l s).2).2;have p2:=jC (l:=l) h2;unfold matQ msz;dsimp only;exact V5
theorem sep_sz {β:Type} {f:β->Nat} {c:Nat} {g:Prs->β×Prs} (hg:Bd (l:=l) f c g) (hc:c+1<=8) (w:Bs):∀(n:Nat) (acc:List β) (s:Prs),s.at_<=(sepQ l w g n acc s).2.at_/\(sepQ l w g n acc s).1.length+qQ f (sepQ l w g n acc s).1+Phi l s.at_<=acc.length+qQ f acc+Phi l (sepQ l w g n acc s).2.at_
 |0,acc,s=>⟨Yk _,Yk _⟩
 |n+1,acc,s=>by
  rw[sepQ];split
  · rename_i hi;have h1:=hg s.next;have h2:=qaB (jQ hi).1;have ih:=sep_sz hg hc w n (acc++[(g s.next).1]) (limQ l (g s.next).2 (decide (8<acc.length+1)));have e1:qQ f (acc++[(g s.next).1])=qQ f acc+f (g s.next).1:=by rw[sumBy_app];simp[qQ]
    rw[lim_at,e1,Ya,YF]at ih;have e2:s.next.at_=s.at_+1:=rfl;exact V5
  · exact⟨Yk _,Yk _⟩
theorem all_sz:Bd (l:=l) asz 4 (allQ l):=fun s=>by
 have h1:=mat_sz (l:=l) s;have h2:=sep_sz (l:=l) mat_sz DP [44] (l.length+1) [(matQ l s).1] (matQ l s).2;have e:qQ msz [(matQ l s).1]=msz (matQ l s).1:=by simp[qQ]
 rw[e,YF]at h2;unfold allQ asz;exact V5
theorem any_sz:Bd (l:=l) xsz 6 (anyQ l):=fun s=>by
 have h0:=must_at (l:=l) s [40];have h1:=all_sz (l:=l) (zT l s [40]);have h2:=sep_sz (l:=l) all_sz DP wOr (l.length+1) [(allQ l (zT l s [40])).1] (allQ l (zT l s [40])).2;have e:qQ asz [(allQ l (zT l s [40])).1]=asz (allQ l (zT l s [40])).1:=by simp[qQ]
 rw[e,YF]at h2;have h3:=must_at (l:=l) (sepQ l wOr (allQ l) (l.length+1) [(allQ l (zT l s [40])).1] (allQ l (zT l s [40])).2).2 [41];have p0:=jC (l:=l) h0;have p3:=jC (l:=l) h3;unfold anyQ xsz;dsimp only;exact V5
theorem tar_sz:Bd (l:=l) tsz 1 (tarQ l):=fun s=>by
 unfold tarQ;split
 · rename_i hi;have h1:=any_sz (l:=l) s.next;have h0:=qaB (jQ hi).1;have h2:=sep_sz (l:=l) any_sz DP wAnd (l.length+1) [(anyQ l s.next).1] (anyQ l s.next).2;have e:qQ xsz [(anyQ l s.next).1]=xsz (anyQ l s.next).1:=by simp[qQ]
   have e2:s.next.at_=s.at_+1:=rfl;rw[e,YF]at h2;unfold tsz;exact V5
 · exact⟨Yk _,Yk _⟩
theorem obl_sz:Bd (l:=l) (fun o:Obli=>txt o.arg) 1 (oblQ l):=fun s=>by
 have h1:=among_at (l:=l) s wSides;have h2:=among_at (l:=l) (qO l s wSides).2 wKinds;have h3:=name_sz (l:=l) (qO l (qO l s wSides).2 wKinds).2;have p1:=jC (l:=l) (Xj h1 h2);unfold oblQ;dsimp only;exact V5
theorem dut_sz:Bd (l:=l) osz 0 (dutQ l):=fun s=>by
 have h2:=sep_sz (l:=l) obl_sz DP wOn (l.length+1) [] s;have e:qQ (fun o:Obli=>txt o.arg) []=0:=rfl;rw[e,List.length_nil]at h2;unfold dutQ osz;exact V5
def nls (c:List Nod):Nat:=c.length+qQ nsz c
theorem nls_snoc (c:List Nod) (n:Nod):nls (c++[n])=nls c+(1+nsz n):=by
 unfold nls;rw[sumBy_app,Ya,YF];simp[qQ];omega
def BdE (ex:List Nod->Prs->(List Nod×Bool)×Prs):Prop:=∀acc s,s.at_<=(ex acc s).2.at_/\nls (ex acc s).1.1+Phi l s.at_<=nls acc+3+Phi l (ex acc s).2.at_
theorem opd_sz {ex:List Nod->Prs->(List Nod×Bool)×Prs} (hE:BdE (l:=l) ex) (acc:List Nod) (s:Prs) (m:Bool):s.at_<=(opdQ l ex acc s m).2.at_/\nls (opdQ l ex acc s m).1+Phi l s.at_<=nls acc+3+Phi l (opdQ l ex acc s m).2.at_:=by
 have h:=hE acc s;unfold opdQ;dsimp only;split
 · exact h
 · rw[jv];exact h
theorem opds_sz {ex:List Nod->Prs->(List Nod×Bool)×Prs} (hE:BdE (l:=l) ex):∀(ms:List Bool) (acc:List Nod) (s:Prs),s.at_<=(wS l ex ms acc s).2.at_/\nls (wS l ex ms acc s).1+Phi l s.at_<=nls acc+3*ms.length+Phi l (wS l ex ms acc s).2.at_
 |[],acc,s=>⟨Yk _,Yk _⟩
 |m::ms,acc,s=>by
  rw[wS];split
  · exact⟨Nat.le_refl _,by dsimp only;omega⟩
  · have h1:=opd_sz hE acc s m;have ih:=opds_sz hE ms (opdQ l ex acc s m).1 (opdQ l ex acc s m).2;rw[Yg];exact V5
theorem operands_len (op:Int):(je op).length<=2:=by
 unfold je;repeat' split
 all_goals decide
theorem nod_sz {ex:List Nod->Prs->(List Nod×Bool)×Prs} (hE:BdE (l:=l) ex) (acc:List Nod) (s:Prs):s.at_<=(nodQ l ex acc s).2.at_/\nls (nodQ l ex acc s).1.1+(1+nsz (nodQ l ex acc s).1.2)+Phi l s.at_<=nls acc+3+Phi l (nodQ l ex acc s).2.at_:=by
 have z1:txt noAtr.name=1:=rfl;have z2:txt noV.s=1:=rfl;unfold nodQ;split
 · rename_i hi;have h0:=qaB (jQ hi).1;have e2:s.next.at_=s.at_+1:=rfl;have h1:=among_at (l:=l) s.next qaH;have h2:=opds_sz hE (je (2+(qO l s.next qaH).1)) acc (qO l s.next qaH).2;have h3:=must_at (l:=l) (wS l ex (je (2+(qO l s.next qaH).1)) acc (qO l s.next qaH).2).2 [41];have p1:=jC (l:=l) h1;have p3:=jC (l:=l) h3;have ho:=operands_len (2+(qO l s.next qaH).1);unfold funQ nsz;dsimp only;exact V5
 · split
   · have h:=atr_sz (l:=l) s;unfold nsz;dsimp only;exact⟨h.1,by omega⟩
   · have h:=val_sz (l:=l) s;unfold nsz;dsimp only;exact⟨h.1,by omega⟩
theorem expr_sz:∀n,BdE (l:=l) (zr l n)
 |0=>fun acc s=>⟨Yk _,by show nls acc+Phi l s.at_<=nls acc+3+Phi l s.at_;omega⟩
 |n+1=>fun acc s=>by
  have h:=nod_sz (expr_sz n) acc s;rw[zr];dsimp only;rw[lim_at,nls_snoc];exact⟨h.1,by omega⟩
theorem rul_sz (deny:Bool):Bd (l:=l) rusz 5 (rulQ l deny):=fun s=>by
 have h1:=name_sz (l:=l) s;have h2:=tar_sz (l:=l) (zH l s).2;have h3:∀(t:Prs),t.at_<=(if isQ l t wIf then opdQ l (zr l (l.length+1)) [] t.next false else([],t)).2.at_/\nls (if isQ l t wIf then opdQ l (zr l (l.length+1)) [] t.next false else([],t)).1+Phi l t.at_<=Phi l (if isQ l t wIf then opdQ l (zr l (l.length+1)) [] t.next false else([],t)).2.at_:=fun t=>by
  split
  · rename_i hi;have h0:=qaB (jQ hi).1;have h:=opd_sz (expr_sz (l:=l) (l.length+1)) [] t.next false;have e2:t.next.at_=t.at_+1:=rfl;have e3:nls []=0:=rfl;exact V5
  · exact⟨Yk _,by show 0+Phi l t.at_<=Phi l t.at_;omega⟩
 have h4:=h3 (tarQ l (zH l s).2).2;clear h3
 unfold rulQ rusz;dsimp only;generalize (if isQ l (tarQ l (zH l s).2).2 wIf then opdQ l (zr l (l.length+1)) [] (tarQ l (zH l s).2).2.next false else([],(tarQ l (zH l s).2).2))=c at*;have h5:=dut_sz (l:=l) c.2;have h6:=must_at (l:=l) (dutQ l c.2).2 [59];have p6:=jC (l:=l) h6;unfold nls at h4;exact V5
theorem some_sz:∀(n:Nat) (acc:List Rul) (s:Prs),s.at_<=(jY l n acc s).2.at_/\(jY l n acc s).1.length+qQ rusz (jY l n acc s).1+Phi l s.at_<=acc.length+qQ rusz acc+Phi l (jY l n acc s).2.at_
 |0,acc,s=>⟨Yk _,Yk _⟩
 |n+1,acc,s=>by
  rw[jY];split
  · rename_i hi;dsimp only;have hlt:s.at_<l.length:=by
     rcases Bool.or_eq_true_iff.1 hi with h|h
     · exact(jQ h).1
     · exact(jQ h).1
    generalize hs1:limQ l s (decide (acc.length=16)||decide (s.rules=64))=s1;have ha:s1.at_=s.at_:=by rw[<-hs1,lim_at]
    split
    · rw[ha];exact⟨Yk _,Yk _⟩
    · generalize hs2:({s1 with rules:=Go.IntKind.i64.wrap (s1.rules+1),at_:=s1.at_+1}:Prs)=s2;have e2:s2.at_=s.at_+1:=by rw[<-hs2,<-ha]
      have h0:=qaB hlt;have e3:s.next.at_=s.at_+1:=rfl;have h1:=rul_sz (l:=l) (isQ l s1 qbo) s2;have ih:=some_sz n (acc++[(rulQ l (isQ l s1 qbo) s2).1]) (rulQ l (isQ l s1 qbo) s2).2;have e1:qQ rusz (acc++[(rulQ l (isQ l s1 qbo) s2).1])=qQ rusz acc+rusz (rulQ l (isQ l s1 qbo) s2).1:=by rw[sumBy_app];simp[qQ]
      rw[e1,Ya,YF]at ih;rw[e3]at h0;rw[e2]at h1;exact V5
  · exact⟨Yk _,Yk _⟩
def BdP (pk:Prs->Pol×Prs):Prop:=∀s,s.at_<=(pk s).2.at_/\(pk s).1.sz+Phi l s.at_<=3+Phi l (pk s).2.at_/\((isQ l s zx||isQ l s wSet)=true->(pk s).1.sz+5+Phi l s.at_<=Phi l (pk s).2.at_)
theorem qkids_sz {pk:Prs->Pol×Prs} (hP:BdP (l:=l) pk) (d:Int):∀(n:Nat) (acc:List Pol) (s:Prs),s.at_<=(ju l pk d n acc s).2.at_/\qQ Pol.sz (ju l pk d n acc s).1+Phi l s.at_<=qQ Pol.sz acc+Phi l (ju l pk d n acc s).2.at_
 |0,acc,s=>⟨Yk _,Yk _⟩
 |n+1,acc,s=>by
  rw[ju];split
  · rename_i hi;dsimp only;have hb:s.bad=0:=by
     rcases Bool.or_eq_true_iff.1 hi with h|h
     · exact(jQ h).2.1
     · exact(jQ h).2.1
    generalize hs1:limQ l s (decide (acc.length=16)||decide (d>4))=s1;have ha:s1.at_=s.at_:=by rw[<-hs1,lim_at]
    split
    · rw[ha];exact⟨Yk _,Yk _⟩
    · rename_i hb1;have e:s1=s:=by
       rw[<-hs1]at hb1⊢;unfold limQ at hb1⊢;split
       · rename_i hm;rw[Yi hm]at hb1;unfold jq at hb1;rw[Yi hb]at hb1;exact absurd (show(6:Int)≠0 by decide) hb1
       · rfl
      rw[e];have h1:=hP s;have h2:=h1.2.2 hi;have ih:=qkids_sz hP d n (acc++[(pk s).1]) (pk s).2;have e1:qQ Pol.sz (acc++[(pk s).1])=qQ Pol.sz acc+(pk s).1.sz:=by rw[sumBy_app];simp[qQ]
      rw[e1]at ih;exact V5
  · exact⟨Yk _,Yk _⟩
theorem among_first {s:Prs} (h:(isQ l s zx||isQ l s wSet)=true) (hk:(ze l s).kind≠6):Phi l s.at_+8<=Phi l (qO l s [zx,wSet]).2.at_:=by
 have hq:isQ l s (ze l s).s=true/\(ze l s).s∈[zx,wSet]:=by
  rcases Bool.or_eq_true_iff.1 h with h|h
  · rw[(jQ h).2.2];exact⟨h,by simp⟩
  · rw[(jQ h).2.2];exact⟨h,by simp⟩
 have hk1:(ze l s).kind=1:=by
  have:=hq.1;unfold isQ at this;simp only[Yp,Xm,Yf]at this;omega
 unfold qO;rw[Yi ⟨hk1,hq.2,hq.1⟩];have:=qaB (jQ hq.1).1;dsimp only;omega
theorem kids_far {pk:Prs->Pol×Prs} {d:Int} (hd:d>4) (n:Nat) (s:Prs):(ju l pk d n [] s).1=[]/\(ju l pk d n [] s).2.at_=s.at_:=by
 cases n with
 |zero=>exact⟨rfl,rfl⟩
 |succ n=>
  rw[ju];split
  · rename_i hi;dsimp only;have hb:s.bad=0:=by
     rcases Bool.or_eq_true_iff.1 hi with h|h
     · exact(jQ h).2.1
     · exact(jQ h).2.1
    have hb1:(limQ l s (decide (([]:List Pol).length=16)||decide (d>4))).bad≠0:=by
     unfold limQ jq;rw[Yz hd,Bool.or_true,Yi rfl,Yi hb];exact(show(6:Int)≠0 by decide)
    rw[Yi hb1];exact⟨rfl,lim_at _ _⟩
  · exact⟨rfl,rfl⟩
theorem pol_step (hl:TokOk l) (n:Nat) (hk:∀s,s.at_<=(ju l (polQ l n) (6-n) (l.length+1) [] s).2.at_/\qQ Pol.sz (ju l (polQ l n) (6-n) (l.length+1) [] s).1+Phi l s.at_<=Phi l (ju l (polQ l n) (6-n) (l.length+1) [] s).2.at_):BdP (l:=l) (polQ l (n+1)):=fun s=>by
 have a1:=among_at (l:=l) s [zx,wSet];have a3:(isQ l s zx||isQ l s wSet)=true->Phi l s.at_+8<=Phi l (qO l s [zx,wSet]).2.at_:=fun h=>among_first h fun h6=>by
  rcases Bool.or_eq_true_iff.1 h with h|h
  · have h1:=hereQ_at (l:=l) (jQ h).1;have h2:=hl.one _ (Yn (jQ h).1) (h1▸h6);rw[<-h1,(jQ h).2.2]at h2;exact absurd h2 DO
  · have h1:=hereQ_at (l:=l) (jQ h).1;have h2:=hl.one _ (Yn (jQ h).1) (h1▸h6);rw[<-h1,(jQ h).2.2]at h2;exact absurd h2 DO
 rw[polQ];dsimp only;generalize qO l s [zx,wSet]=k at*;have b1:=name_sz (l:=l) k.2;generalize zH l k.2=i at*;have c1:=among_at (l:=l) i.2 wAlgs;generalize qO l i.2 wAlgs=g at*;have d1:=tar_sz (l:=l) g.2;generalize tarQ l g.2=t at*;have e1:=must_at (l:=l) t.2 [123];generalize zT l t.2 [123]=s1 at*;have f1:s1.at_<=(if k.1=2 then ju l (polQ l n) (6-n) (l.length+1) [] s1 else([],s1)).2.at_/\qQ Pol.sz (if k.1=2 then ju l (polQ l n) (6-n) (l.length+1) [] s1 else([],s1)).1+Phi l s1.at_<=Phi l (if k.1=2 then ju l (polQ l n) (6-n) (l.length+1) [] s1 else([],s1)).2.at_:=by
  split
  · exact hk s1
  · exact⟨Yk _,by show 0+Phi l s1.at_<=Phi l s1.at_;omega⟩
 generalize hks:(if k.1=2 then ju l (polQ l n) (6-n) (l.length+1) [] s1 else([],s1))=ks at*;have r1:s1.at_<=(if k.1=2 then([],ks.2)else jY l (l.length+1) [] s1).2.at_/\(if k.1=2 then([],ks.2)else jY l (l.length+1) [] s1).1.length+qQ rusz (if k.1=2 then([],ks.2)else jY l (l.length+1) [] s1).1+qQ Pol.sz ks.1+Phi l s1.at_<=Phi l (if k.1=2 then([],ks.2)else jY l (l.length+1) [] s1).2.at_:=by
  split
  · exact⟨f1.1,by show 0+0+qQ Pol.sz ks.1+Phi l s1.at_<=Phi l ks.2.at_;omega⟩
  · rename_i hk2;rw[Yc hk2]at hks;have h:=some_sz (l:=l) (l.length+1) [] s1;have e0:qQ Pol.sz ks.1=0:=by rw[<-hks];rfl
    have e2:qQ rusz []=0:=rfl;rw[List.length_nil]at h;exact⟨h.1,by omega⟩
 generalize (if k.1=2 then([],ks.2)else jY l (l.length+1) [] s1)=rs at*;have m1:=must_at (l:=l) rs.2 [125];generalize zT l rs.2 [125]=s2 at*;have o1:=dut_sz (l:=l) s2;generalize dutQ l s2=o at*;have q1:=jC (l:=l) a1;have q2:=jC (l:=l) c1;have q3:=jC (l:=l) e1;have q4:=jC (l:=l) m1;rw[Pol.sz_eq];refine⟨by omega,?_,fun h=>?_⟩
 · show 1+rs.1.length+txt (bs i.1)+tsz t.1+osz o.1+qQ rusz rs.1+qQ Pol.sz ks.1+_<=_;omega
 · have:=a3 h;show 1+rs.1.length+txt (bs i.1)+tsz t.1+osz o.1+qQ rusz rs.1+qQ Pol.sz ks.1+5+_<=_;omega
theorem pol_sz (hl:TokOk l):∀n,BdP (l:=l) (polQ l (n+1))
 |0=>pol_step hl 0 fun s=>by
  obtain⟨h1,h2⟩:=kids_far (l:=l) (pk:=polQ l 0) (d:=6-((0:Nat):Int)) DP (l.length+1) s;rw[h1,h2];exact⟨Yk _,by show 0+_<=_;omega⟩
 |n+1=>pol_step hl (n+1) fun s=>by
  have h:=qkids_sz (pol_sz hl n) (6-((n+1:Nat):Int)) (l.length+1) [] s;exact⟨h.1,by have e:qQ Pol.sz []=0:=rfl;omega⟩
theorem phi_all (k:Nat):Phi l k<=8*l.length+qQ (fun t:Tok=>t.s.length) l:=by
 have h:=sumBy_take wtK l k;have e:∀l:List Tok,qQ wtK l=8*l.length+qQ (fun t:Tok=>t.s.length) l:=fun l=>by
  induction l with
  |nil=>rfl
  |cons t l ih=>
   have h1:qQ wtK (t::l)=wtK t+qQ wtK l:=by simp[qQ]
   have h2:qQ (fun t:Tok=>t.s.length) (t::l)=t.s.length+qQ (fun t:Tok=>t.s.length) l:=by simp[qQ]
   rw[h1,h2,ih,Yg];unfold wtK;omega
 have:=e l;unfold Phi;omega
end
theorem lexF_sum:∀{f k:Nat} {l:Bs} {a:List Tok},lexF f k l=.ok a->qQ (fun t:Tok=>t.s.length) a<=l.length
 |f+1,k,[],a,h=>by
  cases h;exact Yk _
 |f+1,k,c::r,a,h=>by
  rw[lexF]at h;split at h
  · have:=lexF_sum h;rw[Yg];omega
  · cases ht:tokL (c::r)with
    |none=>rw[ht]at h;cases h
    |some t=>
     have hl:=qae ht;have hs:=(tokL_okK ht).2.2;rw[ht]at h;simp only at h;cases hr:lexF f (k+t.len) ((c::r).drop t.len)with
     |error e=>rw[hr]at h;cases h
     |ok a'=>
      rw[hr]at h;simp only at h;cases h;have h1:=lexF_sum hr;rw[Yo]at h1;have e:∀(x:Tok) (a:List Tok),qQ (fun t:Tok=>t.s.length) (x::a)=x.s.length+qQ (fun t:Tok=>t.s.length) a:=fun x a=>by simp[qQ]
      rw[e];show t.s.length+_<=_;omega
theorem parse_size (b:Bs):(zk b).1.sz<=100000:=by
 have h0:noPol.sz<=100000:=by decide
 unfold zk;split
 · exact h0
 · rename_i hb;cases hl:lexL b with
   |error e=>exact h0
   |ok l=>
    dsimp only;have ht:=tokOk_of DP hl;have h1:(polQ l 5 ⟨0,0,0,0⟩).1.sz+Phi l 0<=3+Phi l (polQ l 5 ⟨0,0,0,0⟩).2.at_:=(pol_sz ht 4 ⟨0,0,0,0⟩).2.1;have h2:=phi_all (l:=l) (polQ l 5 ⟨0,0,0,0⟩).2.at_;have h3:=lexF_sum hl;have h4:=ht.len;by_cases hb2:(if(if(ze l (polQ l 5 ⟨0,0,0,0⟩).2).kind=7 then(polQ l 5 ⟨0,0,0,0⟩).2 else synQ l (polQ l 5 ⟨0,0,0,0⟩).2).bad=0/\zW (polQ l 5 ⟨0,0,0,0⟩).1≠0 then jq (if(ze l (polQ l 5 ⟨0,0,0,0⟩).2).kind=7 then(polQ l 5 ⟨0,0,0,0⟩).2 else synQ l (polQ l 5 ⟨0,0,0,0⟩).2) 5 b.length else(if(ze l (polQ l 5 ⟨0,0,0,0⟩).2).kind=7 then(polQ l 5 ⟨0,0,0,0⟩).2 else synQ l (polQ l 5 ⟨0,0,0,0⟩).2)).bad≠0
    · rw[Yi hb2];exact h0
    · rw[Yc hb2];show(polQ l 5 ⟨0,0,0,0⟩).1.sz<=100000;omega
structure CasG (c:Cas):Prop where
 id:c.id.size<=1000000
 owner:c.owner.size<=1000000
 state:c.state.size<=1000000
 srt:Srt Fld.name c.fields
 nf:c.fields.length<=16
 flds:∀f∈c.fields,f.name.size<=1000000/\f.val.Fit
 acts:∀h∈c.log,h.actor.size<=1000000
structure Sto.G0 (s:Sto):Prop where
 tick:0<=s.tick/\s.tick<=1099511627776
 srt:Srt Cas.id s.cases
 cases:s.cases.length<=64
 each:∀c∈s.cases,CasG c
 roles:s.roles.length<=64
 rol:∀r∈s.roles,r.role.size<=1000000
 pol:∃n,PolF n s.pol
 sz:s.pol.sz<=500000
structure Sto.Gd (s:Sto):Prop where
 g0:s.G0
 revs:s.revs.length<=256
 ntcs:s.ntcs.length<=256
 logs:∀c∈s.cases,c.log.length<=256
theorem Sto.Gd.sm {s:Sto} (h:s.Gd):s.Sm:=
 ⟨by have:=h.g0.cases;omega,fun c hc=>⟨by have:=(h.g0.each c hc).nf;omega,by have:=h.logs c hc;omega⟩,by have:=h.revs;omega,by have:=h.ntcs;omega,by have:=h.g0.roles;omega,h.g0.pol,h.g0.sz⟩
theorem caseC_mem {l:List Cas} {id:DT} {c:Cas} (h:wa l id=some c):c∈l/\c.id=id:=by
 unfold wa at h;split at h
 · rename_i d hd;split at h
   · rename_i hi;cases h;exact⟨YI hd,hi⟩
   · cases h
 · cases h
theorem r64_nat {n:Nat} (h:n<=1000000):R64 (n:Int):=⟨by omega,by omega⟩
theorem val_fit3 {k n:Int} {s:DT} (hk:0<=k/\k<=10) (hn:R64 n) (hs:s.size<=1000000):(⟨k,n,s⟩:Val).Fit:=⟨⟨by show _<=k;omega,by show k<=_;omega⟩,hn,by show s.size<=_;unfold reachBytes;omega⟩
theorem r64_small {n:Int} (h:0<=n/\n<=1099511627776):R64 n:=⟨by omega,by omega⟩
theorem e0_size:e0.size<=1000000:=by decide
theorem qbc {s:DT} (h:s.size<=1000000):(idV s).Fit:=val_fit3 DO (r64_small DO) h
def GivF (x:Giv):Prop:=x.Fit/\x.bag.length<=1000000
theorem gv_fit {cat:Int} {name:List UInt8} {bag:List Val} (hc:0<=cat/\cat<=10) (hn:name.length<=100) (hb:∀v∈bag,v.Fit) (hl:bag.length<=100):GivF (gv cat name bag):=
 ⟨⟨⟨by show _<=cat;omega,by show cat<=_;omega⟩,by show name.length<=_;unfold reachBytes;omega,hb⟩,by show bag.length<=_;omega⟩
theorem one_fit {v:Val} (h:v.Fit):∀x∈[v],x.Fit:=fun x hx=>by rw[List.mem_singleton]at hx;rw[hx];exact h
theorem gv1 {cat:Int} {name:List UInt8} {v:Val} (hc:0<=cat/\cat<=10) (hn:name.length<=100) (hv:v.Fit):GivF (gv cat name [v]):=gv_fit hc hn (one_fit hv) (Nat.le_of_ble_eq_true rfl)
theorem actC_size (k:Int):(actC k).size<=100:=by
 unfold actC
 repeat' split
 all_goals decide
theorem giv_ok {s:Sto} (h:s.Gd) {o:Opn} (ho:o.Ok):GivOk (askC s o):=by
 have all:∀x∈askC s o,GivF x:=by
  have h2:=h.g0.tick;unfold askC;refine List.forall_mem_append.2 ⟨List.forall_mem_append.2 ⟨List.forall_mem_append.2 ⟨List.forall_mem_append.2 ⟨?_,?_⟩,?_⟩,?_⟩,?_⟩
  · intro x hx;simp only[Y0,Xn,or_false]at hx;rcases hx with rfl|rfl|rfl
    · exact gv1 DO DO (qbc ho.subj)
    · refine gv_fit DO DO (fun v hv=>?_) ?_
      · unfold rolesV at hv;obtain⟨r,hr,rfl⟩:=Y1.1 hv;exact qbc (h.g0.rol r (List.mem_filter.1 (Xd hr)).1)
      · unfold rolesV;rw[Yb,Yd];omega
    · exact gv1 DO DO (qbc (by have:=actC_size o.kind;omega))
  · intro x hx;split at hx
    · cases hx
    · rw[YA]at hx;subst hx;exact gv1 DO DO (qbc ho.field)
  · intro x hx;split at hx
    · cases hx
    · rw[YA]at hx;subst hx;exact gv1 DO DO (qbc ho.to_)
  · intro x hx;rw[YA]at hx;subst hx;exact gv1 DO DO (val_fit3 DO (r64_small h2) e0_size)
  · intro x hx;cases hc:wa s.cases o.case_ with
    |none=>rw[hc]at hx;cases hx
    |some c=>
     rw[hc]at hx;simp only at hx;split at hx
     · cases hx
     · have hcm:=(caseC_mem hc).1;have hg:=h.g0.each c hcm;have hlog:=h.logs c hcm;revert x
       unfold wb;refine List.forall_mem_append.2 ⟨List.forall_mem_append.2 ⟨?_,?_⟩,?_⟩
       · intro x hx;simp only[Y0,Xn,or_false]at hx;rcases hx with rfl|rfl|rfl|rfl|rfl
         · exact gv1 DO DO (qbc hg.id)
         · exact gv1 DO DO (qbc hg.owner)
         · exact gv1 DO DO (qbc hg.state)
         · exact gv1 DO DO (val_fit3 DO (r64_nat DP) e0_size)
         · refine gv1 DO DO (val_fit3 DO ?_ e0_size);split
           · exact r64_small DO
           · exact r64_small DO
       · intro x hx;unfold lastG at hx;cases hl:c.log.getLast? with
         |none=>rw[hl]at hx;cases hx
         |some a=>
          rw[hl]at hx;simp only[YA]at hx;subst hx;exact gv1 DO DO (qbc (hg.acts a (List.mem_of_getLast? hl)))
       · intro x hx;obtain⟨f,hf,hx⟩:=List.mem_flatMap.1 hx;unfold fldG at hx;split at hx
         · rename_i hsz;rw[YA]at hx;subst hx;refine⟨⟨⟨show(-9223372036854775808:Int)<=3 by decide,show(3:Int)<=9223372036854775807 by decide⟩,?_,one_fit (hg.flds f hf).2⟩,by show(1:Nat)<=_;omega⟩;show((⟨#[102,95]⟩:DT)++f.name).size<=_;rw[ByteArray.size_append];have:(⟨#[102,95]⟩:DT).size=2:=rfl
           unfold reachBytes;omega
         · cases hx
 refine⟨fun x hx=>(all x hx).1,?_,fun x hx=>(all x hx).2⟩;have hrest:∀c∈s.cases,(wb c o.subj).length<=100:=fun c hc=>by
  have hg:=h.g0.each c hc;have h1:(lastG c).length<=1:=by unfold lastG;split<;>simp
  have h2:∀l:List Fld,(l.flatMap fldG).length<=l.length:=fun l=>by
   induction l with
   |nil=>exact Yk _
   |cons f l ih=>
    rw[YW,Ya,Yg];have:(fldG f).length<=1:=by unfold fldG;split<;>simp
    omega
  have h3:=h2 c.fields;have h4:=hg.nf;unfold wb;simp only[Ya,Yg,List.length_nil];omega
 unfold askC;simp only[Ya,Yg,List.length_nil];have h1:(if emB o.field then []else [gv 2 [102,105,101,108,100] [idV o.field]]).length<=1:=by split<;>simp
 have h2:(if emB o.to_ then []else [gv 2 [116,111] [idV o.to_]]).length<=1:=by split<;>simp
 cases hc:wa s.cases o.case_ with
 |none=>simp only[List.length_nil];omega
 |some c=>
  have h3:=hrest c (caseC_mem hc).1;have h4:(if o.kind=6 then []else wb c o.subj).length<=100:=by
   split
   · simp
   · exact h3
  simp only;omega
theorem Sto.G0.opn {s:Sto} (h:s.G0) (o:Opn) (r:DT):(opnR s o r).G0:=⟨h.tick,h.srt,h.cases,h.each,h.roles,h.rol,h.pol,h.sz⟩
theorem casG_hap {s:Sto} {c:Cas} (h:CasG c) {a:DT} (ha:a.size<=1000000) (w:DT):CasG (hapC s c a w):=
 ⟨h.id,h.owner,h.state,h.srt,h.nf,h.flds,fun x hx=>by
  rcases YL.1 hx with hx|hx
  · exact h.acts x hx
  · rw[YA]at hx;subst hx;exact ha⟩
theorem Sto.G0.set {s:Sto} (h:s.G0) {i:Nat} {c c':Cas} (hc:s.cases[i]?=some c) (hi:c'.id=c.id) (hg:CasG c'):({s with cases:=s.cases.set i c'}:Sto).G0:=
 ⟨h.tick,srt_set h.srt (fun y hy=>by rw[hc]at hy;cases hy;exact hi),by show(s.cases.set i c').length<=64;rw[Xh];exact h.cases,fun d hd=>by
  rcases List.mem_or_eq_of_mem_set hd with h1|rfl
  · exact h.each d h1
  · exact hg,h.roles,h.rol,h.pol,h.sz⟩
theorem Sto.G0.on {s:Sto} (h:s.G0) (id:DT) (f:Cas->Cas) (hf:∀c,s.cases[jG s.cases id]?=some c->(f c).id=c.id/\CasG (f c)):(onCase s id f).G0:=by
 unfold onCase;cases hc:s.cases[jG s.cases id]? with
 |none=>exact h
 |some c=>exact h.set hc (hf c hc).1 (hf c hc).2
theorem qbn:noV.Fit:=⟨⟨by decide,by decide⟩,⟨by decide,by decide⟩,by decide⟩
theorem fieldC_fit {c:Cas} (h:CasG c) (n:DT):(qao c n).Fit:=by
 unfold qao;split
 · rename_i f hf;exact(h.flds f (YI hf)).2
 · exact qbn
theorem fieldC_no {c:Cas} {n:DT} (h:∀f∈c.fields,f.name≠n):qao c n=noV:=by
 have e:c.fields.findIdx (fun f=>decide (f.name=n))=c.fields.length:=List.findIdx_eq_length.2 fun f hf=>YB (h f hf)
 unfold qao;rw[e,YT (Yk _)]
theorem wrt_g {c:Cas} (h:CasG c) {o:Opn} (ho:o.Ok) (hnew:¬(16<=c.fields.length/\emV (qao c o.field)=true)):CasG {c with fields:=wrtC c.fields o.field o.val}:=by
 have hx:o.field.size<=1000000/\o.val.Fit:=⟨ho.field,⟨ho.val.2.2,ho.val.2.1,by have:=ho.val.1;unfold reachBytes;omega⟩⟩;have key:Srt Fld.name (wrtC c.fields o.field o.val)/\(wrtC c.fields o.field o.val).length<=16/\∀f∈wrtC c.fields o.field o.val,f.name.size<=1000000/\f.val.Fit:=by
  have room:(∀f,c.fields[plc Fld.name c.fields o.field]?=some f->f.name≠o.field)->c.fields.length<16:=fun hno=>by
   have e:qao c o.field=noV:=fieldC_no fun f hf he=>by
    obtain⟨i,hi,rfl⟩:=List.mem_iff_getElem.1 hf;have h1:=srt_plc h.srt hi;rw[he]at h1;exact hno _ (by rw[h1];exact Yj hi) he
   have e2:emV (qao c o.field)=true:=by rw[e];rfl
   apply Xa;intro hn;exact hnew ⟨by omega,e2⟩
  have hins:(∀f,c.fields[plc Fld.name c.fields o.field]?=some f->f.name≠o.field)->Srt Fld.name (c.fields.take (plc Fld.name c.fields o.field)++⟨o.field,o.val⟩::c.fields.drop (plc Fld.name c.fields o.field))/\(c.fields.take (plc Fld.name c.fields o.field)++⟨o.field,o.val⟩::c.fields.drop (plc Fld.name c.fields o.field)).length<=16/\∀f∈c.fields.take (plc Fld.name c.fields o.field)++⟨o.field,o.val⟩::c.fields.drop (plc Fld.name c.fields o.field),f.name.size<=1000000/\f.val.Fit:=fun hno=>by
   have hr:=room hno;have hle:=plc_le (k:=Fld.name) c.fields o.field;refine⟨srt_ins (x:=(⟨o.field,o.val⟩:Fld)) h.srt hno,?_,fun f hf=>?_⟩
   · simp only[Ya,Yd,Yg,Yo];omega
   · rcases YL.1 hf with hf|hf
     · exact h.flds f (Xd hf)
     · rcases Y0.1 hf with rfl|hf
       · exact hx
       · exact h.flds f (YX hf)
  have eP:(c.fields.findIdx fun f=>!jx f.name o.field)=plc Fld.name c.fields o.field:=rfl;unfold wrtC;rw[eP];cases hc:c.fields[plc Fld.name c.fields o.field]? with
  |none=>
   have hlen:plc Fld.name c.fields o.field=c.fields.length:=Nat.le_antisymm (plc_le _ _) (List.getElem?_eq_none_iff.1 hc);have hi:=hins fun f hf=>by rw[hc]at hf;cases hf
   rw[hlen,Yu,List.drop_length]at hi;exact hi
  |some f=>
   simp only;split
   · rename_i hn;refine⟨srt_set h.srt fun y hy=>by rw[hc]at hy;cases hy;rfl,by rw[Xh];exact h.nf,fun g hg=>?_⟩;rcases List.mem_or_eq_of_mem_set hg with h1|rfl
     · exact h.flds g h1
     · exact⟨(h.flds f (YI hc)).1,hx.2⟩
   · rename_i hn;exact hins fun g hg=>by rw[hc]at hg;cases hg;exact hn
 exact⟨h.id,h.owner,h.state,key.1,key.2.1,key.2.2,h.acts⟩
theorem rdy_form {s:Sto} {o:Opn} (hr:rdyC s o=0):wm o=true:=by
 unfold rdyC at hr;cases h:wm o with
 |true=>rfl
 |false=>rw[Yi h]at hr;exact absurd hr DO
theorem form_tak {o:Opn} (h:wm o=true):takC o=true:=by
 unfold wm at h;simp only[Yp]at h;exact h.2.2.2.2.2.2.2
theorem ite_pol {c:Prop} [Decidable c] {a b:Pol×Int×Int} {P:Pol->Prop} (h1:P a.1) (h2:P b.1):P (if c then a else b).1:=by
 split
 · exact h1
 · exact h2
theorem parse_pol {b:Bs}:∃n,PolF n (zk b).1:=by
 have h0:PolF 6 noPol:=⟨⟨Yl _,fun x hx=>(nomatch hx),fun x hx=>(nomatch hx),fun x hx=>(nomatch hx),Yl _,Yl _⟩,r64_0,fun k hk=>(nomatch hk)⟩;refine⟨6,?_⟩;unfold zk;split
 · exact h0
 · rename_i hb;cases hl:lexL b with
   |error e=>exact h0
   |ok l=>
    dsimp only;exact ite_pol (P:=PolF 6) h0 (pol_fitQ (tokOk_of DP hl) 5 ⟨0,0,0,0⟩)
theorem g0_done {s:Sto} (h:s.G0) {o:Opn} (ho:o.Ok) (hr:rdyC s o=0):(zl s o).G0:=by
 have hf:=rdy_form hr;have ht:=form_tak hf;unfold rdyC at hr;rw[Yc (by rw[hf];decide)]at hr;unfold zl;by_cases k1:o.kind=1
 · rw[Yi k1]at hr⊢;split at hr
   · exact MO
   · rename_i hb;split at hr
     · exact MO
     · rename_i hl;have hle:=plc_le (k:=Cas.id) s.cases o.case_;refine⟨h.tick,srt_ins (x:=(⟨o.case_,o.subj,wOpen,[],[⟨s.tick,o.subj,wNew⟩]⟩:Cas)) h.srt fun y hy he=>?_,?_,fun c hc=>?_,h.roles,h.rol,h.pol,h.sz⟩
       · apply hb;unfold findB;have hy':s.cases[jG s.cases o.case_]?=some y:=hy
         rw[hy'];exact Yz he
       · show(s.cases.take (plc Cas.id s.cases o.case_)++_::s.cases.drop (plc Cas.id s.cases o.case_)).length<=64;simp only[Ya,Yd,Yg,Yo];omega
       · rcases YL.1 hc with hc|hc
         · exact h.each c (Xd hc)
         · rcases Y0.1 hc with rfl|hc
           · exact⟨ho.case_,ho.subj,show wOpen.size<=1000000 by decide,List.Pairwise.nil,Yl _,fun f hf=>(nomatch hf),fun x hx=>by rw[YA]at hx;subst hx;exact ho.subj⟩
           · exact h.each c (YX hc)
 · rw[Yc k1]at hr⊢;by_cases k3:o.kind=3
   · rw[Yi k3];rw[Yi (Or.inr (Or.inl k3))]at hr;refine h.on _ _ fun c hc=>⟨rfl,casG_hap (wrt_g (h.each c (YI hc)) ho fun hn=>?_) ho.subj _⟩
     unfold qbr wa at hr;rw[hc]at hr;simp only at hr;split at hr
     · exact MO
     · rename_i d hd;split at hd
       · cases hd;rw[Yi ⟨k3,hn.1,hn.2⟩]at hr;exact MO
       · cases hd
   · rw[Yc k3];by_cases k4:o.kind=4
     · rw[Yi k4];exact h.on _ _ fun c hc=>⟨rfl,casG_hap (c:={c with state:=o.to_}) ⟨(h.each c (YI hc)).id,(h.each c (YI hc)).owner,ho.to_,(h.each c (YI hc)).srt,(h.each c (YI hc)).nf,(h.each c (YI hc)).flds,(h.each c (YI hc)).acts⟩ ho.subj _⟩
     · rw[Yc k4];by_cases k5:o.kind=5
       · rw[Yi k5];split
         · exact⟨h.tick,h.srt,h.cases,h.each,h.roles,h.rol,h.pol,h.sz⟩
         · exact h
       · rw[Yc k5];by_cases k6:o.kind=6
         · rw[Yi k6];rw[Yc DP,Yc k5,Yi k6]at hr;split
           · exact h
           · rename_i hn;refine⟨h.tick,h.srt,h.cases,h.each,?_,fun r hr=>?_,h.pol,h.sz⟩
             · show(s.roles++[_]).length<=64;rw[Ya,YF];split at hr
               · exact MO
               · rename_i h64;have:¬64<=s.roles.length:=fun h1=>h64 ⟨h1,by simpa using hn⟩
                 omega
             · rcases YL.1 hr with hr|hr
               · exact h.rol r hr
               · rw[YA]at hr;subst hr;exact ho.field
         · rw[Yc k6];by_cases k7:o.kind=7
           · rw[Yi k7];split
             · exact⟨h.tick,h.srt,h.cases,h.each,h.roles,h.rol,parse_pol,by have:=parse_size o.text.data.toList;show(zk o.text.data.toList).1.sz<=_;omega⟩
             · exact h
           · rw[Yc k7];by_cases k8:o.kind=8
             · rw[Yi k8];rw[Yc DP,Yc k5,Yc k6,Yi k8]at hr;have h2:=h.tick;unfold takC at ht;rw[Yc k1,Yc DP,Yc k3,Yc k4,Yc k5,Yc k7,Yi k8]at ht;simp only[Yp,Yf]at ht;split at hr
               · exact MO
               · rename_i hn;have e1:Go.IntKind.i64.wrap (1099511627776-o.rev)=1099511627776-o.rev:=YD _ DP;have e2:Go.IntKind.i64.wrap (s.tick+o.rev)=s.tick+o.rev:=YD _ DP;rw[e1]at hn;exact⟨by show 0<=Go.IntKind.i64.wrap (s.tick+o.rev)/\Go.IntKind.i64.wrap (s.tick+o.rev)<=_;rw[e2];omega,h.srt,h.cases,h.each,h.roles,h.rol,h.pol,h.sz⟩
             · rw[Yc k8];exact h
theorem g0_log {s:Sto} (h:s.G0) {o:Opn} (ho:o.Ok) (w:DT):(logR s o w).G0:=by
 unfold logR;split
 · exact h
 · split
   · rename_i c hc;exact h.set hc rfl (casG_hap (h.each c (YI hc)) ho.subj _)
   · exact h
theorem g0_duty {s:Sto} (h:s.G0) {o:Opn} (ho:o.Ok) (d:Bool) (x:Obli):(dutyR o d s x).G0:=by
 unfold dutyR
 repeat' split
 · exact g0_log h ho _
 · exact h.opn o _
 · exact⟨h.tick,h.srt,h.cases,h.each,h.roles,h.rol,h.pol,h.sz⟩
 · exact h
theorem g0_dut {o:Opn} (ho:o.Ok) (d:Bool):∀(l:List Obli) {s:Sto},s.G0->(dutR s o l d).G0
 |[],_,h=>h
 |x::l,s,h=>by
  show(dutR (dutyR o d s x) o l d).G0;exact g0_dut ho d l (g0_duty h ho d x)
theorem g0_act {s:Sto} (h:s.G0) {o:Opn} (ho:o.Ok) (hr:rdyC s o=0) (r:Rs):(actR s o r).1.G0:=by
 have hs1:(if brkC s o r.m then opnR s o o.reason else s).G0:=by
  split
  · exact h.opn _ _
  · exact h
 have hr1:(decide (r.m=(2,0))||brkC s o r.m)=true->rdyC (if brkC s o r.m then opnR s o o.reason else s) o=0:=fun _=>by
  split
  · rename_i hb;have hg:o.glass=true:=by
     unfold brkC at hb;simp only[Yp]at hb;exact hb.1
    rw[rdy_opn _ (glass_kind (rdy_form hr) hg)];exact hr
  · exact hr
 unfold actR;dsimp only;refine g0_dut ho _ _ ?_;split
 · rename_i hd;exact g0_done hs1 ho (hr1 hd)
 · exact hs1
theorem gd_step {s:Sto} (h:s.Gd) {o:Opn} (ho:o.Ok):(gdC s o).1.Gd:=by
 unfold gdC;split
 · exact h
 · rename_i hp;split
   · exact h
   · split
     · exact h
     · rename_i hov;have hr:rdyC s o=0:=by
        apply Xa;intro hn;unfold preC at hp;rw[Yi hn]at hp;exact hp hn
       have h1:=g0_act h.g0 ho hr (jp s.pol (askC s o)).1;unfold overC at hov;simp only[Bool.not_eq_true,Bool.or_eq_false_iff,Yh,List.any_eq_false,Yf]at hov;exact⟨h1,by dsimp only;omega,by dsimp only;omega,fun c hc=>by have:=hov.2.2 c hc;omega⟩
theorem gd_val {s:Sto} (h:s.Gd) (o:Opn):(gdC s o).2.1.val.Fit:=by
 unfold gdC;split
 · exact qbn
 · split
   · exact qbn
   · split
     · exact qbn
     · unfold actR;dsimp only;split
       · cases hc:wa s.cases o.case_ with
         |none=>exact fieldC_fit (c:=noCas) ⟨by decide,by decide,by decide,List.Pairwise.nil,Yl _,fun f hf=>(nomatch hf),fun f hf=>(nomatch hf)⟩ _
         |some c=>exact fieldC_fit (h.g0.each c (caseC_mem hc).1) _
       · exact qbn
theorem mks_p:((2,0):Mk)∈mks:=by simp[mks]
theorem nameW_sz {s:DT} (h:qad s=true):s.size<=16:=by
 unfold qad at h;simp only[Yp,Yf]at h;exact h.2
theorem rightW_tx {v:Val} (h:v.right=true) (hk:v.kind=3\/v.kind=5):v.s.size<=64:=by
 unfold Val.right at h;rcases hk with hk|hk
 · rw[Yc DP,Yc DP,Yi hk]at h;simp only[Yp,Yf]at h;exact h.2
 · rw[Yc DP,Yc DP,Yc DP,Yc DP,Yi hk]at h;simp only[Yp,Yf]at h;have:=nameW_sz h.2;omega
theorem qW_flat:∀l:List UInt8,(l.flatMap qB).length<=3*l.length
 |[]=>by simp
 |c::l=>by
  have:=qW_flat l;have h1:(qB c).length<=3:=by unfold qB;split<;>simp
  rw[YW,Ya,Yg];omega
theorem quoteW_size (s:DT):(quoteB s).size<=3*s.size+2:=by
 have h:=qW_flat s.data.toList;have e:(quoteB s).size=(quoteL s).length:=Xt;have e2:s.size=s.data.toList.length:=rfl;rw[e,e2];unfold quoteL;simp only[Yg,Ya,List.length_nil];omega
theorem itoaW_size (n:Int):(⟨⟨qbd n⟩⟩:DT).size<=21:=itoaF_len n
theorem textW_size (v:Val):(textS v).size<=200:=by
 unfold textS;by_cases h:v.right=true
 · rw[h];rw[Yc DQ];split
   · split<;>decide
   · split
     · rw[ByteArray.size_append];have:=itoaW_size v.n;have:(⟨#[64]⟩:DT).size=1:=rfl
       omega
     · split
       · rename_i h5;have:=rightW_tx h (.inr h5);rw[ByteArray.size_append];have:(⟨#[35]⟩:DT).size=1:=rfl
         omega
       · split
         · rename_i h3;have:=rightW_tx h (.inl h3);have:=quoteW_size v.s;omega
         · have:=itoaW_size v.n;omega
 · rw[Yi DA];decide
theorem cat_ok {a b:DT} (h:a.size+b.size<=9000000000):((a.size+b.size:Nat):Int)<=IntKind.i64.max:=by
 have:IntKind.i64.max=9223372036854775807:=by decide
 rw[this];omega
theorem mkN_size (m:Mk):(mkN m).size<=100:=by
 unfold mkN
 repeat' split
 all_goals decide
theorem answer_h (r:Rpl) (hm:r.mark∈mks) (hv:r.val.Fit) (he:R64 r.err) (ha:R64 r.at_):Holds prog 32 [.agg r.pv] (.p (pS (ansW r))) []:=by
 have hmk:=zt hm mks_p;have hV1:(bif (r.err==12)then !(mkE r.mark (2,0))else false)=decide (r.err=12/\r.mark≠(2,0)):=by
  rw[hmk,YO];by_cases e:r.err=12<;>simp[e]
 have hV2:(bif (r.err !=0)then decide (r.at_>0)else false)=decide (r.err≠0/\0<r.at_):=by
  rw[YO];by_cases e:r.err=0<;>simp[e]
 unfold ansW;refine qo (ts:=[2]) func32 DG rfl rfl rfl ?_;refine KJ ?_;refine KB ?_;refine uC (fun hc=>?_) (fun hc=>?_)
 · have hC:r.err=12/\r.mark≠(2,0):=YM (hV1.symm.trans hc);rw[Yi hC];refine uR ?_;refine uK (mkName_h r.mark hm) ?_;refine qm qc rfl rfl (by refine cat_ok ?_;have:=mkN_size r.mark;rw[show(⟨#[100,101,110,105,101,100,32]⟩:DT).size=7 from rfl];omega) rfl ?_;exact LU
 have hC:¬(r.err=12/\r.mark≠(2,0)):=of_decide_eq_false (hV1.symm.trans hc);rw[Yc hC];refine KB ?_;refine uC (fun hc2=>?_) (fun hc2=>?_)
 · have hC2:r.err≠0/\0<r.at_:=YM (hV2.symm.trans hc2);rw[Yi hC2];refine uD [] [1,3,11,13,4,7,9,14,17,19] ?_;refine uk (itoa_h r.err ⟨he.1,he.2⟩) ?_;have z1:(⟨⟨qbd r.err⟩⟩:DT).size<=21:=itoaF_len r.err;have z2:(⟨⟨qbd r.at_⟩⟩:DT).size<=21:=itoaF_len r.at_;refine qJ qc rfl rfl rfl Eu rfl ?_;refine uT ?_;refine qJ qc rfl rfl rfl (by refine cat_ok ?_;rw[ByteArray.size_append,show(⟨#[101,114,114,111,114,32]⟩:DT).size=6 from rfl,show(⟨#[32,97,116,32]⟩:DT).size=4 from rfl];omega) rfl ?_;refine uT ?_;refine uk (itoa_h r.at_ ⟨ha.1,ha.2⟩) ?_;refine uT ?_;refine qJ qc rfl rfl rfl (by refine cat_ok ?_;rw[ByteArray.size_append,ByteArray.size_append,show(⟨#[101,114,114,111,114,32]⟩:DT).size=6 from rfl,show(⟨#[32,97,116,32]⟩:DT).size=4 from rfl];omega) rfl ?_;refine KG ?_;refine uQ ?_;exact Gv
 have hC2:¬(r.err≠0/\0<r.at_):=of_decide_eq_false (hV2.symm.trans hc2);rw[Yc hC2];refine uA ?_;by_cases e0':r.err=0;rotate_left
 · rw[Yi e0',show(r.err !=0)=true by simpa using e0'];refine uC (fun hc3=>?_) (fun hc3=>?_);rotate_left
   · cases hc3
   refine uR ?_;refine uK (itoa_h r.err ⟨he.1,he.2⟩) ?_;have z1:(⟨⟨qbd r.err⟩⟩:DT).size<=21:=itoaF_len r.err;refine qm qc rfl rfl Eu rfl ?_;exact LU
 rw[Yc (fun h=>h e0'),show(r.err !=0)=false by simpa using e0'];refine uC (fun hc3=>?_) (fun hc3=>?_)
 · cases hc3
 refine uA ?_;cases hg:r.glass with
 |true=>
  refine uC (fun hc4=>?_) (fun hc4=>?_);rotate_left
  · cases hc4
  refine Kp ?_;exact Gv
 |false=>
  rw[Yc Bool.false_ne_true];refine uC (fun hc4=>?_) (fun hc4=>?_)
  · cases hc4
  refine uA ?_;cases hh:r.hidden with
  |true=>
   refine uC (fun hc5=>?_) (fun hc5=>?_);rotate_left
   · cases hc5
   refine Kp ?_;exact Gv
  |false=>
   rw[Yc Bool.false_ne_true];refine uC (fun hc5=>?_) (fun hc5=>?_)
   · cases hc5
   refine uR ?_;refine qm qc rfl rfl (rfl) rfl ?_;rw[<-eqV0 (v:=r.val)];cases hz:emV r.val with
   |true=>
    refine Ko ?_;refine uC (fun hc6=>?_) (fun hc6=>?_)
    · cases hc6
    refine KA ?_;exact Gv
   |false=>
    rw[Yc Bool.false_ne_true];refine Ko ?_;refine uC (fun hc6=>?_) (fun hc6=>?_);rotate_left
    · cases hc6
    refine uR ?_;refine uK (text_h r.val hv) ?_;refine qm qc rfl rfl (by refine cat_ok ?_;have:=textW_size r.val;rw[show(⟨#[111,107,32]⟩:DT).size=3 from rfl];omega) rfl ?_;exact LU
structure Eng.Ok (x:Eng):Prop where
 sto:x.sto.Gd
 log:x.log.length<=90000
 recs:x.recs.length<=90000
 chain:x.chain<18446744073709551616
 disk:x.disk.length<=4000000
 quota:0<=x.quota/\x.quota<=10000000
theorem empt_size {s:DT} (h:emptC s=true):s.size<=16:=by
 unfold emptC at h;rcases Bool.or_eq_true_iff.1 h with h|h
 · unfold emB at h;rw[YM h];decide
 · exact nameW_sz h
theorem form_rec {o:Opn} (h:wm o=true) (c:Nat):(recW c o).length<=8192/\0<(recW c o).length:=by
 unfold wm at h;simp only[Yp,Yf]at h;obtain⟨h1,h2,h3,h4,h5,h6,h7,_⟩:=h;have s1:=nameW_sz h1;have s3:=empt_size h4;have s4:=empt_size h5;have s5:=empt_size h6;have s2:o.reason.size<=64:=by
  unfold reaC at h2;split at h2
  · simp only[Yp,Yf]at h2;exact h2.2.2
  · unfold emB at h2;rw[YM h2];decide
 have s6:(putV o.val).length<=94:=by
  have p1:=jl o.val.kind;have p2:=jl o.val.n;have p3:=jl (o.val.s.size:Int);have e:o.val.s.data.toList.length=o.val.s.size:=rfl;unfold putV;rw[Ya];split
  · rename_i hk;have:o.val.s.size<=64:=by
     rcases Bool.or_eq_true_iff.1 h7 with h7|h7
     · unfold emV at h7;simp only[Yp,Yf]at h7;omega
     · exact rightW_tx h7 hk
    rw[Ya];omega
  · omega
 have n0:=jl o.kind;have n1:=zJ o.subj;have n2:=zJ o.case_;have n3:=zJ o.field;have n4:=zJ o.to_;have n6:=jl o.rev;have n7:=zJ o.text;have n8:=zJ o.reason;have n9:=putV_len (truthV o.glass);have e:(truthV o.glass).s.size=0:=rfl;have n10:=qbj 8 c;unfold recW putO;simp only[Ya];omega
def rplZ:List SV:=[.p (pI 0),.p (.v (.complex .f64 0 0)),.p (pB false),.p (pI 0),.p (pI 0),.p (pS ⟨#[]⟩),.p (pB false),.p (pI 0)]
theorem do_h (x:Eng) (hx:x.Ok) (o:Opn) (ho:o.Sz):HoldsW prog 27 [.ptr 1000000 0,.p (.agg o.pv)] (engO x 1000003 1000004) (.p (.agg (doE x o).2.pv)) (engO (doE x o).1 0 1):=by
 have hs:=hx.sto.sm;have HD:=decide_g insF_ok insC_ok x.sto hs o ho.ok (giv_ok hx.sto ho.ok) (fun c hc f hf=>((hx.sto.g0.each c hc).flds f hf).1);have hpr:(gdC x.sto o).2.2.2=0->rdyC x.sto o=0:=fun h=>by
  apply Xa;intro hn;have hp:(preC x.sto o).1≠0:=by
   unfold preC;rw[Yi hn];exact hn
  unfold gdC at h;rw[Yi hp]at h;exact hp h
 obtain⟨D,hD⟩:∃D,D=doE x o:=⟨_,rfl⟩;rw[<-hD];unfold doE at hD;dsimp only at hD;generalize gdC x.sto o=G at*;obtain⟨g1,g2,g3,g4⟩:=G;simp only at HD hD hpr;refine qz (T:=TTab) qc func27 DG rfl rfl rfl ?_;refine Kq ?_;refine uW [(1000001,1000000),(1000002,1000001),(1000004,1000002)] (down_h x.quota x.disk (x.disk.length:Int) x.recs) ?_;refine Ko ?_;refine uC (fun hc=>?_) (fun hc=>?_)
 · cases hc
 refine qh ?_;refine uZ [0,3,4] [(3,3),(4,4),(1000000,1000000),(1000001,1000001),(1000002,1000002),(1000003,1000003),(1000004,1000004)] ?_;change SW _ _ _ ⟨53,[(0,.ptr 1000000 0),(3,.ptr 3 0),(4,.ptr 4 0)],[(3,.cells (opS o)),(4,.cells rplZ)]++engO x 1000003 1000004⟩;(repeat refine qA ?_);refine qD 18 rfl DG ?_
 refine qi (i:=0) (K:=[5,6,7]) DG DG rfl rfl (qf qc rfl De) rfl ?_;refine qi (i:=1) (K:=[5,6,7]) DG DG rfl rfl (qf qc rfl De) rfl ?_;refine qi (i:=2) (K:=[5,6,7]) DG DG rfl rfl (qf qc rfl De) rfl ?_;refine qi (i:=3) (K:=[5,6,7]) DG DG rfl rfl (qf qc rfl De) rfl ?_;refine qi (i:=4) (K:=[5,6,7]) DG DG rfl rfl (qf qc rfl De) rfl ?_;refine swb_fork4 5 11 12 13 DG ?_ ?_ ?_ ?_;refine Le ?_;refine swb_fork3 11 12 13 DG ?_ ?_ ?_;refine Xy ?_;refine zd 12 13 DG ?_ ?_;refine Xy ?_;refine Vv ?_;refine Xy ?_;refine KS ?_;refine ?fk3_112;rotate_left;refine Xy ?_;refine Vr ?_;exact K1
 refine Xy ?_;refine zd 11 13 DG ?_ ?_;refine Xy ?_;refine Vv ?_;exact K1
 refine Xy ?_;refine UX ?_;exact K1
 refine Xy ?_;refine zd 11 12 DG ?_ ?_;refine Xy ?_;refine Vr ?_;exact K1
 refine Xy ?_;refine UX ?_;exact K1
 refine Xy ?_;refine swb_fork3 5 12 13 DG ?_ ?_ ?_;refine Le ?_;refine zd 12 13 DG ?_ ?_;refine Xy ?_;refine Vv ?_;exact K1
 refine Xy ?_;refine Vr ?_;exact K1
 refine Xy ?_;refine zd 5 13 DG ?_ ?_;refine Le ?_;refine Vv ?_;exact K1
 refine Xy ?_;refine Vo ?_;refine Le ?_;exact KT
 refine Xy ?_;refine zd 5 12 DG ?_ ?_;refine Le ?_;refine Vr ?_;exact K1
 refine Xy ?_;refine Vo ?_;refine Le ?_;exact KT
 refine Xy ?_;refine swb_fork3 5 11 13 DG ?_ ?_ ?_;refine Le ?_;refine zd 11 13 DG ?_ ?_;refine Xy ?_;refine Vv ?_;exact K1
 refine Xy ?_;refine UX ?_;exact K1
 refine Xy ?_;refine zd 5 13 DG ?_ ?_;refine Le ?_;refine Vv ?_;exact K1
 refine Xy ?_;refine Vo ?_;refine Le ?_;exact KT
 refine Xy ?_;refine zd 5 11 DG ?_ ?_;refine Le ?_;refine UX ?_;exact K1
 refine Xy ?_;refine Vo ?_;refine Le ?_;exact KT
 refine Xy ?_;refine swb_fork3 5 11 12 DG ?_ ?_ ?_;refine Le ?_;refine zd 11 12 DG ?_ ?_;refine Xy ?_;refine Vr ?_;exact K1
 refine Xy ?_;refine UX ?_;exact K1
 refine Xy ?_;refine zd 5 12 DG ?_ ?_;refine Le ?_;refine Vr ?_;exact K1
 refine Xy ?_;refine Vo ?_;refine Le ?_;exact KT
 refine Xy ?_;refine zd 5 11 DG ?_ ?_;refine Le ?_;refine UX ?_;exact K1
 refine Xy ?_;refine Vo ?_;refine Le ?_;exact KT
 change SW _ _ _ ⟨53,[(0,.ptr 1000000 0),(3,.ptr 3 0),(4,.ptr 4 0),(5,.ptr 5 0),(6,.ptr 6 0),(7,.ptr 7 0),(8,.p (pI g4))],[(3,.cells (opS o)),(4,.cells rplZ),(5,.cells (g1.pv.map .p)),(6,.cells (g2.pv.map .p)),(7,.cells (g3.pv.map .p))]++engO x 1000003 1000004⟩;refine uA ?_;by_cases h4:g4=0;rotate_left
 · rw[Yi h4]at hD;subst hD;rw[show(g4 !=0)=true by simpa using h4];refine uC (fun hc=>?_) (fun hc=>?_);rotate_left
   · cases hc
   refine Kp ?_;exact Gm
 rw[Yc (fun h=>h h4)]at hD;rw[show(g4 !=0)=false by simpa using h4];have hrl:=form_rec (rdy_form (hpr h4)) x.chain;have HR:=rec_h x.chain hx.chain o ho;generalize recW x.chain o=p at*;refine uC (fun hc=>?_) (fun hc=>?_)
 · cases hc
 refine qh ?_;refine Uv ?_;refine LQ ?_;refine Gg ?_;refine Vb ?_;refine X5 ?_;refine Vo ?_;refine qd rfl rfl rfl (qt rfl rfl rfl rfl (HR) rfl rfl rfl ?_);refine XX ?_;refine XH ?_;refine SW.wk (qj [0,3,4,5,6,7,9] [(3,3),(4,4),(5,5),(6,6),(7,7),(1000000,1000000),(1000001,1000001),(1000002,1000002),(1000003,1000003),(1000004,1000004)] rfl rfl) ?_;refine ?fk6_565;rotate_left;change SW _ _ _ ⟨53,[(0,.ptr 1000000 0),(3,.ptr 3 0),(4,.ptr 4 0),(5,.ptr 5 0),(6,.ptr 6 0),(7,.ptr 7 0),(9,.p (bP p))],[(3,.cells (opS o)),(4,.cells rplZ),(5,.cells (g1.pv.map .p)),(6,.cells (g2.pv.map .p)),(7,.cells (g3.pv.map .p))]++engO x 1000003 1000004⟩;have hdk:=hx.disk;by_cases hf:x.quota-x.disk.length<((jF p).length:Int)
 · rw[Yi hf]at hD;subst hD;refine uR ?_;refine uW [(1000001,1000000),(1000002,1000001),(1000004,1000002)] (add_no x.quota x.disk (x.disk.length:Int) x.recs p ⟨hrl.2,hrl.1⟩ hx.quota DP hf) ?_;refine Ku ?_;refine uC (fun hc=>?_) (fun hc=>?_);rotate_left
   · cases hc
   refine Kp ?_;exact Gm
 rw[Yc hf]at hD;refine uR ?_;refine uW [(1000001,1000000),(1000002,1000001),(1000004,1000002)] (add_h x.quota x.disk (x.disk.length:Int) x.recs (by have:=hx.recs;omega) p ⟨hrl.2,hrl.1⟩ hx.quota DP hf) ?_;refine Ku ?_;refine uC (fun hc=>?_) (fun hc=>?_)
 · cases hc
 refine qh ?_;have HG:=goes_h {x with recs:=x.recs++[p],disk:=x.disk++jF p} hx.chain (show x.log.length<=100000 by have:=hx.log;omega) g1 g3 p DP;refine uZ [0,3,4,5,6,7,9] [(3,3),(4,4),(5,5),(6,6),(7,7),(1000000,1000000),(1000001,1000001),(1000002,1000002),(1000003,1000003),(43000,43000)] ?_;change SW _ _ _ ⟨53,[(0,.ptr 1000000 0),(3,.ptr 3 0),(4,.ptr 4 0),(5,.ptr 5 0),(6,.ptr 6 0),(7,.ptr 7 0),(9,.p (bP p))],[(3,.cells (opS o)),(4,.cells rplZ),(5,.cells (g1.pv.map .p)),(6,.cells (g2.pv.map .p)),(7,.cells (g3.pv.map .p))]++engO {x with recs:=x.recs++[p],disk:=x.disk++jF p} 1000003 43000⟩;refine uR ?_;refine uW [(1000000,1000000),(1000001,1000001),(1000002,1000002),(1000003,1000003),(43000,1000004)] HG ?_;refine KU ?_;subst hD;exact⟨Or.inr rfl,_,_,[(1000000,1000000),(1000001,1000001),(1000002,1000002),(52000,0),(43000,1)],_,Wk.refl _,rfl,rfl,.refl _,rfl,rfl⟩
def PB (s:Prs):Prop:=(0<=s.place/\s.place<=5000)/\0<=s.bad/\s.bad<=10
section
variable {l:List Tok} (hl:∀t∈l,t.at_<=5000)
theorem wrong_pb {s:Prs} (h:PB s) (e:Int) (he:0<=e/\e<=10) {p:Int} (hp:0<=p/\p<=5000):PB (jq s e p):=by
 unfold jq;split
 · exact⟨hp,he⟩
 · exact h
theorem qaK {s:Prs} (h:PB s):PB s.next:=h
include hl
theorem here_pl (s:Prs):(0:Int)<=(ze l s).at_/\((ze l s).at_:Int)<=5000:=by
 unfold ze;rw[List.getD_eq_getElem?_getD];cases h:l[s.at_]? with
 |none=>exact⟨by decide,by decide⟩
 |some t=>have:=hl t (YI h);exact⟨Int.natCast_nonneg _,by show(t.at_:Int)<=5000;omega⟩
theorem syn_pb {s:Prs} (h:PB s):PB (synQ l s):=wrong_pb h _ DO (here_pl hl s)
theorem lim_pb {s:Prs} (h:PB s) (m:Bool):PB (limQ l s m):=by
 unfold limQ;split
 · exact wrong_pb h _ DO (here_pl hl s)
 · exact h
theorem must_pb {s:Prs} (h:PB s) (w:Bs):PB (zT l s w):=by
 unfold zT;split
 · exact qaK h
 · exact syn_pb hl h
omit hl in
theorem take_pb {s:Prs} (h:PB s) (w:Bs):PB (qab l s w).2:=by
 unfold qab;split
 · exact qaK h
 · exact h
theorem among_pb {s:Prs} (h:PB s) (ws:List Bs):PB (qO l s ws).2:=by
 unfold qO;split
 · exact qaK h
 · exact syn_pb hl h
theorem name_pb {s:Prs} (h:PB s):PB (zH l s).2:=by
 have h1:PB (if(ze l s).kind=1 then s else synQ l s):=by
  split
  · exact h
  · exact syn_pb hl h
 unfold zH;dsimp only;generalize (if(ze l s).kind=1 then s else synQ l s)=s1 at*;split
 · exact h1
 · exact qaK h1
theorem atr_pb {s:Prs} (h:PB s):PB (qaY l s).2:=by
 unfold qaY;exact take_pb (name_pb hl (must_pb hl (among_pb hl h _) _)) _
theorem val_pb {s:Prs} (h:PB s):PB (valQ l s).2:=by
 unfold valQ;split
 · split
   · exact h
   · exact qaK h
 · exact syn_pb hl h
theorem mop_pb {s:Prs} (h:PB s):PB (mopQ l s).2:=by
 unfold mopQ
 repeat' split
 all_goals first|exact qaK h|exact syn_pb hl h
theorem mat_pb {s:Prs} (h:PB s):PB (matQ l s).2:=val_pb hl (mop_pb hl (atr_pb hl h))
theorem sep_pb {β:Type} {w:Bs} {g:Prs->β×Prs} (hg:∀s,PB s->PB (g s).2):∀(n:Nat) (acc:List β) {s:Prs},PB s->PB (sepQ l w g n acc s).2
 |0,_,_,h=>h
 |n+1,acc,s,h=>by
  rw[sepQ];split
  · exact sep_pb hg n _ (lim_pb hl (hg _ (qaK h)) _)
  · exact h
theorem all_pb {s:Prs} (h:PB s):PB (allQ l s).2:=sep_pb hl (fun _ h=>mat_pb hl h) _ _ (mat_pb hl h)
theorem any_pb {s:Prs} (h:PB s):PB (anyQ l s).2:=must_pb hl (sep_pb hl (fun _ h=>all_pb hl h) _ _ (all_pb hl (must_pb hl h _))) _
theorem tar_pb {s:Prs} (h:PB s):PB (tarQ l s).2:=by
 unfold tarQ;split
 · exact sep_pb hl (fun _ h=>any_pb hl h) _ _ (any_pb hl (qaK h))
 · exact h
theorem opd_pb {ex:List Nod->Prs->(List Nod×Bool)×Prs} (hE:∀acc s,PB s->PB (ex acc s).2) (acc:List Nod) {s:Prs} (h:PB s) (m:Bool):PB (opdQ l ex acc s m).2:=by
 unfold opdQ;dsimp only;split
 · exact hE acc s h
 · exact wrong_pb (hE acc s h) _ DO (here_pl hl s)
theorem opds_pb {ex:List Nod->Prs->(List Nod×Bool)×Prs} (hE:∀acc s,PB s->PB (ex acc s).2):∀(ms:List Bool) (acc:List Nod) {s:Prs},PB s->PB (wS l ex ms acc s).2
 |[],_,_,h=>h
 |m::ms,acc,s,h=>by
  rw[wS];split
  · exact h
  · exact opds_pb hE ms _ (opd_pb hl hE acc h m)
theorem nod_pb {ex:List Nod->Prs->(List Nod×Bool)×Prs} (hE:∀acc s,PB s->PB (ex acc s).2) (acc:List Nod) {s:Prs} (h:PB s):PB (nodQ l ex acc s).2:=by
 unfold nodQ
 repeat' split
 · unfold funQ;exact must_pb hl (opds_pb hl hE _ _ (among_pb hl (qaK h) _)) _
 · exact atr_pb hl h
 · exact val_pb hl h
theorem expr_pb:∀(n:Nat) (acc:List Nod) (s:Prs),PB s->PB (zr l n acc s).2
 |0,_,_,h=>h
 |n+1,acc,s,h=>by
  rw[zr];exact lim_pb hl (nod_pb hl (fun acc s h=>expr_pb n acc s h) acc h) _
theorem obl_pb {s:Prs} (h:PB s):PB (oblQ l s).2:=name_pb hl (among_pb hl (among_pb hl h _) _)
theorem dut_pb {s:Prs} (h:PB s):PB (dutQ l s).2:=sep_pb hl (fun _ h=>obl_pb hl h) _ _ h
theorem rul_pb (deny:Bool) {s:Prs} (h:PB s):PB (rulQ l deny s).2:=by
 have h1:=tar_pb hl (name_pb hl h);have h2:PB (if isQ l (tarQ l (zH l s).2).2 wIf then opdQ l (zr l (l.length+1)) [] (tarQ l (zH l s).2).2.next false else([],(tarQ l (zH l s).2).2)).2:=by
  split
  · exact opd_pb hl (fun acc s h=>expr_pb hl _ acc s h) _ (qaK h1) _
  · exact h1
 unfold rulQ;exact must_pb hl (dut_pb hl h2) _
theorem some_pb:∀(n:Nat) (acc:List Rul) {s:Prs},PB s->PB (jY l n acc s).2
 |0,_,_,h=>h
 |n+1,acc,s,h=>by
  rw[jY];split
  · dsimp only;have h1:=lim_pb hl h (decide (acc.length=16)||decide (s.rules=64));split
    · exact h1
    · exact some_pb n _ (rul_pb hl _ (show PB _ from h1))
  · exact h
theorem kids_pb {pk:Prs->Pol×Prs} (hP:∀s,PB s->PB (pk s).2) (d:Int):∀(n:Nat) (acc:List Pol) {s:Prs},PB s->PB (ju l pk d n acc s).2
 |0,_,_,h=>h
 |n+1,acc,s,h=>by
  rw[ju];split
  · dsimp only;have h1:=lim_pb hl h (decide (acc.length=16)||decide (d>4));split
    · exact h1
    · exact kids_pb hP d n _ (hP _ h1)
  · exact h
theorem pol_pb:∀(n:Nat) (s:Prs),PB s->PB (polQ l n s).2
 |0,_,h=>h
 |n+1,s,h=>by
  rw[polQ];dsimp only;have h1:=must_pb hl (tar_pb hl (among_pb hl (name_pb hl (among_pb hl h [zx,wSet])) wAlgs)) [123];generalize zT l (tarQ l (qO l (zH l (qO l s [zx,wSet]).2).2 wAlgs).2).2 [123]=s1 at*;have h2:PB (if(qO l s [zx,wSet]).1=2 then ju l (polQ l n) (6-n) (l.length+1) [] s1 else([],s1)).2:=by
   split
   · exact kids_pb hl (fun s h=>pol_pb n s h) _ _ _ h1
   · exact h1
  generalize (if(qO l s [zx,wSet]).1=2 then ju l (polQ l n) (6-n) (l.length+1) [] s1 else([],s1))=ks at*;refine dut_pb hl (must_pb hl ?_ _);split
  · exact h2
  · exact some_pb hl _ _ h1
end
theorem lexF_pl:∀{f k:Nat} {l:Bs} {a:List Tok},lexF f k l=.ok a->∀t∈a,t.at_<=k+l.length
 |f+1,k,[],a,h=>by
  cases h;intro t ht;rw[YA]at ht;subst ht;exact Yk _
 |f+1,k,c::r,a,h=>by
  rw[lexF]at h;split at h
  · intro t ht;have:=lexF_pl h t ht;rw[Yg];omega
  · cases ht:tokL (c::r)with
    |none=>rw[ht]at h;cases h
    |some t=>
     have hl:=qae ht;rw[ht]at h;simp only at h;cases hr:lexF f (k+t.len) ((c::r).drop t.len)with
     |error e=>rw[hr]at h;cases h
     |ok a'=>
      rw[hr]at h;simp only at h;cases h;intro x hx;rcases Y0.1 hx with rfl|hx
      · show k<=_;omega
      · have:=lexF_pl hr x hx;rw[Yo]at this;omega
theorem lexF_err:∀{f k:Nat} {l:Bs} {e:Nat},lexF f k l=.error e->e<=k+l.length
 |0,k,l,e,h=>by cases h;omega
 |f+1,k,[],e,h=>by cases h
 |f+1,k,c::r,e,h=>by
  rw[lexF]at h;split at h
  · have:=lexF_err h;rw[Yg];omega
  · cases ht:tokL (c::r)with
    |none=>rw[ht]at h;cases h;omega
    |some t=>
     have hl:=qae ht;rw[ht]at h;simp only at h;cases hr:lexF f (k+t.len) ((c::r).drop t.len)with
     |error e'=>
      rw[hr]at h;simp only at h;cases h;have:=lexF_err hr;rw[Yo]at this;omega
     |ok a'=>rw[hr]at h;cases h
theorem parse_rng (b:Bs):(0<=(zk b).2.2/\(zk b).2.2<=5000)/\0<=(zk b).2.1/\(zk b).2.1<=10:=by
 unfold zk;split
 · exact⟨⟨by decide,by decide⟩,by decide,by decide⟩
 · rename_i hb;cases hl:lexL b with
   |error e=>
    have:=lexF_err hl;exact⟨⟨Int.natCast_nonneg _,by show(e:Int)<=_;omega⟩,show(0:Int)<=5 by decide,show(5:Int)<=10 by decide⟩
   |ok l=>
    dsimp only;have hp:∀t∈l,t.at_<=5000:=fun t ht=>by have:=lexF_pl hl t ht;omega
    have h1:=pol_pb hp 5 ⟨0,0,0,0⟩ ⟨⟨by decide,by decide⟩,by decide,by decide⟩;have h2:PB (if(ze l (polQ l 5 ⟨0,0,0,0⟩).2).kind=7 then(polQ l 5 ⟨0,0,0,0⟩).2 else synQ l (polQ l 5 ⟨0,0,0,0⟩).2):=by
     split
     · exact h1
     · exact syn_pb hp h1
    generalize (if(ze l (polQ l 5 ⟨0,0,0,0⟩).2).kind=7 then(polQ l 5 ⟨0,0,0,0⟩).2 else synQ l (polQ l 5 ⟨0,0,0,0⟩).2)=s1 at*;have h3:PB (if s1.bad=0/\zW (polQ l 5 ⟨0,0,0,0⟩).1≠0 then jq s1 5 b.length else s1):=by
     split
     · exact wrong_pb h2 _ DO ⟨Int.natCast_nonneg _,by omega⟩
     · exact h2
    generalize (if s1.bad=0/\zW (polQ l 5 ⟨0,0,0,0⟩).1≠0 then jq s1 5 b.length else s1)=s2 at*;split
    · exact h3
    · exact⟨⟨Int.le_refl 0,by show(0:Int)<=5000;decide⟩,Int.le_refl 0,by show(0:Int)<=10;decide⟩
structure Rpl.Ok (r:Rpl):Prop where
 mark:r.mark∈mks
 val:r.val.Fit
 err:R64 r.err
 at_:R64 r.at_
theorem r64_s {n:Int} (h:0<=n/\n<=5000):R64 n:=⟨by omega,by omega⟩
theorem bad_ok {e a:Int} (he:0<=e/\e<=5000) (ha:0<=a/\a<=5000):(badR e a).Ok:=⟨by show((0,0):Mk)∈mks;simp[mks],qbn,r64_s he,r64_s ha⟩
theorem rdyCase_r (s:Sto) (o:Opn):0<=qbr s o/\qbr s o<=5000:=by
 unfold qbr
 repeat' split
 all_goals decide
theorem rdyClose_r (s:Sto) (o:Opn):0<=qac s o/\qac s o<=5000:=by
 unfold qac
 repeat' split
 all_goals decide
theorem rdyC_r (s:Sto) (o:Opn):0<=rdyC s o/\rdyC s o<=5000:=by
 have h1:=rdyCase_r s o;have h2:=rdyClose_r s o;unfold rdyC
 repeat' split
 all_goals first|exact h1|exact h2|decide
theorem preC_r (s:Sto) (o:Opn):(0<=(preC s o).1/\(preC s o).1<=5000)/\0<=(preC s o).2/\(preC s o).2<=5000:=by
 have h1:=rdyC_r s o;have h2:=parse_rng o.text.data.toList;unfold preC;split
 · exact⟨h1,Int.le_refl 0,show(0:Int)<=5000 by decide⟩
 · split
   · exact⟨⟨h2.2.1,by have:=h2.2.2;dsimp only;omega⟩,h2.1⟩
   · exact⟨⟨Int.le_refl 0,show(0:Int)<=5000 by decide⟩,Int.le_refl 0,show(0:Int)<=5000 by decide⟩
theorem gd_rpl {s:Sto} (h:s.Gd) (o:Opn):(gdC s o).2.1.Ok:=by
 have hv:=gd_val h o;have hp:=preC_r s o;have he:0<=(jp s.pol (askC s o)).2/\(jp s.pol (askC s o)).2<=5000:=by
  unfold jp;split
  · exact⟨Int.le_refl 0,show(0:Int)<=5000 by decide⟩
  · exact⟨show(0:Int)<=1 by decide,show(1:Int)<=5000 by decide⟩
 unfold gdC at hv⊢;split
 · exact bad_ok hp.1 hp.2
 · rename_i h1;rw[Yc h1]at hv;split
   · exact bad_ok he ⟨by decide,by decide⟩
   · rename_i h2;rw[Yc h2]at hv;split
     · exact bad_ok ⟨by decide,by decide⟩ ⟨by decide,by decide⟩
     · rename_i h3;rw[Yc h3]at hv;have hm:(jp s.pol (askC s o)).1.m∈mks:=by
        unfold jp;split
        · exact qak _ _ _
        · simp[noRs,mks]
       refine⟨hm,hv,?_,r64_0⟩;show R64 (if _ then 0 else 12);split
       · exact r64_0
       · exact r64_s DO
theorem doE_rpl {x:Eng} (h:x.sto.Gd) (o:Opn):(doE x o).2.Ok:=by
 have h1:=gd_rpl h o;unfold doE;dsimp only;split
 · exact h1
 · split
   · exact⟨by show((0,0):Mk)∈mks;simp[mks],qbn,r64_s (by show(0:Int)<=8/\(8:Int)<=5000;decide),r64_0⟩
   · exact h1
structure Eng.In (x:Eng) (n:Nat):Prop where
 sto:x.sto.Gd
 log:x.log.length<=n
 recs:x.recs.length<=n
 chain:x.chain<18446744073709551616
 disk:(x.disk.length:Int)<=x.quota
 quota:0<=x.quota/\x.quota<=4000000
theorem Eng.In.ok {x:Eng} {n:Nat} (h:x.In n) (hn:n<=90000):x.Ok:=⟨h.sto,by have:=h.log;omega,by have:=h.recs;omega,h.chain,by have:=h.disk;have:=h.quota;omega,by have:=h.quota;omega⟩
theorem Eng.In.more {x:Eng} {n m:Nat} (h:x.In n) (hm:n<=m):x.In m:=⟨h.sto,by have:=h.log;omega,by have:=h.recs;omega,h.chain,h.disk,h.quota⟩
theorem in_do {x:Eng} {n:Nat} (h:x.In n) {o:Opn} (ho:o.Ok):(doE x o).1.In (n+1):=by
 have hg:=gd_step h.sto ho;unfold doE;dsimp only;generalize recW x.chain o=p;generalize jF p=fr;split
 · exact h.more DP
 · split
   · exact h.more DP
   · rename_i hq;refine⟨hg,?_,?_,chainW_lt _ _,?_,h.quota⟩
     · have:=h.log;show(x.log++[_]).length<=_;rw[Ya,YF];omega
     · have:=h.recs;show(x.recs++[_]).length<=_;rw[Ya,YF];omega
     · show(((x.disk++fr).length:Nat):Int)<=x.quota;rw[Ya];omega
theorem tokV_sz {t:Tok} {v:Val} (ht:t.s.length<=5000) (h:tokV t=some v):v.s.size<=5000:=by
 have hs:(bs t.s).size<=5000:=ht;have h0:e0.size<=5000:=by decide
 unfold tokV at h
 repeat' split at h
 all_goals first
  |(cases h;done)
  |(cases h;first|exact hs|exact h0)
theorem litW_sz {b:Bs} (hb:b.length<=4096) {v:Val} (h:litW b=some v):v.s.size<=5000:=by
 unfold litW at h;cases hl:lexL b with
 |error e=>rw[hl]at h;cases h
 |ok l=>
  rw[hl]at h;simp only at h;split at h
  · have ht:=tokOk_of hb hl;cases hx:l[0]? with
    |none=>rw[hx]at h;cases h
    |some t=>
     rw[hx]at h;exact tokV_sz (ht.tx t (YI hx)) h
  · cases h
theorem bs_sz {b:Bs} (h:b.length<=5000):(bs b).size<=5000:=h
theorem kindO_sz {k:Int} {o o':Opn} (ho:o.Sz) {s:Bs} (hs:s.length<=4096) (h:kindO k o s=some o'):o'.Sz:=by
 have hok:=kindO_ok ho.ok hs h;have n1:=jt s;have n2:=jt (cutW s).2;have n3:=jt (cutW (cutW s).2).2;unfold kindO at h;split at h
 · cases h;exact⟨hok,ho.subj,bs_sz DP,ho.field,ho.to_,ho.val,ho.text,ho.reason⟩
 split at h
 · cases h;exact⟨hok,ho.subj,bs_sz DP,bs_sz DP,ho.to_,ho.val,ho.text,ho.reason⟩
 split at h
 · cases hv:litW (cutW (cutW s).2).2 with
   |none=>rw[hv]at h;cases h
   |some v=>
    rw[hv]at h;cases h;exact⟨hok,ho.subj,bs_sz DP,bs_sz DP,ho.to_,litW_sz DP hv,ho.text,ho.reason⟩
 split at h
 · cases h;exact⟨hok,ho.subj,bs_sz DP,ho.field,bs_sz DP,ho.val,ho.text,ho.reason⟩
 split at h
 · cases h;exact⟨hok,ho.subj,ho.case_,ho.field,ho.to_,ho.val,ho.text,ho.reason⟩
 split at h
 · cases h;exact⟨hok,ho.subj,ho.case_,ho.field,ho.to_,ho.val,bs_sz DP,ho.reason⟩
 · cases h;exact ho
theorem lineW_sz {s:Bs} (hs:s.length<=4096) {o:Opn} (h:qaa s=some o):o.Sz:=by
 have n1:=jt s;have n2:=glsW_len (cutW s).2;have n3:=jt (glsW (cutW s).2).2.2;unfold qaa at h;cases hr:rawW s with
 |none=>rw[hr]at h;cases h
 |some o'=>
  rw[hr]at h;simp only at h;split at h
  · cases h;unfold rawW at hr;refine kindO_sz ?_ DP hr;have hk:=kindW_r (bs (cutW (glsW (cutW s).2).2.2).1);exact⟨⟨bs_ok DP,ok0,ok0,ok0,⟨ok0,r64_0,r64_0⟩,ok0,bs_ok DP,r64_0,hk⟩,bs_sz DP,Yl _,Yl _,Yl _,Yl _,Yl _,bs_sz DP⟩
  · cases h
theorem in_line {x:Eng} {n:Nat} (h:x.In n) {q:Bs} (hq:q.length<=4096):(zy x q).1.In (n+1):=by
 unfold zy;cases hl:qaa q with
 |none=>exact h.more DP
 |some o=>exact in_do h (lineW_sz hq hl).ok
theorem line_h (x:Eng) (hx:x.Ok) (l:Bs) (hl:l.length<=4096):HoldsW prog 16 [.ptr 1000000 0,.p (pL l)] (engO x 1000003 1000004) (.p (pS (zy x l).2)) (engO (zy x l).1 0 1):=by
 have HP:=parseL_h l hl;unfold zy;cases hw:qaa l with
 |none=>
  rw[hw]at HP;refine qE (ts:=[4]) func16 DG rfl rfl rfl ?_;refine Kq ?_;refine uK HP ?_;refine Ku ?_;refine uC (fun hc=>?_) (fun hc=>?_);rotate_left
  · cases hc
  refine Kp ?_;exact uF [(1000000,1000000),(1000001,1000001),(1000002,1000002),(1000003,0),(1000004,1)]
 |some o=>
  rw[hw]at HP;have hsz:=lineW_sz hl hw;have HD:=do_h x hx o hsz;have hr:=doE_rpl hx.sto o;have HA:=answer_h (doE x o).2 hr.mark hr.val hr.err hr.at_;simp only;generalize doE x o=D at*;refine qE (ts:=[4]) func16 DG rfl rfl rfl ?_;refine Kq ?_;refine uK HP ?_;refine Ku ?_;refine uC (fun hc=>?_) (fun hc=>?_)
  · cases hc
  refine Kv ?_;refine uW [(1000000,1000000),(1000001,1000001),(1000002,1000002),(1000003,1000003),(1000004,1000004)] HD ?_;refine uS ?_;refine uK HA ?_;refine Ks ?_;exact uF [(1000000,1000000),(1000001,1000001),(1000002,1000002),(17000,0),(17001,1)]
def engG (x:Eng) (e j d l r:Nat):List (Nat×Box):=[(e,.cells (.ptr j 0::(enS x.sto (.row l) x.chain).drop 1)),(j,.cells [.ptr d 0,.row r,.p (pB false)]),(d,.cells (dkS x.quota x.disk (x.disk.length:Int))),(l,.row 80 16 (x.log.map Dcd.pv)),(r,.row 100 1 (recR x.recs))]
theorem dnew_h' (n:Int) (hn:0<=n/\n<=1048576):HoldsW prog 38 [.p (pI n)] [] (.tup [.ptr 0 0,.p (pI 0)]) [(0,.cells (dkS n [] 0))]:=by
 refine qE (ts:=[2,3]) func38 DG rfl rfl rfl ?_;refine Kq ?_;rw[show decide (n<0)=false by rw[Yh];omega];refine uS ?_;rw[show decide (n>1048576)=false by rw[Yh];omega];refine qe ?_;refine uC (fun hc=>?_) (fun hc=>?_)
 · cases hc
 refine KA ?_;exact⟨Or.inr rfl,_,_,[(12,0)],(wk_nilc 12 1 900 5 1 rfl rfl rfl).trans (qu (k:=900) rfl),rfl,rfl,rfl,rfl⟩
theorem cnew_h:Holds prog 30 [] (.p (.agg newS.pv)) []:=by
 have HP:=parse_h leastB DO;unfold newS;generalize zk leastB=R at*;obtain⟨p,e,a⟩:=R;simp only at HP⊢;rw[qY]at HP;refine Vd ?_;show HoldsW _ _ [] [] _ _;refine qz (T:=TTab) qc func30 DG rfl rfl rfl ?_;refine Kq ?_;refine uO HP ?_;refine KU ?_;refine⟨Or.inr rfl,_,_,[],_,Wk.refl _,rfl,rfl,.p ?_,rfl,rfl⟩;exact CvL.agg (.cons (.refl _) (.cons (.nil 5) (.cons (.nil 7) (.cons (.nil 3) (.cons (.nil 2) (.cons (.refl _) (.cons (.refl _) (.cons (.refl _) (.cons (.refl _) (.cons (.refl _) (.cons (.refl _) (.cons (.refl _) (.cons (.refl _) .nil)))))))))))))
theorem begins0_h:Holds prog 200 [bP []] (.tup [.p nilV,.p (pB false)]) []:=by
 refine qo (ts:=[2,3]) func200 DG rfl rfl rfl ?_;refine Kr ?_;refine uC (fun hc=>?_) (fun hc=>?_);rotate_left
 · cases hc
 exact KI
theorem scan0_h:Holds prog 141 [bP []] (.tup [.p nilV,.p (pI 0)]) []:=by
 refine qo (ts:=[2,3]) func141 DG rfl rfl rfl ?_;refine Lr ?_;refine qG (fun m s=>s=_) 0 rfl ?_;rintro m s rfl;refine Kx ?_;refine qm qc rfl rfl (by show(0:Int)<=0/\(0:Int)<=0/\(0:Int)<=0;decide) rfl ?_;refine uK begins0_h ?_;refine Ku ?_;refine uC (fun hc=>?_) (fun hc=>?_);rotate_left
 · cases hc
 exact KI
theorem read_h (q:Int) (b:Bs) (s:Int) (hb:b.length<=1000000):HoldsW prog 142 [.ptr 1000000 0] [(1000000,.cells (dkS q b s))] (.p (bP b)) [(1000000,.cells (dkS q b s))]:=by
 have HC:=(cloneB_h b hb).row_sl;refine qE (ts:=[2]) func142 DG rfl rfl rfl ?_;refine Kq ?_;refine uO HC ?_;refine Ks ?_;exact Vj
theorem len_h (q:Int) (b:Bs) (s:Int):HoldsW prog 143 [.ptr 1000000 0] [(1000000,.cells (dkS q b s))] (.p (pI (b.length:Int))) [(1000000,.cells (dkS q b s))]:=by
 have lb:=zY b;refine qE (ts:=[2]) func143 DG rfl rfl rfl ?_;refine Kq ?_;rw[lb];refine KD ?_;exact Vj
theorem open0_h (n:Int):HoldsW prog 81 [.ptr 1000000 0] [(1000000,.cells (dkS n [] 0))] (.tup [.ptr 0 0,.p (pI 0)]) [(0,.cells [.ptr 1000000 0,.row 1,.p (pB false)]),(1000000,.cells (dkS n [] 0)),(1,.row 100 1 (recR []))]:=by
 refine qE (ts:=[2,3]) func81 DG rfl rfl rfl ?_;refine Kq ?_;refine V4 ?_;refine Ko ?_;refine uC (fun hc=>?_) (fun hc=>?_)
 · cases hc
 refine Kv ?_;refine uW [(1000000,1000000)] (read_h n [] 0 DQ) ?_;refine uS ?_;refine uK scan0_h ?_;refine Kt ?_;refine uW [(1000000,1000000)] (len_h n [] 0) ?_;refine Ko ?_;refine uC (fun hc=>?_) (fun hc=>?_)
 · cases hc
 refine Kv ?_;refine uW [(1000000,1000000)] (sync_h n [] 0) ?_;refine Ku ?_;refine uC (fun hc=>?_) (fun hc=>?_)
 · cases hc
 refine KA ?_;exact⟨Or.inr rfl,_,_,[(34,0),(1000000,1000000),(900,1)],wk_nilc 34 1 900 100 1 rfl rfl rfl,rfl,rfl,rfl,rfl⟩
theorem recs0_h (q:Int) (b:Bs) (s:Int):HoldsW prog 82 [.ptr 1000000 0] [(1000000,.cells [.ptr 1000001 0,.row 1000002,.p (pB false)]),(1000001,.cells (dkS q b s)),(1000002,.row 100 1 (recR []))] (.p nilV) [(1000000,.cells [.ptr 1000001 0,.row 1000002,.p (pB false)]),(1000001,.cells (dkS q b s)),(1000002,.row 100 1 (recR []))]:=by
 refine qE (ts:=[2]) func82 DG rfl rfl rfl ?_;refine Lr ?_;refine qG (fun m s=>s=_) 0 rfl ?_;rintro m s rfl;refine uA ?_;refine uC (fun hc=>?_) (fun hc=>?_)
 · cases hc
 refine K3 ?_;exact MT
theorem start0_h (n:Int):HoldsW prog 33 [.ptr 1000000 0] [(1000000,.cells (dkS n [] 0))] (.tup [.ptr 0 0,.p (pI 0)]) (engG (newE n) 0 1 1000000 2 3):=by
 have HN:=cnew_h;unfold engG newE;generalize newS=S at*;refine qE (ts:=[2,3]) func33 DG rfl rfl rfl ?_;refine Kq ?_;refine uW [(1000000,1000000)] (open0_h n) ?_;refine Ku ?_;refine uC (fun hc=>?_) (fun hc=>?_)
 · cases hc
 refine Kv ?_;refine uO HN ?_;refine Ko ?_;refine SW.wk (wk_nilc 26 14 900 80 16 rfl rfl rfl) ?_;refine uZ [4,6] [(26,26),(18000,18000),(1000000,1000000),(900,900),(18001,18001)] ?_;change SW _ _ _ ⟨62,[(4,.ptr 18000 0),(6,.ptr 26 0)],engG ⟨S,[],[],0,[],n⟩ 26 18000 1000000 900 18001⟩;refine uR ?_;refine uW [(18000,1000000),(1000000,1000001),(18001,1000002)] (recs0_h n [] 0) ?_;refine Lx ?_;refine qG (fun m s=>s=_) 0 rfl ?_;rintro m s rfl;refine uA ?_;refine uC (fun hc=>?_) (fun hc=>?_)
 · cases hc
 refine K3 ?_;exact uF [(26,0),(18000,1),(1000000,1000000),(900,2),(18001,3)]
theorem fresh_h (n:Int) (hn:0<=n/\n<=1048576):HoldsW prog 13 [.p (pI n)] [] (.tup [.ptr 0 0,.ptr 2 0]) (engG (newE n) 0 1 2 3 4):=by
 refine qE (ts:=[2,3]) func13 DG rfl rfl rfl ?_;refine Kq ?_;refine uW [] (dnew_h' n hn) ?_;refine Kt ?_;refine V4 ?_;refine Ko ?_;refine uC (fun hc=>?_) (fun hc=>?_)
 · cases hc
 refine Kv ?_;refine uW [(11000,1000000)] (start0_h n) ?_;refine Kt ?_;refine V4 ?_;refine Ko ?_;refine uC (fun hc=>?_) (fun hc=>?_)
 · cases hc
 refine KA ?_;exact uF [(22000,0),(22001,1),(11000,2),(22002,3),(22003,4)]
theorem store_h (x:Eng):HoldsW prog 15 [.ptr 1000000 0] (engO x 1000003 1000004) (.p (.agg x.sto.pv)) (engO x 1000003 1000004):=by
 refine qz (T:=TTab) qc func15 DG rfl rfl rfl ?_;refine KX ?_;exact⟨Or.inr rfl,_,_,[(1000000,1000000),(1000001,1000001),(1000002,1000002),(1000003,1000003),(1000004,1000004)],_,Wk.refl _,rfl,rfl,.refl _,rfl,rfl⟩
theorem chainX_h (x:Eng):HoldsW prog 37 [.ptr 1000000 0] (engO x 1000003 1000004) (.p (pW64 x.chain)) (engO x 1000003 1000004):=by
 refine qE (ts:=[2]) func37 DG rfl rfl rfl ?_;refine KX ?_;exact MH
def cut6 (s:DT):DT:=s.extract 0 (min s.size 600)
def jc (l:List DT) (n:Nat):List DT:=(l.take n).map cut6
def zF (l:List DT):PV:=.sl 1 (l.map fun s=>[pS s])
theorem lines_h (l:List DT) (n:Nat) (hn:n<=1000) (hl:l.length<=reachBytes):Holds prog 14 [zF l,pI n] (.p (zF (jc l n))) []:=by
 have ll:(l.map fun s=>[pS s]).length=l.length:=Yb _;have lb:∀k,((jc l k).map fun s=>[pS s]).length=min k l.length:=fun k=>by rw[Yb];unfold jc;rw[Yb,Yd]
 have lsn:∀k (hk:k<l.length),jc l (k+1)=jc l k++[cut6 l[k]]:=fun k hk=>by
  unfold jc;rw[Ym hk,Yr];rfl
 refine Vd ?_;show HoldsW _ _ [.p (zF l),.p (pI n)] [] _ _;refine qE (ts:=[4]) func14 DG rfl rfl rfl ?_;refine Lr ?_;refine SW.wk (zw 5 900 9 1 rfl rfl) ?_;refine uZ [0,1,5,6] [(900,5)] ?_;refine qG (fun m s=>∃k:Nat,k<=n/\k<=l.length/\m=n-k/\s=⟨33,[(0,.p (zF l)),(1,.p (pI n)),(5,.row 5),(6,.p (pI (k:Int)))],[(5,.row 9 1 ((jc l k).map fun s=>[pS s]))]⟩) n ⟨0,Yl _,Yl _,rfl,rfl⟩ ?_;rintro m s ⟨k,hk,hkl,rfl,rfl⟩;refine uR ?_;rw[ll];by_cases h1:k<l.length
 · refine ML ?_;refine uS ?_;by_cases h2:k<n
   · rw[show decide ((k:Int)<(n:Int))=true by rw[Yf];omega];refine qe ?_;refine uC (fun hc=>?_) (fun hc=>?_);rotate_left
     · cases hc
     refine Lh ?_;refine uD [5] [1,3,5,7,9,11,13,15,17,19,21,23,24,26,29] ?_;refine qJ qc rfl rfl rfl Du rfl ?_;rw[qw h1];refine uT ?_;refine qJ qc rfl rfl rfl Du rfl ?_;rw[qw h1];refine uT ?_;refine qJ qc rfl rfl rfl (by show(0:Int)<=0/\(0<=(if(600:Int)<(l[k].size:Int)then 600 else(l[k].size:Int)))/\(if(600:Int)<(l[k].size:Int)then 600 else(l[k].size:Int))<=(l[k].size:Int);split<;>omega) rfl ?_;generalize hE:l[k].extract (Int.toNat 0) _=E;have hE2:E=cut6 l[k]:=by
      rw[<-hE];show l[k].extract 0 (Int.toNat (if(600:Int)<(l[k].size:Int)then 600 else(l[k].size:Int)))=_;unfold cut6;congr 1;split<;>omega
     rw[hE2];refine uT ?_;refine swm_act rfl rfl rfl (qp qc rfl rfl rfl rfl rfl rfl rfl rfl rfl rfl rfl rfl rfl rfl rfl rfl (by rw[lb k];show _+1<=_;unfold reachBytes;omega) (by rw[lb k];show(_+1)*16<=_;omega) ?_);refine KG ?_;refine uA ?_;refine⟨_,_,?_,qj [0,1,5,6] [(31,5)] rfl rfl,k+1,h2,h1,rfl,by rw[qq h2 DP,lsn k h1,Yr];rfl⟩;omega
   · rw[show decide ((k:Int)<(n:Int))=false by rw[Yh];omega];refine qe ?_;refine uC (fun hc=>?_) (fun hc=>?_)
     · cases hc
     refine qC ?_;have e:jc l n=jc l k:=by rw[show n=k by omega]
     rw[e];refine Kp ?_;exact⟨Or.inr rfl,_,_,[],qu (k:=5) rfl,rfl,rfl,rfl,rfl⟩
 · refine ME ?_;refine Ko ?_;refine uC (fun hc=>?_) (fun hc=>?_)
   · cases hc
   refine qC ?_;have e:jc l n=jc l k:=by unfold jc;rw[YN DP,YN DP]
   rw[e];refine Kp ?_;exact⟨Or.inr rfl,_,_,[],qu (k:=5) rfl,rfl,rfl,rfl,rfl⟩
def aw1:Bs:=[97,110,110,32,110,101,119,32,99]
def aw2:Bs:=[97,110,110,32,119,114,105,116,101,32,99,32,102,32,55]
def aw3:Bs:=[97,110,110,32,112,111,108,105,99,121,32,112,111,108,105,99,121,32,112,32,102,105,114,115,116,32,123,32,100,101,110,121,32,100,32,119,104,101,110,32,40,97,99,116,105,111,110,46,110,97,109,101,32,61,32,35,119,114,105,116,101,41,59,32,112,101,114,109,105,116,32,114,59,32,125]
def aw4:Bs:=[97,110,110,32,119,114,105,116,101,32,99,32,102,32,56]
def aw5:Bs:=[98,111,98,32,114,101,97,100,32,99,32,102]
def ax0:Eng:=newE 4000
def ax1:Eng:=(zy ax0 aw1).1
def ax2:Eng:=(zy ax1 aw2).1
def ax3:Eng:=(zy ax2 aw3).1
def ax4:Eng:=(zy ax3 aw4).1
theorem aw_1:(zy ax0 aw1).2=wOk:=by kernel_rfl
theorem aw_2:(zy ax1 aw2).2=wOk:=by kernel_rfl
theorem aw_3:(zy ax2 aw3).2=wOk:=by kernel_rfl
theorem aw_4:(zy ax3 aw4).2=⟨#[100,101,110,105,101,100,32,68,101,110,121]⟩:=by kernel_rfl
theorem aw_5:(zy ax4 aw5).2=⟨#[111,107,32,55]⟩:=by kernel_rfl
theorem sameCas_h (l:List Cas) (hn:l.length<=1000000) (he:∀c∈l,c.fields.length<=1000000/\c.log.length<=1000000):Holds prog 18 [wc l,wc l] (.p (pB true)) []:=by
 have ll:(l.map Cas.pv).length=l.length:=Yb _;refine qo (ts:=[4]) func18 DG rfl rfl rfl ?_;refine Kr ?_;refine uC (fun h0=>?_) (fun h0=>?_)
 · exfalso;simp at h0
 refine Kw ?_;rw[ll];refine uB ?_;refine uZ [0,1,12,13] [] ?_;refine qG (fun m s=>∃k:Nat,k<=l.length/\m=l.length-k/\s=⟨82,[(0,.p (wc l)),(1,.p (wc l)),(12,.p (pI (l.length:Int))),(13,.p (pI (k:Int)))],[]⟩) l.length ⟨0,Yl _,rfl,rfl⟩ ?_;rintro m s ⟨k,hk,rfl,rfl⟩;refine uA ?_;by_cases hlt:k<l.length
 · refine ML ?_;refine uC (fun hc=>?_) (fun hc=>?_);rotate_left
   · cases hc
   refine Lh ?_;obtain⟨c,hx⟩:∃c,c=l[k]:=⟨_,rfl⟩;have hcl:=he c (by rw[hx];exact Yn hlt);have HF:=sameFld_h c.fields hcl.1;have HH:=sameHap_h c.log hcl.2;refine uA ?_;(repeat refine qA ?_);refine sw_region_spec_draw DG DG DG ?_
   refine Eg ?_;refine Eg ?_;refine Xz ?_;rw[show(c.id.toList==c.id.toList)=true by simp];refine Eg ?_;refine Eg ?_;refine Xz ?_;rw[show(c.owner.toList==c.owner.toList)=true by simp];refine Eg ?_;refine Eg ?_;refine Xz ?_;rw[show(c.state.toList==c.state.toList)=true by simp];refine Eg ?_;refine Eg ?_;refine Xz ?_;refine qV rfl rfl rfl rfl (HF) rfl rfl ?_;refine Eg ?_;refine Eg ?_;refine Xz ?_;refine qV rfl rfl rfl rfl (HH) rfl rfl ?_;refine Ky ?_;refine uC (fun hp=>?_) (fun hp=>?_)
   · cases hp
   refine Kw ?_;refine⟨_,_,?_,qj [0,1,12,13] [] rfl rfl,k+1,hlt,rfl,by rw[qq hlt DP];rfl⟩;omega
 refine ME ?_;refine uC (fun hc=>?_) (fun hc=>?_)
 · cases hc
 exact LJ
theorem alike_h (s:Sto) (hs:s.Gd):Holds prog 20 [.agg s.pv,.agg s.pv] (.p (pB true)) []:=by
 have g:=hs.g0;have H1:=sameCas_h s.cases (by have:=g.cases;omega) (fun c hc=>⟨by have:=(g.each c hc).nf;omega,by have:=hs.logs c hc;omega⟩);have H2:=sameRev_h s.revs EY;have H3:=sameNtc_h s.ntcs (by have:=hs.ntcs;omega);have H4:=sameRol_h s.roles (by have:=g.roles;omega);obtain⟨n,hf⟩:=g.pol;have H5:=samePol_all n s.pol hf g.sz;rw[qY]at H5;refine qo (ts:=[4]) func20 DG rfl rfl rfl ?_;refine LM ?_;rw[show(s.tick==s.tick)=true by simp];refine Xz ?_;refine qV rfl rfl rfl rfl (H1) rfl rfl ?_;refine Xz ?_;refine qV rfl rfl rfl rfl (H2) rfl rfl ?_;refine Xz ?_;refine qV rfl rfl rfl rfl (H3) rfl rfl ?_;refine Xz ?_;refine qV rfl rfl rfl rfl (H4) rfl rfl ?_;refine Xz ?_;rw[show(s.ver==s.ver)=true by simp];refine Xz ?_;refine qV rfl rfl rfl rfl (H5) rfl rfl ?_;refine Ky ?_;refine uQ ?_;exact Ur
end
end Go.Proofs.YtblgnefkgkchhaaGreatDoor
