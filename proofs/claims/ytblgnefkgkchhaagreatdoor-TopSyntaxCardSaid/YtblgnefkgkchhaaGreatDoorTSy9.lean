/- Part 9. -/
import Derived.Test.YtblgnefkgkchhaaGreatDoorRows
import Derived.Lib.LaidTab
import Derived.Lib.LaidU8
import Derived.LaidLaws
import Derived.LaidHandle
import Derived.Stop.Joined
import Derived.ChangeSame
import Derived.ChangeVars
import Derived.JoinedOf
import Derived.RowKitTokens
import Derived.Test.YtblgnefkgkchhaaGreatDoorTSy8
set_option maxHeartbeats 4000000
set_option linter.unusedSimpArgs false
set_option linter.unusedVariables false
namespace Go.Proofs.YtblgnefkgkchhaaGreatDoor
open _root_.Go.Proofs.Tryz
section
open Go.RowKit
theorem newS_gd:newS.Gd:=⟨⟨⟨Int.le_refl 0,show(0:Int)<=1099511627776 by decide⟩,List.Pairwise.nil,Nat.zero_le _,fun c hc=>(nomatch hc),Nat.zero_le _,fun r hr=>(nomatch hr),parse_pol,by have:=parse_size leastB;show(qT leastB).1.sz<=_;omega⟩,Nat.zero_le _,Nat.zero_le _,fun c hc=>(nomatch hc)⟩
theorem newE_in {n:Int} (hn:0<=n/\n<=4000000):(newE n).In 0:=⟨newS_gd,Nat.le_refl _,Nat.le_refl _,by show(0:Nat)<_;omega,hn.1,hn⟩
theorem ax0_in:ax0.In 0:=newE_in E5
theorem ax1_in:ax1.In 1:=in_line ax0_in E5
theorem ax2_in:ax2.In 2:=in_line ax1_in E5
theorem ax3_in:ax3.In 3:=in_line ax2_in E5
theorem ax4_in:ax4.In 4:=in_line ax3_in E5
def wDD:Da:=⟨#[100,101,110,105,101,100,32,68,101,110,121]⟩
def wO7:Da:=⟨#[111,107,32,55]⟩
theorem al1:HoldsW prog 16 [.ptr 1000000 0,.p (pL aw1)] (engO ax0 1000003 1000004) (.p (pS wOk)) (engO ax1 0 1):=by
 have h:=line_h ax0 (ax0_in.ok E5) aw1 E5;rw[aw_1]at h;exact h
theorem al2:HoldsW prog 16 [.ptr 1000000 0,.p (pL aw2)] (engO ax1 1000003 1000004) (.p (pS wOk)) (engO ax2 0 1):=by
 have h:=line_h ax1 (ax1_in.ok E5) aw2 E5;rw[aw_2]at h;exact h
theorem al3:HoldsW prog 16 [.ptr 1000000 0,.p (pL aw3)] (engO ax2 1000003 1000004) (.p (pS wOk)) (engO ax3 0 1):=by
 have h:=line_h ax2 (ax2_in.ok E5) aw3 E5;rw[aw_3]at h;exact h
theorem al4:HoldsW prog 16 [.ptr 1000000 0,.p (pL aw4)] (engO ax3 1000003 1000004) (.p (pS wDD)) (engO ax4 0 1):=by
 have h:=line_h ax3 (ax3_in.ok E5) aw4 E5;rw[aw_4]at h;exact h
theorem al5:HoldsW prog 16 [.ptr 1000000 0,.p (pL aw5)] (engO ax4 1000003 1000004) (.p (pS wO7)) (engO (wR ax4 aw5).1 0 1):=by
 have h:=line_h ax4 (ax4_in.ok E5) aw5 E5;rw[aw_5]at h;exact h
theorem awake_h:Holds prog 23 [] (.p (pB true)) []:=by
 have L1:=al1;have L2:=al2;have L3:=al3;have L4:=al4;have L5:=al5;have F0:HoldsW prog 13 [.p (pI 4000)] [] (.tup [.ptr 0 0,.ptr 2 0]) (engG ax0 0 1 2 3 4):=fresh_h 4000 E5;generalize ax0=x0 at*;generalize ax1=x1 at*;generalize ax2=x2 at*;generalize ax3=x3 at*;generalize ax4=x4 at*;generalize (wR x4 aw5).1=x5 at*;refine Vf ?_;show HoldsW _ _ [] [] _ _;refine qE (ts:=[0]) func23 EY rfl rfl rfl ?_;refine MQ ?_;refine uW [] F0 ?_;refine MT ?_;refine Rw ?_;refine MO ?_;refine uC (fun hc=>?_) (fun hc=>?_)
 · cases hc
 refine qh ?_;refine uZ [1] [(9000,9000),(9001,9001),(9002,9002),(9003,9003),(9004,9004)] ?_;change SW _ _ _ ⟨40,[(1,.ptr 9000 0)],engG x0 9000 9001 9002 9003 9004⟩;refine uR ?_;refine uW [(9000,1000000),(9001,1000001),(9002,1000002),(9003,1000003),(9004,1000004)] L1 ?_;refine uS ?_;refine uW [(9000,1000000),(9001,1000001),(9002,1000002),(15000,1000003),(15001,1000004)] L2 ?_;refine MO ?_;refine uZ [1,3,4] [(9000,9000),(9001,9001),(9002,9002),(17000,9003),(17001,9004)] ?_;change SW _ _ _ ⟨40,[(1,.ptr 9000 0),(3,.p (pS wOk)),(4,.p (pS wOk))],engG x2 9000 9001 9002 9003 9004⟩;refine uR ?_;refine uW [(9000,1000000),(9001,1000001),(9002,1000002),(9003,1000003),(9004,1000004)] L3 ?_;refine uS ?_;refine uW [(9000,1000000),(9001,1000001),(9002,1000002),(19000,1000003),(19001,1000004)] L4 ?_;refine MO ?_;refine uZ [1,3,4,5,6] [(9000,9000),(9001,9001),(9002,9002),(21000,9003),(21001,9004)] ?_;change SW _ _ _ ⟨40,[(1,.ptr 9000 0),(3,.p (pS wOk)),(4,.p (pS wOk)),(5,.p (pS wOk)),(6,.p (pS wDD))],engG x4 9000 9001 9002 9003 9004⟩;have hOk:(wOk.toList==(⟨#[111,107]⟩:Da).toList)=true:=by rw[beqB];exact YF rfl
 have hDD:(wDD.toList==(⟨#[100,101,110,105,101,100,32,68,101,110,121]⟩:Da).toList)=true:=by rw[beqB];exact YF rfl
 have hO7:(wO7.toList==(⟨#[111,107,32,55]⟩:Da).toList)=true:=by rw[beqB];exact YF rfl
 refine uR ?_;rw[hOk];refine uS ?_;rw[hOk];refine uS ?_;rw[hOk];refine uS ?_;rw[hDD];refine uS ?_;refine uW [(9000,1000000),(9001,1000001),(9002,1000002),(9003,1000003),(9004,1000004)] L5 ?_;refine uS ?_;rw[hO7];exact KR
theorem lineS_h (x:Eng) (hx:x.Ok) (q:Da) (hq:q.size<=4096):HoldsW prog 16 [.ptr 1000000 0,.p (pS q)] (engO x 1000003 1000004) (.p (pS (wR x q.data.toList).2)) (engO (wR x q.data.toList).1 0 1):=by
 obtain⟨⟨l⟩⟩:=q;exact line_h x hx l hq
theorem cut6_size (s:Da):(cut6 s).size<=600:=by
 unfold cut6;rw[ByteArray.size_extract];omega
theorem linesB_mem {l:List Da} {n:Nat} {q:Da} (h:q∈wh l n):q.size<=4096:=by
 unfold wh at h;obtain⟨s,_,rfl⟩:=YZ.1 h;have:=cut6_size s;omega
theorem linesB_len (l:List Da) (n:Nat):(wh l n).length<=n:=by
 unfold wh;rw[Yb,Yd];omega
def rsC (s:Sto) (o:Opn):Rs:=(jl s.pol (askC s o)).1
structure GdOk (s:Sto) (o:Opn):Prop where
 rdy:rdyC s o=0
 pars:o.kind=7->(qT o.text.data.toList).2.1=0
 ev:(jl s.pol (askC s o)).2=0
 over:overC (actR s o (rsC s o)).1=false
theorem GdOk.form {s:Sto} {o:Opn} (h:GdOk s o):jR o=true:=rdy_form h.rdy
theorem gd_cases (s:Sto) (o:Opn):(∃e a:Int,e≠0/\gdC s o=(s,badR e a,noDcd,e))\/(GdOk s o/\gdC s o=((actR s o (rsC s o)).1,(actR s o (rsC s o)).2.1,(actR s o (rsC s o)).2.2,0)):=by
 by_cases h1:(preC s o).1≠0
 · exact .inl ⟨_,_,h1,by unfold gdC;rw[Yh h1]⟩
 by_cases h2:(jl s.pol (askC s o)).2≠0
 · exact .inl ⟨_,_,h2,by unfold gdC;rw[Yc h1,Yh h2]⟩
 by_cases h3:overC (actR s o (jl s.pol (askC s o)).1).1=true
 · exact .inl ⟨6,0,by decide,by unfold gdC;rw[Yc h1,Yc h2,Yh h3]⟩
 refine .inr ⟨?_,by unfold gdC rsC;rw[Yc h1,Yc h2,Yc h3]⟩;have hp:(preC s o).1=0:=Classical.not_not.1 h1;unfold preC at hp;by_cases hr:rdyC s o≠0
 · rw[Yh hr]at hp;exact absurd hp hr
 · rw[Yc hr]at hp;refine⟨Classical.not_not.1 hr,fun hk=>?_,Classical.not_not.1 h2,by unfold rsC;simpa using h3⟩;rw[Yh hk]at hp;exact hp
def goneE (x:Eng) (o:Opn):Eng:={x with sto:=(actR x.sto o (rsC x.sto o)).1,log:=x.log++[(actR x.sto o (rsC x.sto o)).2.2],recs:=x.recs++[recW x.chain o],chain:=chainW x.chain (recW x.chain o),disk:=x.disk++jA (recW x.chain o)}
theorem do_cases (x:Eng) (o:Opn):(∃e a:Int,e≠0/\doE x o=(x,badR e a))\/(GdOk x.sto o/\doE x o=(goneE x o,(actR x.sto o (rsC x.sto o)).2.1)):=by
 rcases gd_cases x.sto o with⟨e,a,he,hg⟩|⟨hk,hg⟩
 · refine .inl ⟨e,a,he,?_⟩;unfold doE;dsimp only;rw[hg,Yh he]
 · unfold doE;dsimp only;rw[hg,Yc E7];split
   · exact .inl ⟨8,0,by decide,rfl⟩
   · exact .inr ⟨hk,rfl⟩
theorem line_cases (x:Eng) (q:Bs):(lineW q=none/\wR x q=(x,wWhat))\/∃o,lineW q=some o/\((∃e a:Int,e≠0/\wR x q=(x,ansW (badR e a)))\/(GdOk x.sto o/\wR x q=(goneE x o,ansW (actR x.sto o (rsC x.sto o)).2.1))):=by
 unfold wR;cases h:lineW q with
 |none=>exact .inl ⟨rfl,rfl⟩
 |some o=>
  refine .inr ⟨o,rfl,?_⟩;rcases do_cases x o with⟨e,a,he,hd⟩|⟨hk,hd⟩
  · exact .inl ⟨e,a,he,by simp only[hd]⟩
  · exact .inr ⟨hk,by simp only[hd]⟩
theorem brk_mark {s:Sto} {o:Opn} {m:Mk} (h:brkC s o m=true):o.glass=true/\(m=(0,2)\/m=(0,0))/\hasC s.roles o.subj wGlass=true:=by
 unfold brkC at h;simp only[Yp,Xm,Yg]at h;exact⟨h.1,h.2.1,h.2.2.1⟩
def kindN (k:Int) (l:List Obli):Nat:=(l.filter fun x=>decide (x.kind=k)).length
def faceC (c:Cas):Da×Da×Da×List Fld:=(c.id,c.owner,c.state,c.fields)
def IdsOk (l:List Rev):Prop:=∀i (h:i<l.length),(l[i]).id=((i+1:Nat):Int)
structure DutF (s t:Sto) (l:List Obli) (d:Bool):Prop where
 tick:t.tick=s.tick
 roles:t.roles=s.roles
 pol:t.pol=s.pol
 ver:t.ver=s.ver
 revs:∃R,t.revs=s.revs++R/\R.length=kindN 3 l
 ids:IdsOk s.revs->IdsOk t.revs
 ntcs:∃R,t.ntcs=s.ntcs++R/\R.length=kindN 4 l
 quiet:d=false->t.cases=s.cases
 face:t.cases.map faceC=s.cases.map faceC
theorem DutF.nil (s:Sto) (d:Bool):DutF s s [] d:=⟨rfl,rfl,rfl,rfl,⟨[],by simp,rfl⟩,id,⟨[],by simp,rfl⟩,fun _=>rfl,rfl⟩
theorem kindN_cat (k:Int) (l m:List Obli):kindN k (l++m)=kindN k l+kindN k m:=by
 unfold kindN;rw[List.filter_append,Ya]
theorem DutF.trans {s t u:Sto} {l m:List Obli} {d:Bool} (h1:DutF s t l d) (h2:DutF t u m d):DutF s u (l++m) d:=by
 obtain⟨R1,r1,n1⟩:=h1.revs;obtain⟨R2,r2,n2⟩:=h2.revs;obtain⟨S1,s1,m1⟩:=h1.ntcs;obtain⟨S2,s2,m2⟩:=h2.ntcs;exact⟨h2.tick.trans h1.tick,h2.roles.trans h1.roles,h2.pol.trans h1.pol,h2.ver.trans h1.ver,⟨R1++R2,by rw[r2,r1,YU],by rw[Ya,kindN_cat,n1,n2]⟩,fun h=>h2.ids (h1.ids h),⟨S1++S2,by rw[s2,s1,YU],by rw[Ya,kindN_cat,m1,m2]⟩,fun hd=>(h2.quiet hd).trans (h1.quiet hd),h2.face.trans h1.face⟩
theorem ids_snoc {l:List Rev} (h:IdsOk l) {r:Rev} (hr:r.id=((l.length+1:Nat):Int)):IdsOk (l++[r]):=fun i hi=>by
 by_cases h1:i<l.length
 · rw[List.getElem_append_left h1];exact h i h1
 · have h2:i=l.length:=by
    rw[Ya,YC]at hi;omega
   subst h2;rw[List.getElem_append_right (Yi _)];simpa using hr
theorem map_set_same {α β:Type} (f:α->β) {l:List α} {i:Nat} {a b:α} (h:l[i]?=some a) (hf:f b=f a):(l.set i b).map f=l.map f:=by
 rw[List.map_set,hf];apply List.ext_getElem?;intro j;rw[List.getElem?_set];split
 · rename_i hj;subst hj;rw[YK,h];split
   · rfl
   · rename_i hlt;obtain⟨h1,_⟩:=Yr.1 h;rw[Yb]at hlt;exact absurd h1 hlt
 · rfl
theorem dutF_log (s:Sto) (o:Opn) (w:Da) (x:Obli) (h3:x.kind≠3) (h4:x.kind≠4):DutF s (logR s o w) [x] true:=by
 have k3:kindN 3 [x]=0:=by simp[kindN,h3]
 have k4:kindN 4 [x]=0:=by simp[kindN,h4]
 unfold logR;split
 · exact R8
 · split
   · rename_i c hc;exact⟨rfl,rfl,rfl,rfl,⟨[],by simp,k3.symm⟩,id,⟨[],by simp,k4.symm⟩,fun h=>(nomatch h),map_set_same faceC hc rfl⟩
   · exact R8
theorem dutF_one (s:Sto) (o:Opn) (x:Obli) (d:Bool):DutF s (dutyR o d s x) [x] d:=by
 unfold dutyR;split
 · rename_i h;obtain⟨h1,rfl⟩:=h;exact dutF_log s o x.arg x E6 E6
 · split
   · rename_i h3;refine⟨rfl,rfl,rfl,rfl,⟨[_],rfl,by simp[kindN,h3]⟩,fun h=>ids_snoc h ?_,⟨[],by simp[opnR],by simp[kindN,h3]⟩,fun _=>rfl,rfl⟩;show(s.revs.length:Int)+1=_;omega
   · rename_i h3;split
     · rename_i h4;exact⟨rfl,rfl,rfl,rfl,⟨[],by simp,by simp[kindN,h4]⟩,id,⟨[_],rfl,by simp[kindN,h4]⟩,fun _=>rfl,rfl⟩
     · rename_i h4;exact⟨rfl,rfl,rfl,rfl,⟨[],by simp,by simp[kindN,h3]⟩,id,⟨[],by simp,by simp[kindN,h4]⟩,fun _=>rfl,rfl⟩
theorem dutF (o:Opn) (d:Bool):∀(l:List Obli) (s:Sto),DutF s (dutR s o l d) l d
 |[],s=>DutF.nil s d
 |x::l,s=>(dutF_one s o x d).trans (dutF o d l (dutyR o d s x))
theorem done_revs {s:Sto} {o:Opn} (h:o.kind≠5):(zi s o).revs=s.revs:=by
 have on:∀id f,(onCase s id f).revs=s.revs:=fun id f=>by unfold onCase;split<;>rfl
 unfold zi;rw[Yc h]
 repeat' split
 all_goals first|rfl|exact on _ _
theorem done_revs5 {s:Sto} {o:Opn} (h:o.kind=5) {r:Rev} (hr:s.revs[(o.rev-1).toNat]?=some r):zi s o={s with revs:=s.revs.set (o.rev-1).toNat {r with open_:=false}}:=by
 unfold zi;rw[Yc E6,Yc E6,Yc E6,Yh h,hr]
theorem ids_set {l:List Rev} (h:IdsOk l) {i:Nat} {r:Rev} (hr:l[i]?=some r) (b:Bool):IdsOk (l.set i {r with open_:=b}):=fun j hj=>by
 rw[Xh]at hj;rw[List.getElem_set];split
 · rename_i he;subst he;obtain⟨h1,h2⟩:=Yr.1 hr;have:=h i h1;rw[h2]at this;exact this
 · exact h j hj
theorem done_ids {s:Sto} (h:IdsOk s.revs) (o:Opn):IdsOk (zi s o).revs:=by
 by_cases h5:o.kind=5
 · cases hr:s.revs[(o.rev-1).toNat]? with
   |none=>
    unfold zi;rw[Yc E6,Yc E6,Yc E6,Yh h5,hr];exact h
   |some r=>rw[done_revs5 h5 hr];exact ids_set h hr false
 · rw[done_revs h5];exact h
def glsS (s:Sto) (o:Opn) (m:Mk):Sto:=if brkC s o m then opnR s o o.reason else s
def dneB (s:Sto) (o:Opn) (m:Mk):Bool:=decide (m=(2,0))||brkC s o m
def midS (s:Sto) (o:Opn) (m:Mk):Sto:=if dneB s o m then zi (glsS s o m) o else glsS s o m
theorem act_sto (s:Sto) (o:Opn) (r:Rs):(actR s o r).1=dutR (midS s o r.m) o r.obls (dneB s o r.m):=rfl
theorem act_dut (s:Sto) (o:Opn) (r:Rs):DutF (midS s o r.m) (actR s o r).1 r.obls (dneB s o r.m):=by
 rw[act_sto];exact dutF o _ r.obls _
theorem gls_ids {s:Sto} (h:IdsOk s.revs) (o:Opn) (m:Mk):IdsOk (glsS s o m).revs:=by
 unfold glsS;split
 · refine ids_snoc h ?_;show(s.revs.length:Int)+1=_;omega
 · exact h
theorem mid_ids {s:Sto} (h:IdsOk s.revs) (o:Opn) (m:Mk):IdsOk (midS s o m).revs:=by
 unfold midS;split
 · exact done_ids (gls_ids h o m) o
 · exact gls_ids h o m
theorem act_ids {s:Sto} (h:IdsOk s.revs) (o:Opn) (r:Rs):IdsOk (actR s o r).1.revs:=(act_dut s o r).ids (mid_ids h o r.m)
theorem parse_right {b:Bs} (h:(qT b).2.1=0):zT (qT b).1=0:=by
 unfold qT at h⊢;split at h
 · exact absurd h E5
 · rename_i hb;rw[Yc hb];cases hl:lexL b with
   |error e=>rw[hl]at h;exact absurd h (show(5:Int)≠0 by decide)
   |ok l=>
    rw[hl]at h;dsimp only at h⊢;generalize polQ l 5 ⟨0,0,0,0⟩=r at*;generalize (if(ze l r.2).kind=7 then r.2 else synQ l r.2)=s1 at*;by_cases h1:s1.bad=0/\zT r.1≠0
    · rw[Yh h1]at h;have:(jm s1 5 (b.length:Int)).bad≠0:=by
       unfold jm;rw[Yh h1.1];exact show(5:Int)≠0 by decide
      rw[Yh this]at h;exact absurd h this
    · rw[Yc h1]at h⊢;by_cases h2:s1.bad≠0
      · rw[Yh h2]at h;exact absurd h h2
      · rw[Yc h2];exact Classical.not_not.1 fun hn=>h1 ⟨Classical.not_not.1 h2,hn⟩
theorem done_pol (s:Sto) (o:Opn):(zi s o).pol=s.pol\/((qT o.text.data.toList).2.1=0/\(zi s o).pol=(qT o.text.data.toList).1):=by
 have on:∀id f,(onCase s id f).pol=s.pol:=fun id f=>by unfold onCase;split<;>rfl
 unfold zi
 repeat' split
 all_goals first|exact .inl rfl|exact .inl (on _ _)|exact .inr ⟨by assumption,rfl⟩
theorem done_right {s:Sto} (h:zT s.pol=0) (o:Opn):zT (zi s o).pol=0:=by
 rcases done_pol s o with h1|⟨h1,h2⟩
 · rw[h1];exact h
 · rw[h2];exact parse_right h1
theorem gls_pol (s:Sto) (o:Opn) (m:Mk):(glsS s o m).pol=s.pol:=by unfold glsS;split<;>rfl
theorem act_right {s:Sto} (h:zT s.pol=0) (o:Opn) (r:Rs):zT (actR s o r).1.pol=0:=by
 rw[(act_dut s o r).pol];unfold midS;split
 · exact done_right (by rw[gls_pol];exact h) o
 · rw[gls_pol];exact h
structure Eng.Iv (x:Eng) (k:Nat):Prop where
 in_:x.In k
 right:zT x.sto.pol=0
 ids:IdsOk x.sto.revs
 logs:∀d∈x.log,d.obls.length<=1000000
 quo:x.quota=200000
 room:x.disk.length<=8200*k
theorem least_ok:(qT leastB).2.1=0:=by kernel_rfl
theorem Eng.Iv.ev {x:Eng} {k:Nat} (h:x.Iv k) (g:List Giv):(jl x.sto.pol g).2=0:=by
 unfold jl;rw[Yh h.right]
theorem Eng.Iv.more {x:Eng} {k m:Nat} (h:x.Iv k) (hm:k<=m):x.Iv m:=⟨h.in_.more hm,h.right,h.ids,h.logs,h.quo,by have:=h.room;omega⟩
theorem rs_len (s:Sto) (o:Opn):(rsC s o).obls.length<=s.pol.sz:=by
 unfold rsC jl;split
 · exact qaU _ 4 _
 · exact Yl _
theorem frame_len {s:Sto} {o:Opn} (h:GdOk s o) (c:Nat):(jA (recW c o)).length<=8200:=by
 have h1:=form_rec h.form c;generalize recW c o=p at*;unfold jA;simp only[Ya];have h2:=qbk 4 p.length;have h3:=qbk 4 (sumW p);omega
theorem Eng.Iv.gone {x:Eng} {k:Nat} (h:x.Iv k) {o:Opn} (hk:GdOk x.sto o) (hin:(goneE x o).In (k+1)):(goneE x o).Iv (k+1):=by
 refine⟨hin,act_right h.right o _,act_ids h.ids o _,fun d hd=>?_,h.quo,?_⟩
 · rcases YL.1 hd with hd|hd
   · exact h.logs d hd
   · rw[Yy]at hd;subst hd;show(rsC x.sto o).obls.length<=_;have:=rs_len x.sto o;have:=h.in_.sto.g0.sz;omega
 · show(x.disk++jA _).length<=_;rw[Ya];have:=frame_len hk x.chain;have:=h.room;omega
theorem Eng.Iv.line {x:Eng} {k:Nat} (h:x.Iv k) {q:Bs} (hq:q.length<=4096):(wR x q).1.Iv (k+1):=by
 have hin:=in_line h.in_ hq;rcases line_cases x q with⟨_,hl⟩|⟨o,ho,⟨e,a,he,hl⟩|⟨hk,hl⟩⟩
 · rw[hl];exact h.more E6
 · rw[hl];exact h.more E6
 · rw[hl]at hin⊢;exact h.gone hk hin
theorem new_iv:(newE 200000).Iv 0:=⟨newE_in E5,parse_right least_ok,fun i hi=>(nomatch hi),fun d hd=>(nomatch hd),rfl,Nat.le_refl _⟩
theorem gls_no {s:Sto} {o:Opn} {m:Mk} (h:brkC s o m=false):glsS s o m=s:=by unfold glsS;rw[if_neg (by rw[h];decide)]
def wAnn:Da:=⟨#[97,110,110]⟩
def synO (text:Da):Opn:=⟨7,wAnn,e0,e0,e0,⟨0,0,e0⟩,0,text,e0,false⟩
theorem syn_form {text:Da} (h:text.size<=800):jR (synO text)=true:=by
 unfold jR;have h1:wC (synO text).subj=true:=by show wC wAnn=true;decide
 have h2:reaC (synO text)=true:=by show emB e0=true;decide
 have h3:decide ((synO text).text.size<=4096)=true:=YF (by show text.size<=4096;omega);have h4:emptC (synO text).case_=true:=by show emptC e0=true;decide
 have h5:emptC (synO text).field=true:=by show emptC e0=true;decide
 have h6:emptC (synO text).to_=true:=by show emptC e0=true;decide
 have h7:emV (synO text).val=true:=by show emV ⟨0,0,e0⟩=true;decide
 have h8:takC (synO text)=true:=by
  unfold takC;rw[Yc (show¬(synO text).kind=1 from(by decide:¬(7:Int)=1)),Yc (show¬((synO text).kind=2\/(synO text).kind=6)from(by decide:¬((7:Int)=2\/(7:Int)=6))),Yc (show¬(synO text).kind=3 from(by decide:¬(7:Int)=3)),Yc (show¬(synO text).kind=4 from(by decide:¬(7:Int)=4)),Yc (show¬(synO text).kind=5 from(by decide:¬(7:Int)=5)),Yh (show(synO text).kind=7 from rfl)];show(emB e0&&(emB e0&&(emB e0&&(emV ⟨0,0,e0⟩&&decide ((0:Int)=0)))))=true;decide
 rw[h1,h2,h3,h4,h5,h6,h7,h8];rfl
theorem syn_law {x:Eng} {k:Nat} (hx:x.Iv k) (hk:k<=20) {text:Da} (h:text.size<=800):
 ((qT text.data.toList).2.1≠0/\doE x (synO text)=(x,badR (qT text.data.toList).2.1 (qT text.data.toList).2.2))\/
 ((qT text.data.toList).2.1=0/\(((doE x (synO text)).2.err=0/\(doE x (synO text)).1.sto.pol=(qT text.data.toList).1/\(doE x (synO text)).1.sto.ver=Go.IntKind.i64.wrap (x.sto.ver+1))\/
   (((doE x (synO text)).2.err=12\/(doE x (synO text)).2.err=6)/\(doE x (synO text)).1.sto.ver=x.sto.ver))):=by
 have hf:=syn_form h;have hr:rdyC x.sto (synO text)=0:=by
  unfold rdyC;rw[Yc (by rw[hf];decide)];rfl
 have hp:preC x.sto (synO text)=((qT text.data.toList).2.1,(qT text.data.toList).2.2):=by
  unfold preC;rw[Yc (by rw[hr];decide),Yh (show(synO text).kind=7 from rfl)];rfl
 by_cases he:(qT text.data.toList).2.1=0
 · refine .inr ⟨he,?_⟩;have hev:=hx.ev (askC x.sto (synO text));by_cases ho:overC (actR x.sto (synO text) (jl x.sto.pol (askC x.sto (synO text))).1).1=true
   · have hg:gdC x.sto (synO text)=(x.sto,badR 6 0,noDcd,6):=by
      unfold gdC;rw[hp,Yc (by simp[he]),Yc (by simp[hev]),Yh ho]
     have hd:doE x (synO text)=(x,badR 6 0):=by
      unfold doE;dsimp only;rw[hg,Yh (show(6:Int)≠0 by decide)]
     rw[hd];exact .inr ⟨.inr rfl,rfl⟩
   · have hg:gdC x.sto (synO text)=((actR x.sto (synO text) (rsC x.sto (synO text))).1,(actR x.sto (synO text) (rsC x.sto (synO text))).2.1,(actR x.sto (synO text) (rsC x.sto (synO text))).2.2,0):=by
      unfold gdC;rw[hp,Yc (by simp[he]),Yc (by simp[hev]),Yc ho];rfl
     have hok:GdOk x.sto (synO text):=⟨hr,fun _=>he,hev,by unfold rsC;simpa using ho⟩;have hd:doE x (synO text)=(goneE x (synO text),(actR x.sto (synO text) (rsC x.sto (synO text))).2.1):=by
      unfold doE;dsimp only;rw[hg,Yc E7,Yc]
      · rfl
      · have h1:=frame_len hok x.chain;have h2:=hx.quo;have h3:=hx.room;omega
     rw[hd];dsimp only;have hD:=act_dut x.sto (synO text) (rsC x.sto (synO text));have hb:brkC x.sto (synO text) (rsC x.sto (synO text)).m=false:=by
      cases hb:brkC x.sto (synO text) (rsC x.sto (synO text)).m with
      |false=>rfl
      |true=>exact absurd (brk_mark hb).1 (show¬(false=true)by decide)
     cases hdn:dneB x.sto (synO text) (rsC x.sto (synO text)).m with
     |false=>
      have hm:midS x.sto (synO text) (rsC x.sto (synO text)).m=x.sto:=by
       unfold midS;rw[hdn,Yc E5,gls_no hb]
      rw[hm]at hD;refine .inr ⟨.inl ?_,hD.ver⟩;show(if dneB x.sto (synO text) (rsC x.sto (synO text)).m then(0:Int)else 12)=12;rw[hdn];rfl
     |true=>
      have hm:midS x.sto (synO text) (rsC x.sto (synO text)).m=zi x.sto (synO text):=by
       unfold midS;rw[hdn,Yh rfl,gls_no hb]
      rw[hm]at hD;have hdo:zi x.sto (synO text)={x.sto with pol:=(qT text.data.toList).1,ver:=Go.IntKind.i64.wrap (x.sto.ver+1)}:=by
       unfold zi;rw[Yc (show¬(synO text).kind=1 from(by decide:¬(7:Int)=1)),Yc (show¬(synO text).kind=3 from(by decide:¬(7:Int)=3)),Yc (show¬(synO text).kind=4 from(by decide:¬(7:Int)=4)),Yc (show¬(synO text).kind=5 from(by decide:¬(7:Int)=5)),Yc (show¬(synO text).kind=6 from(by decide:¬(7:Int)=6)),Yh (show(synO text).kind=7 from rfl),Yh (show(qT (synO text).text.data.toList).2.1=0 from he)];rfl
      rw[hdo]at hD;refine .inl ⟨?_,hD.pol,hD.ver⟩;show(if dneB x.sto (synO text) (rsC x.sto (synO text)).m then(0:Int)else 12)=0;rw[hdn];rfl
 · refine .inl ⟨he,?_⟩;have hg:gdC x.sto (synO text)=(x.sto,badR (qT text.data.toList).2.1 (qT text.data.toList).2.2,noDcd,(qT text.data.toList).2.1):=by
    unfold gdC;rw[hp,Yh he]
   unfold doE;dsimp only;rw[hg,Yh he]
section
variable {P:Program} {T:TT} (hT:zm P T) {st:St}
include hT
end
theorem eqFields_same {P:Program} {d:Nat} {w:World} (X:Array Value):∀(fs:List Field),(∀f∈fs,∃v,(part f.type X f.offset).run P w=.ok v w/\(Op.equalIn d f.type v v).run P w=.ok true w)->(Op.eqFields d X X fs).run P w=.ok true w
 |[],_=>rfl
 |f::fs,h=>by
  obtain⟨v,h1,h2⟩:=h f (List.mem_cons_self ..);have ih:=eqFields_same X fs fun g hg=>h g (YY _ hg)
  simp only[Op.eqFields];by_cases hn:f.name≠ "_"
  · rw[Yh hn,YD,h1];simp only[Ys];rw[YD,h1];simp only[Ys];rw[YD,h2];simpa using ih
  · rw[Yc hn];exact ih
theorem run_equalIn_cpx {P:Program} (w:World) (d:Nat) (t:TypeId) (h:P.underlying t=some (.complex .f64)):(Op.equalIn (d+1) t (.complex .f64 0 0) (.complex .f64 0 0)).run P w=.ok true w:=by
 have:Op.floatEq .f64 0 0=true:=by decide +kernel
 simp[Op.equalIn,run_underlying h,this]
def rplL (e a:Int):List PV:=[pI e,.v (.complex .f64 0 0),pB false,pI 0,pI 0,pS ⟨#[]⟩,pB false,pI a]
def tR:TypeId:=74
theorem eqR (e a:Int) (w:World):(Op.equalIn 10000 tR (.agg ((rplL e a).map unv).toArray) (.agg ((rplL e a).map unv).toArray)).run prog w=.ok true w:=by
 obtain⟨fields,hu,hf⟩:=(show TyOk prog tR _ from ty74).und;have hfo:prog.fieldsOf tR=fields:=by unfold Program.fieldsOf;rw[hu]
 rw[run_equalIn_struct w 9999 tR _ _ (by rw[hfo];exact hu) EY,hfo];refine eqFields_same _ _ fun f hfm=>?_
 have hm:(f.offset,f.type)∈fields.toList.map (fun f=>(f.offset,f.type)):=List.mem_map_of_mem hfm;rw[hf]at hm;simp only[Y2,Xt,or_false,Yt]at hm;have pf:∀{ft off:Nat} {i:TyI} {v:Value},TyOk prog ft i->i.d.agg=false->(((rplL e a).map unv).drop off)[0]?=some v->(part ft ((rplL e a).map unv).toArray off).run prog w=.ok v w:=fun hi hg hv=>qaN hi (fun h=>by rw[hg]at h;cases h) (fun _=>hv) w
 rcases hm with⟨h1,h2⟩|⟨h1,h2⟩|⟨h1,h2⟩|⟨h1,h2⟩|⟨h1,h2⟩|⟨h1,h2⟩<;>rw[h1,h2]
 · exact⟨_,pf ty58 rfl rfl,(run_equalIn_int w 9998 _ .i64 .i64 e e EY).trans E7⟩
 · exact⟨_,pf ty55 rfl rfl,run_equalIn_cpx w 9998 _ EY⟩
 · exact Mi
 · exact⟨_,qaN (v:=.agg #[.int .i64 0,.int .i64 0,.string ⟨#[]⟩]) ty44 (fun _=>⟨rfl,by simp[rplL]⟩) (fun h=>by cases h) w,(eqt44 9997 [pI 0,pI 0,pS ⟨#[]⟩] [pI 0,pI 0,pS ⟨#[]⟩] true w (by simp[eqL,eqC]) rfl)⟩
 · exact Mi
 · exact⟨_,pf ty3 rfl rfl,(run_equalIn_int w 9998 _ .i64 .i64 a a EY).trans E7⟩
theorem act_eqrpl {st:St} {o:Oper} {x y:Operand} {e a:Int} (ho:o.op=.binOp .eql tR x y tR) (hx:evS st x=some (.p (.agg (rplL e a)))) (hy:evS st y=some (.p (.agg (rplL e a)))) (hd:jU st o.dst=true) {Q:St->Prop} (h:Q (st.put o.dst (.p (pB true)))):ActOk prog [] o st Q:=by
 intro w0 Sx γ ac w QQ hI;have fl:∀{u:Operand},evS st u=some (.p (.agg (rplL e a)))->ac.eval u=.agg ((rplL e a).map unv).toArray:=fun hu=>zZ (qK hI hu).p_inv E8
 have hrun:(execOp ac.eval o).run prog w=.ok (.value (.bool true)) w:=by
  simp only[execOp,ho,fl hx,fl hy];refine run_v ?_;rw[YD,run_eqGuard_agg w .eql tR x y _ _ EY];simp only[Ys,run_eql_struct,eqR e a w]
 unfold Oper.wp;rw[hrun,Oper.upon_value];exact GT
def cut8 (s:Da):Da:=s.extract 0 (min s.size 800)
theorem cut8_size (s:Da):(cut8 s).size<=800:=by
 unfold cut8;rw[ByteArray.size_extract];omega
theorem parseT_h (b:Da) (hb:b.size<=100000):Holds prog 26 [pS b] (.tup [.p (.agg (polP (qT b.data.toList).1)),.p (pI (qT b.data.toList).2.1),.p (pI (qT b.data.toList).2.2)]) []:=by
 obtain⟨⟨l⟩⟩:=b;exact parse_h l hb
theorem syn_sz {T:Da} (h:T.size<=800):(synO T).Sz:=by
 have z0:e0.size=0:=rfl;have z1:wAnn.size=3:=rfl;have r:∀n:Int,0<=n/\n<=5000->R64 n:=fun n h=>⟨by omega,by omega⟩
 exact⟨⟨by show wAnn.size<=_;omega,by show e0.size<=_;omega,by show e0.size<=_;omega,by show e0.size<=_;omega,⟨by show e0.size<=_;omega,r 0 E6,r 0 E6⟩,by show T.size<=_;omega,by show e0.size<=_;omega,r 0 E6,r 7 E6⟩,by show wAnn.size<=_;omega,by show e0.size<=_;omega,by show e0.size<=_;omega,by show e0.size<=_;omega,by show e0.size<=_;omega,by show T.size<=_;omega,by show e0.size<=_;omega⟩
theorem topSyntax_h (l:List Da) (hl:l.length<=reachBytes) (text:Da):Holds prog 6 [strsP l,pS text] (.p (pB true)) []:=by
 have HW:=awake_h;have F0:=fresh_h 200000 E5;have E0:(newE 200000).Iv 0:=new_iv;have HL:=lines_h l 10 E6 hl;have hLs:∀q∈wh l 10,q.size<=4096:=fun q hq=>linesB_mem hq
 have hLn:=linesB_len l 10;generalize wh l 10=L at*;generalize newE 200000=X0 at*;have lL:(L.map fun s=>[pS s]).length=L.length:=Yb _;refine Vf ?_;show HoldsW _ _ [.p (strsP l),.p (pS text)] [] _ _;refine qE (ts:=[4]) func6 EY rfl rfl rfl ?_;refine MQ ?_;refine uW [] F0 ?_;refine MO ?_;refine uZ [0,1,5] [(17000,16000),(17001,16001),(17002,16002),(17003,16003),(17004,16004)] ?_;change SW _ _ _ ⟨102,[(0,.p (strsP l)),(1,.p (pS text)),(5,.ptr 16000 0)],engG X0 16000 16001 16002 16003 16004⟩;refine uR ?_;refine Rw ?_;refine MO ?_;refine uC (fun hc=>?_) (fun hc=>?_)
 · cases hc
 refine MV ?_;refine uO HL ?_;refine MO ?_;rw[lL];refine uB ?_;refine uZ [1,5,22,23,24] [(16000,16000),(16001,16001),(16002,16002),(16003,16003),(16004,16004)] ?_;refine qH (fun m s=>∃(k:Nat) (X:Eng),k<=L.length/\m=L.length-k/\X.Iv k/\s=⟨102,[(1,.p (pS text)),(5,.ptr 16000 0),(22,.p (strsP L)),(23,.p (pI (L.length:Int))),(24,.p (pI (k:Int)))],engG X 16000 16001 16002 16003 16004⟩) L.length ⟨0,X0,Yl _,rfl,E0,rfl⟩ ?_;clear E0 F0
 rintro m s ⟨k,X,hk,rfl,hX,rfl⟩;refine uA ?_;by_cases hlt:k<L.length;rotate_left
 · rw[show decide ((k:Int)<(L.length:Int))=false by rw[Yk];omega];refine uC (fun hc=>?_) (fun hc=>?_)
   · cases hc
   refine qD ?_;refine uR ?_;refine uW [(16000,1000000),(16001,1000001),(16002,1000002),(16003,1000003),(16004,1000004)] (store_h X) ?_;refine MT ?_;refine qn qc rfl rfl (by show(0:Int)<=0/\(0<=(if(800:Int)<(text.size:Int)then 800 else(text.size:Int)))/\(if(800:Int)<(text.size:Int)then 800 else(text.size:Int))<=(text.size:Int);split<;>omega) rfl ?_;generalize hE:text.extract (Int.toNat 0) _=E;have hE2:E=cut8 text:=by
    rw[<-hE];show text.extract 0 (Int.toNat (if(800:Int)<(text.size:Int)then 800 else(text.size:Int)))=_;unfold cut8;congr 1;split<;>omega
   rw[hE2];refine MO ?_;have hT8:=cut8_size text;generalize cut8 text=T at*;have HPT:=parseT_h T E6;have SL:=syn_law hX E6 hT8;have HD:=do_h X (hX.in_.ok E6) (synO T) (syn_sz hT8);have hIn:(doE X (synO T)).1.In (k+1):=in_do hX.in_ (syn_sz hT8).ok;have HSt:=store_h (doE X (synO T)).1;have HAl:=alike_h X.sto hX.in_.sto;have HPo:∀p,(qT T.data.toList).1=p->(doE X (synO T)).1.sto.pol=p->Holds prog 28 [.agg (polP (doE X (synO T)).1.sto.pol),.agg (polP p)] (.p (pB true)) []:=fun p h1 h2=>by
    obtain⟨n,hf⟩:=hIn.sto.g0.pol;have:=samePol_all n _ hf hIn.sto.g0.sz;rw[h2]at this⊢;exact this
   generalize doE X (synO T)=D at*;generalize qT T.data.toList=R at*;obtain⟨p,e,at_⟩:=R;simp only at HPT SL HPo;rw[qY]at HPT;refine uZ [1,5,9] [(9,9),(16000,16000),(16001,16001),(16002,16002),(16003,16003),(16004,16004)] ?_;change SW _ _ _ ⟨102,[(1,.p (pS T)),(5,.ptr 16000 0),(9,.ptr 9 0)],(9,.cells (X.sto.pv.map .p))::engG X 16000 16001 16002 16003 16004⟩;refine uR ?_;refine uO HPT ?_;refine MO ?_;refine uZ [1,5,9,10,11,12] [(9,9),(10,10),(16000,16000),(16001,16001),(16002,16002),(16003,16003),(16004,16004)] ?_;change SW _ _ _ ⟨102,[(1,.p (pS T)),(5,.ptr 16000 0),(9,.ptr 9 0),(10,.ptr 10 0),(11,.p (pI e)),(12,.p (pI at_))],(9,.cells (X.sto.pv.map .p))::(10,.cells [.p (pS p.id),.p (pB p.set),.p (pI p.alg),.p (tgtP p.target),.p (.sl 5 (p.rules.map zn)),.p (.sl 7 (p.kids.map polP)),.p (zk p.obls)])::engG X 16000 16001 16002 16003 16004⟩;refine uR ?_;refine uW [(16000,1000000),(16001,1000001),(16002,1000002),(16003,1000003),(16004,1000004)] HD ?_;refine MO ?_;refine uZ [1,5,9,10,11,12,13] [(9,9),(10,10),(13,13),(16000,16000),(16001,16001),(16002,16002),(49000,16003),(49001,16004)] ?_;change SW _ _ _ ⟨102,[(1,.p (pS T)),(5,.ptr 16000 0),(9,.ptr 9 0),(10,.ptr 10 0),(11,.p (pI e)),(12,.p (pI at_)),(13,.ptr 13 0)],(9,.cells (X.sto.pv.map .p))::(10,.cells [.p (pS p.id),.p (pB p.set),.p (pI p.alg),.p (tgtP p.target),.p (.sl 5 (p.rules.map zn)),.p (.sl 7 (p.kids.map polP)),.p (zk p.obls)])::(13,.cells (D.2.pv.map .p))::engG D.1 16000 16001 16002 16003 16004⟩;refine uR ?_;refine uW [(16000,1000000),(16001,1000001),(16002,1000002),(16003,1000003),(16004,1000004)] HSt ?_;refine MO ?_;refine uZ [9,10,11,12,13,14] [(9,9),(10,10),(13,13),(14,14)] ?_;change SW _ _ _ ⟨102,[(9,.ptr 9 0),(10,.ptr 10 0),(11,.p (pI e)),(12,.p (pI at_)),(13,.ptr 13 0),(14,.ptr 14 0)],[(9,.cells (X.sto.pv.map .p)),(10,.cells [.p (pS p.id),.p (pB p.set),.p (pI p.alg),.p (tgtP p.target),.p (.sl 5 (p.rules.map zn)),.p (.sl 7 (p.kids.map polP)),.p (zk p.obls)]),(13,.cells (D.2.pv.map .p)),(14,.cells (D.1.sto.pv.map .p))]⟩;refine uA ?_;rcases SL with⟨he,hD⟩|⟨he,hD⟩
   · rw[show(e !=0)=true by simp[he]];refine uC (fun hc=>?_) (fun hc=>?_);rotate_left
     · cases hc
     rw[hD];refine uR ?_;refine qz rfl (act_eqrpl rfl rfl rfl rfl ?_);refine uS ?_;refine uK HAl ?_;refine uS ?_;refine uK HW ?_;exact KR
   · rw[show(e !=0)=false by simp[he]];refine uC (fun hc=>?_) (fun hc=>?_)
     · cases hc
     refine MV ?_;rcases hD with⟨herr,hpol,hver⟩|⟨herr,hver⟩
     · rw[show(D.2.err==0)=true by simp[herr]];refine qe ?_;refine uC (fun hc2=>?_) (fun hc2=>?_);rotate_left
       · cases hc2
       have HP2:=HPo p rfl hpol;rw[qY,qY]at HP2;refine uR ?_;refine uK HP2 ?_;refine uS ?_;rw[show(D.1.sto.ver==IntKind.i64.wrap (X.sto.ver+1))=true by simp[hver]];refine uS ?_;refine uK HW ?_;exact KR
     · rw[show(D.2.err==0)=false by rcases herr with h|h<;>simp[h]];refine qe ?_;refine uC (fun hc2=>?_) (fun hc2=>?_)
       · cases hc2
       refine MV ?_;rcases herr with herr|herr
       · rw[show(D.2.err==12)=true by simp[herr]];refine uS ?_;rw[show(D.1.sto.ver==X.sto.ver)=true by simp[hver]];refine uS ?_;refine uK HW ?_;exact KR
       · rw[show(D.2.err==12)=false by simp[herr]];refine uS ?_;rw[show(D.2.err==6)=true by simp[herr]];refine uS ?_;rw[show(D.1.sto.ver==X.sto.ver)=true by simp[hver]];refine uS ?_;refine uK HW ?_;exact KR
 rw[show decide ((k:Int)<(L.length:Int))=true by rw[Yg];omega];refine uC (fun hc=>?_) (fun hc=>?_);rotate_left
 · cases hc
 refine qh ?_;refine uB ?_;obtain⟨q,hq⟩:∃q,q=L[k]:=⟨_,rfl⟩;have hqs:q.size<=4096:=by rw[hq];exact hLs _ (Yo hlt)
 have LX:=lineS_h X (hX.in_.ok E6) q hqs;have hX':(wR X q.data.toList).1.Iv (k+1):=hX.line hqs;refine uR ?_;refine qn qc rfl rfl (by rw[lL];omega) rfl ?_;rw[qw hlt,<-hq];refine MO ?_;generalize wR X q.data.toList=D at*;refine uR ?_;refine uW [(16000,1000000),(16001,1000001),(16002,1000002),(16003,1000003),(16004,1000004)] LX ?_;refine MU ?_;refine⟨_,_,?_,qk [1,5,22,23,24] [(16000,16000),(16001,16001),(16002,16002),(31000,16003),(31001,16004)] rfl rfl,k+1,D.1,hlt,rfl,hX',by rw[qt hlt E6];rfl⟩;omega
theorem opens_strs:Opens prog 22 1 (rSl rStr 1):=opens_sl underlying22 EY EH E6 opens_tstr
theorem str_pv {w:World} {cs:List Value} {x:Da} (h:rStr w cs x):rPV (fun _=>True) w cs [pS x]:=by
 obtain⟨rfl,_⟩:=h;refine⟨rfl,fun j s u hs hu=>?_⟩
 match j with
 |0=>cases hs;cases hu;exact .v rfl
 |j+1=>simp at hs
theorem strs_rel {w:World} {A:Option Addr} {c:Nat} {l:List Da} (h:SlAt rStr 1 w A l) (hl:l.length<=c) (hc:l.length<=reachBytes/\c<=maxLen):RelP (fun _=>True) w (strsP l) (.slice A l.length c):=
 rel_sl h hl hc (fun _=>⟨rfl,rfl⟩) fun x _ cs hcs=>str_pv hcs
inductive RelsP (w:World):List PV->List Value->Prop
 |nil:RelsP w [] []
 |cons {x:PV} {u:Value} {xs:List PV} {us:List Value} (h:RelP (fun _=>True) w x u) (r:RelsP w xs us):RelsP w (x::xs) (u::us)
theorem RelsP.get {w:World} {xs:List PV} {us:List Value} (h:RelsP w xs us):us.length=xs.length/\∀(i:Nat) (s:PV) (u:Value),xs[i]?=some s->us[i]?=some u->RelP (fun _=>True) w s u:=by
 induction h with
 |nil=>exact⟨rfl,fun i s u h=>by simp at h⟩
 |cons h r ih=>
  refine⟨by simp[ih.1],fun i s u hs hu=>?_⟩;cases i with
  |zero=>simp at hs hu;subst hs;subst hu;exact h
  |succ i=>exact ih.2 i s u (by simpa using hs) EC
theorem law_callsG {P:Program} {f:FuncId} {args:List PV} {us:List Value} {W:World} (hg:GlOk (entry W) fun _=>False) (H:Holds P f args (.p (.v (.bool true))) []) (hr:RelsP W args us):Calls P f us.toArray W fun e w'=>e=.returned (.bool true)/\Below W.heap.size W w':=by
 obtain⟨h1,h2⟩:=hr.get;refine(H.2 W (fun _=>False) us ⟨fun _ h=>h.elim,hg⟩ h1 fun i s u hs hu=>(h2 i s u hs hu).weak fun _ _ _=>fun h=>h).mono fun e w' ⟨v,γ,he,hb,_,hv⟩=>?_
 have:=hv.v_inv;subst this;exact⟨he,hb⟩
end
section
open Go.ChangeShapes Go.WideShapes Go.ChangeAt Go.RowKit
theorem law_liftL {H:Type} {enc:TypeId×Value->H} {C:Checked} {os:Os} {f:FuncId} {fn:Func} {s:ChangeSpec} {bt:TypeId} {laid:List (String×DataW Unit)}
 (own:ownKnob C.prog.godebug=none) (started:os.Started) (noInit:C.prog.inits.idxOf? f=none) (hfn:C.prog.funcs[f]?=some fn)
 (witness:∃(w:World) (tape:Tape) (i:Input),w.os=os/\(w.forCall tape i).Shaped C.prog/\i.vars=[]/\Input.okWide C.prog (w.forCall tape i) .any w.heap.size f i/\
  ((s.pre enc C.prog fn [] false (w.forCall tape i).memory i.args/\laidMetH C.prog laid (w.forCall tape i).memory)/\sizedMet enc C.prog fn (OpenSpec.ofChange s) false (w.forCall tape i).memory i.args)/\({}:Assume).holds C.prog (lone (Frame.enter C.prog f i.args .normal) [] (w.forCall tape i)))
 (hl:laidOutB C.prog=true) (hts:∀t∈fn.params.toList,C.prog.readableRec t=true/\t<C.prog.types.size) (hvars:s.vars=[]) (hvt:s.plain.varTypes C.prog=[])
 (hspec:∀(W:World) (args:Array Value) (ds:List (DataW H)) (ps:List MemPlace),DataW.TrodAll enc C.prog W 0 (fun _=>true) true fn.params.toList args.toList ds ps->s.fn H ds={results:=[.lit (.bool true)],args:=ds})
 (hres:fn.resultTypes=#[bt]) (hbt:C.prog.underlying bt=some .bool)
 (walk:∀(W:World) (base:Nat) (args:Array Value) (ds:List (DataW H)) (ps:List MemPlace),laidMetH C.prog laid W->
  (∀(j:Nat) t v,fn.params[j]?=some t->args[j]?=some v->Value.okWide C.prog W .any base t v)->
  DataW.TrodAll enc C.prog W 0 (fun _=>true) true fn.params.toList args.toList ds ps->
  (∀n∈DataW.weightsEach C.prog fn.params.toList ds,n<=reachBytes)->
  Calls C.prog f args W fun e W'=>e=.returned (.bool true)/\Below W.heap.size W W'):
 ReturnsInHanded {} C os f .any (fun w args=>(s.pre enc C.prog fn [] false w args/\laidMetH C.prog laid w)/\sizedMet enc C.prog fn (OpenSpec.ofChange s) false w args) (s.post enc C.prog fn false true false false):=by
 refine returnsInHanded_of_change_and (X:=fun w _=>laidMetH C.prog laid w) (fun _ _ _ hh h=>h.of_heap hh) own started noInit hfn witness ?_;intro W base args ds gs before hval hW _ hsz hL _;have hlt:∀p∈before,p.block<W.heap.size:=fun p hp=>hW.lt p hp
 have hW0:=hW;obtain⟨p,q,hA,hV,rfl,hz,hn⟩:=hW0;rw[hvars]at hV;obtain⟨rfl,rfl⟩:=trodVars_none hV;have hsp:=hspec W args ds p hA;refine(walk W base args ds p hL hval hA ?_).mono fun e W' ⟨he,hb⟩=>?_
 · intro n hn;rw[hvt,Y9,Y9]at hsz;exact Y0 (YG.1 hsz n hn)
 · subst he;refine⟨_,rfl,ds,[],p++[],[],p,[],hW,?_,?_,?_,World.keptBut_mono (fun x hx=>⟨hx,Or.inr (Or.inl EF)⟩) (hb.frame (·∈p++[])),fun h=>by cases h⟩
   · rw[Y9,hsp,hres];exact trodAll_mk1 (shut_bool hbt _)
   · rw[Y9,hsp];exact trodAll_below hl hb hts (fun x hx=>hlt x EF) (fun x hx=>by simpa using hlt x EF) hA
   · rw[Y9,hsp,hvars];rfl
theorem jK {P:Program} {x:String×DataW Unit} {l:List (String×DataW Unit)} {W:World} (h:laidMet P (x::l) W):laidMet P l W:=by
 obtain⟨ps,⟨g,t,cs,fuel,p,q,h1,h2,h3,h4,h5,h6⟩,hn,hb⟩:=h;subst h6;exact⟨q,h5,(List.nodup_append.1 hn).2.1,fun b off hm=>hb b off (List.mem_append_right _ hm)⟩
theorem block_of_tab {P:Program} {W:World} {name:String} {k:IntKind} {zs:List Int} {g:Nat} (h:Lib.TabIs P W name k zs) (hg:P.globalNamed name=some g) {us:List Value} (hu:us=zs.map fun z=>Value.int k z):g<W.heap.size/\∃ty m,W.heap[g]?=some (.cells us.toArray ty m):=by
 unfold Lib.TabIs World.var? at h;rw[hg]at h;simp only[Option.bind_some]at h;split at h
 · rename_i cs ty m hb;cases h;exact⟨(Array.getElem?_eq_some_iff.1 hb).1,ty,m,by rw[hb,hu]⟩
 · cases h
theorem err_of_reads {P:Program} {W:World} {name nm:String} {g t:Nat} {ms:Array (String×TypeId)} {d:DataW Unit} (hg:P.globalNamed name=some g) (ht:(P.globals[g]?).map (·.type)=some t) (hu:P.underlying t=some (.interface ms)) (h:Lib.VarReads P W name (.iface nm d)):
 g<W.heap.size/\∃ev ty m,W.heap[g]?=some (.cells #[ev] ty m)/\errV ev=true:=by
 obtain⟨g',t',cs,fuel,p,h1,h2,h3,h4⟩:=h;rw[hg]at h1;cases h1;rw[ht]at h2;cases h2;have hc:∃u v,cs.toList=[.iface u v]:=by
  cases fuel with
  |zero=>cases h4
  |succ fuel=>
   unfold DataW.trod at h4;rw[hu]at h4;generalize cs.toList=l at h4
   match l,h4 with
   |[.iface u v],_=>exact⟨u,v,rfl⟩
   |[.nilIface],h4=>simp at h4
   |[],h4=>simp at h4
   |_::_::_,h4=>simp at h4
 obtain⟨u,v,hc⟩:=hc;have hc':cs=#[.iface u v]:=Xw.1 hc;subst hc';unfold World.var? at h3;rw[hg]at h3;simp only[Option.bind_some]at h3;split at h3
 · rename_i cs ty m hb;cases h3;exact⟨(Array.getElem?_eq_some_iff.1 hb).1,_,ty,m,hb,rfl⟩
 · cases h3
end
section
open Go.RowKit
theorem own_none:ownKnob prog.godebug=none:=by kernel_rfl
theorem gl_of_laid {rest:List (String×DataW Unit)} {W:World} (h:laidMet prog (("math/bits.deBruijn32tab",Rows.laid_math_bits_deBruijn32tab)::("math/bits.deBruijn64tab",Rows.laid_math_bits_deBruijn64tab)::("internal/strconv.uint64pow10",Rows.laid_internal_strconv_uint64pow10)::("strconv.ErrRange",Rows.laid_strconv_ErrRange)::rest) W):GlOk (entry W) fun _=>False:=by
 have b0:=block_of_tab (g:=4) (us:=[.int .u8 0,.int .u8 1,.int .u8 28,.int .u8 2,.int .u8 29,.int .u8 14,.int .u8 24,.int .u8 3,.int .u8 30,.int .u8 22,.int .u8 20,.int .u8 15,.int .u8 25,.int .u8 17,.int .u8 4,.int .u8 8,.int .u8 31,.int .u8 27,.int .u8 13,.int .u8 23,.int .u8 21,.int .u8 19,.int .u8 16,.int .u8 7,.int .u8 26,.int .u8 12,.int .u8 18,.int .u8 6,.int .u8 11,.int .u8 5,.int .u8 10,.int .u8 9]) (Lib.tabIs_of_head (k:=.u8) (zs:=[0,1,28,2,29,14,24,3,30,22,20,15,25,17,4,8,31,27,13,23,21,19,16,7,26,12,18,6,11,5,10,9]) (g:=4) (t:=407) (e:=5) (n:=32) EY EY underlying407 underlying5 EY EY h) EY rfl;have b1:=block_of_tab (g:=5) (us:=[.int .u8 0,.int .u8 1,.int .u8 56,.int .u8 2,.int .u8 57,.int .u8 49,.int .u8 28,.int .u8 3,.int .u8 61,.int .u8 58,.int .u8 42,.int .u8 50,.int .u8 38,.int .u8 29,.int .u8 17,.int .u8 4,.int .u8 62,.int .u8 47,.int .u8 59,.int .u8 36,.int .u8 45,.int .u8 43,.int .u8 51,.int .u8 22,.int .u8 53,.int .u8 39,.int .u8 33,.int .u8 30,.int .u8 24,.int .u8 18,.int .u8 12,.int .u8 5,.int .u8 63,.int .u8 55,.int .u8 48,.int .u8 27,.int .u8 60,.int .u8 41,.int .u8 37,.int .u8 16,.int .u8 46,.int .u8 35,.int .u8 44,.int .u8 21,.int .u8 52,.int .u8 32,.int .u8 23,.int .u8 11,.int .u8 54,.int .u8 26,.int .u8 40,.int .u8 15,.int .u8 34,.int .u8 20,.int .u8 31,.int .u8 10,.int .u8 25,.int .u8 14,.int .u8 19,.int .u8 9,.int .u8 13,.int .u8 8,.int .u8 7,.int .u8 6]) (Lib.tabIs_of_head (k:=.u8) (zs:=[0,1,56,2,57,49,28,3,61,58,42,50,38,29,17,4,62,47,59,36,45,43,51,22,53,39,33,30,24,18,12,5,63,55,48,27,60,41,37,16,46,35,44,21,52,32,23,11,54,26,40,15,34,20,31,10,25,14,19,9,13,8,7,6]) (g:=5) (t:=408) (e:=5) (n:=64) EY EY underlying408 underlying5 EY EY (jK h)) EY rfl;have b2:=block_of_tab (g:=3) (us:=[.int .u64 1,.int .u64 10,.int .u64 100,.int .u64 1000,.int .u64 10000,.int .u64 100000,.int .u64 1000000,.int .u64 10000000,.int .u64 100000000,.int .u64 1000000000,.int .u64 10000000000,.int .u64 100000000000,.int .u64 1000000000000,.int .u64 10000000000000,.int .u64 100000000000000,.int .u64 1000000000000000,.int .u64 10000000000000000,.int .u64 100000000000000000,.int .u64 1000000000000000000,.int .u64 10000000000000000000]) (Lib.tabIs_of_head (k:=.u64) (zs:=[1,10,100,1000,10000,100000,1000000,10000000,100000000,1000000000,10000000000,100000000000,1000000000000,10000000000000,100000000000000,1000000000000000,10000000000000000,100000000000000000,1000000000000000000,10000000000000000000]) (g:=3) (t:=371) (e:=97) (n:=20) EY EY underlying371 underlying97 EY EY (jK (jK h))) EY rfl;have bE:=err_of_reads (g:=2) (t:=184) EY EY underlying184 (Lib.laidMet.reads (jK (jK (jK h))) (List.mem_cons_self ..));refine⟨?_,fun g hg=>?_⟩;rotate_left
 · have e:g=2:=by simpa [ETab]using hg
   subst e;exact⟨bE.1,fun h=>h,bE.2⟩
 intro g us hg;simp only[GTab,qL]at hg
 repeat' split at hg
 all_goals first|cases hg;done|skip
 all_goals(subst_vars;cases hg)
 all_goals first|exact⟨b0.1,fun h=>h,b0.2⟩|exact⟨b1.1,fun h=>h,b1.2⟩|exact⟨b2.1,fun h=>h,b2.2⟩
noncomputable def lowB:Nat:=(World.holding prog default ⟨#[],#[],[]⟩).heap.size
noncomputable def worldB (os:Os):World:=
 let w0:=World.holding prog os ⟨#[.cells #[.string ⟨#[118,97,108,117,101,32,111,117,116,32,111,102,32,114,97,110,103,101]⟩] 382,.cells #[.string ⟨#[105,110,118,97,108,105,100,32,115,121,110,116,97,120]⟩] 382],#[],[]⟩
 {w0 with heap:=((((((((((w0.heap).modify 4 fun| .cells _ t frozen=>.cells #[.int .u8 0,.int .u8 1,.int .u8 28,.int .u8 2,.int .u8 29,.int .u8 14,.int .u8 24,.int .u8 3,.int .u8 30,.int .u8 22,.int .u8 20,.int .u8 15,.int .u8 25,.int .u8 17,.int .u8 4,.int .u8 8,.int .u8 31,.int .u8 27,.int .u8 13,.int .u8 23,.int .u8 21,.int .u8 19,.int .u8 16,.int .u8 7,.int .u8 26,.int .u8 12,.int .u8 18,.int .u8 6,.int .u8 11,.int .u8 5,.int .u8 10,.int .u8 9] t frozen|o=>o)).modify 5 fun| .cells _ t frozen=>.cells #[.int .u8 0,.int .u8 1,.int .u8 56,.int .u8 2,.int .u8 57,.int .u8 49,.int .u8 28,.int .u8 3,.int .u8 61,.int .u8 58,.int .u8 42,.int .u8 50,.int .u8 38,.int .u8 29,.int .u8 17,.int .u8 4,.int .u8 62,.int .u8 47,.int .u8 59,.int .u8 36,.int .u8 45,.int .u8 43,.int .u8 51,.int .u8 22,.int .u8 53,.int .u8 39,.int .u8 33,.int .u8 30,.int .u8 24,.int .u8 18,.int .u8 12,.int .u8 5,.int .u8 63,.int .u8 55,.int .u8 48,.int .u8 27,.int .u8 60,.int .u8 41,.int .u8 37,.int .u8 16,.int .u8 46,.int .u8 35,.int .u8 44,.int .u8 21,.int .u8 52,.int .u8 32,.int .u8 23,.int .u8 11,.int .u8 54,.int .u8 26,.int .u8 40,.int .u8 15,.int .u8 34,.int .u8 20,.int .u8 31,.int .u8 10,.int .u8 25,.int .u8 14,.int .u8 19,.int .u8 9,.int .u8 13,.int .u8 8,.int .u8 7,.int .u8 6] t frozen|o=>o)).modify 3 fun| .cells _ t frozen=>.cells #[.int .u64 1,.int .u64 10,.int .u64 100,.int .u64 1000,.int .u64 10000,.int .u64 100000,.int .u64 1000000,.int .u64 10000000,.int .u64 100000000,.int .u64 1000000000,.int .u64 10000000000,.int .u64 100000000000,.int .u64 1000000000000,.int .u64 10000000000000,.int .u64 100000000000000,.int .u64 1000000000000000,.int .u64 10000000000000000,.int .u64 100000000000000000,.int .u64 1000000000000000000,.int .u64 10000000000000000000] t frozen|o=>o)).modify 2 fun| .cells _ t frozen=>.cells #[.iface 380 (.pointer (some ⟨lowB+0,0,none⟩))] t frozen|o=>o)).modify 1 fun| .cells _ t frozen=>.cells #[.iface 380 (.pointer (some ⟨lowB+1,0,none⟩))] t frozen|o=>o)}
theorem worldB_met (os:Os) (args:Array Value):laidMet prog [("math/bits.deBruijn32tab",Rows.laid_math_bits_deBruijn32tab),("math/bits.deBruijn64tab",Rows.laid_math_bits_deBruijn64tab),("internal/strconv.uint64pow10",Rows.laid_internal_strconv_uint64pow10),("strconv.ErrRange",Rows.laid_strconv_ErrRange),("strconv.ErrSyntax",Rows.laid_strconv_ErrSyntax)] ((worldB os).forCall (fun _ _=>0) ⟨#[],args,[]⟩).memory:=
 laidMet_of_run' 100 EY EY
end
end Go.Proofs.YtblgnefkgkchhaaGreatDoor
