/- Part 9. -/
import Derived.Test.YtblgnefkgkchhaaGreatDoorRows
import Derived.Lib.LaidTab
import Derived.Lib.LaidU8
import Derived.LaidLaws
import Derived.LaidHandle
import Derived.Stop.Joined
import Derived.ChangeSame
import Derived.ChangeVars
import Derived.JoinedOf
import Derived.RowKitTokens
import Derived.Test.YtblgnefkgkchhaaGreatDoorTPe8
set_option maxHeartbeats 4000000
set_option linter.unusedSimpArgs false
set_option linter.unusedVariables false
namespace Go.Proofs.YtblgnefkgkchhaaGreatDoor
open _root_.Go.Proofs.Tryz
section
open Go.RowKit
theorem newS_gd:newS.Gd:=⟨⟨⟨Int.le_refl 0,show(0:Int)<=1099511627776 by decide⟩,List.Pairwise.nil,Nat.zero_le _,fun c hc=>(nomatch hc),Nat.zero_le _,fun r hr=>(nomatch hr),parse_pol,by have:=parse_size leastB;show(zl leastB).1.sz<=_;omega⟩,Nat.zero_le _,Nat.zero_le _,fun c hc=>(nomatch hc)⟩
theorem newE_in {n:Int} (hn:0<=n/\n<=4000000):(newE n).In 0:=⟨newS_gd,Nat.le_refl _,Nat.le_refl _,by show(0:Nat)<_;omega,hn.1,hn⟩
theorem ax0_in:ax0.In 0:=newE_in Dn
theorem ax1_in:ax1.In 1:=in_line ax0_in Dn
theorem ax2_in:ax2.In 2:=in_line ax1_in Dn
theorem ax3_in:ax3.In 3:=in_line ax2_in Dn
theorem ax4_in:ax4.In 4:=in_line ax3_in Dn
def wDD:Dt:=⟨#[100,101,110,105,101,100,32,68,101,110,121]⟩
def wO7:Dt:=⟨#[111,107,32,55]⟩
theorem al1:HoldsW prog 16 [.ptr 1000000 0,.p (pL aw1)] (engO ax0 1000003 1000004) (.p (pS wOk)) (engO ax1 0 1):=by
 have h:=line_h ax0 (ax0_in.ok Dn) aw1 Dn;rw[aw_1]at h;exact h
theorem al2:HoldsW prog 16 [.ptr 1000000 0,.p (pL aw2)] (engO ax1 1000003 1000004) (.p (pS wOk)) (engO ax2 0 1):=by
 have h:=line_h ax1 (ax1_in.ok Dn) aw2 Dn;rw[aw_2]at h;exact h
theorem al3:HoldsW prog 16 [.ptr 1000000 0,.p (pL aw3)] (engO ax2 1000003 1000004) (.p (pS wOk)) (engO ax3 0 1):=by
 have h:=line_h ax2 (ax2_in.ok Dn) aw3 Dn;rw[aw_3]at h;exact h
theorem al4:HoldsW prog 16 [.ptr 1000000 0,.p (pL aw4)] (engO ax3 1000003 1000004) (.p (pS wDD)) (engO ax4 0 1):=by
 have h:=line_h ax3 (ax3_in.ok Dn) aw4 Dn;rw[aw_4]at h;exact h
theorem al5:HoldsW prog 16 [.ptr 1000000 0,.p (pL aw5)] (engO ax4 1000003 1000004) (.p (pS wO7)) (engO (jw ax4 aw5).1 0 1):=by
 have h:=line_h ax4 (ax4_in.ok Dn) aw5 Dn;rw[aw_5]at h;exact h
theorem awake_h:Holds prog 23 [] (.p (pB true)) []:=by
 have L1:=al1;have L2:=al2;have L3:=al3;have L4:=al4;have L5:=al5;have F0:HoldsW prog 13 [.p (pI 4000)] [] (.tup [.ptr 0 0,.ptr 2 0]) (engG ax0 0 1 2 3 4):=fresh_h 4000 Dn;generalize ax0=x0 at*;generalize ax1=x1 at*;generalize ax2=x2 at*;generalize ax3=x3 at*;generalize ax4=x4 at*;generalize (jw x4 aw5).1=x5 at*;refine Ve ?_;show HoldsW _ _ [] [] _ _;refine qF (ts:=[0]) func23 Dh rfl rfl rfl ?_;refine M3 ?_;refine uW [] F0 ?_;refine M6 ?_;refine RI ?_;refine M1 ?_;refine uC (fun hc=>?_) (fun hc=>?_)
 · cases hc
 refine qh ?_;refine uZ [1] [(9000,9000),(9001,9001),(9002,9002),(9003,9003),(9004,9004)] ?_;change SW _ _ _ ⟨40,[(1,.ptr 9000 0)],engG x0 9000 9001 9002 9003 9004⟩;refine uR ?_;refine uW [(9000,1000000),(9001,1000001),(9002,1000002),(9003,1000003),(9004,1000004)] L1 ?_;refine uS ?_;refine uW [(9000,1000000),(9001,1000001),(9002,1000002),(15000,1000003),(15001,1000004)] L2 ?_;refine M1 ?_;refine uZ [1,3,4] [(9000,9000),(9001,9001),(9002,9002),(17000,9003),(17001,9004)] ?_;change SW _ _ _ ⟨40,[(1,.ptr 9000 0),(3,.p (pS wOk)),(4,.p (pS wOk))],engG x2 9000 9001 9002 9003 9004⟩;refine uR ?_;refine uW [(9000,1000000),(9001,1000001),(9002,1000002),(9003,1000003),(9004,1000004)] L3 ?_;refine uS ?_;refine uW [(9000,1000000),(9001,1000001),(9002,1000002),(19000,1000003),(19001,1000004)] L4 ?_;refine M1 ?_;refine uZ [1,3,4,5,6] [(9000,9000),(9001,9001),(9002,9002),(21000,9003),(21001,9004)] ?_;change SW _ _ _ ⟨40,[(1,.ptr 9000 0),(3,.p (pS wOk)),(4,.p (pS wOk)),(5,.p (pS wOk)),(6,.p (pS wDD))],engG x4 9000 9001 9002 9003 9004⟩;have hOk:(wOk.toList==(⟨#[111,107]⟩:Dt).toList)=true:=by rw[beqB];exact YC rfl
 have hDD:(wDD.toList==(⟨#[100,101,110,105,101,100,32,68,101,110,121]⟩:Dt).toList)=true:=by rw[beqB];exact YC rfl
 have hO7:(wO7.toList==(⟨#[111,107,32,55]⟩:Dt).toList)=true:=by rw[beqB];exact YC rfl
 refine uR ?_;rw[hOk];refine uS ?_;rw[hOk];refine uS ?_;rw[hOk];refine uS ?_;rw[hDD];refine uS ?_;refine uW [(9000,1000000),(9001,1000001),(9002,1000002),(9003,1000003),(9004,1000004)] L5 ?_;refine uS ?_;rw[hO7];exact Lv
theorem lineS_h (x:Eng) (hx:x.Ok) (q:Dt) (hq:q.size<=4096):HoldsW prog 16 [.ptr 1000000 0,.p (pS q)] (engO x 1000003 1000004) (.p (pS (jw x q.data.toList).2)) (engO (jw x q.data.toList).1 0 1):=by
 obtain⟨⟨l⟩⟩:=q;exact line_h x hx l hq
theorem cut6_size (s:Dt):(cut6 s).size<=600:=by
 unfold cut6;rw[ByteArray.size_extract];omega
theorem linesB_mem {l:List Dt} {n:Nat} {q:Dt} (h:q∈wi l n):q.size<=4096:=by
 unfold wi at h;obtain⟨s,_,rfl⟩:=YZ.1 h;have:=cut6_size s;omega
theorem linesB_len (l:List Dt) (n:Nat):(wi l n).length<=n:=by
 unfold wi;rw[Yb,Yd];omega
def rsC (s:Sto) (o:Opn):Rs:=(jn s.pol (askC s o)).1
structure GdOk (s:Sto) (o:Opn):Prop where
 rdy:rdyC s o=0
 pars:o.kind=7->(zl o.text.data.toList).2.1=0
 ev:(jn s.pol (askC s o)).2=0
 over:overC (actR s o (rsC s o)).1=false
theorem GdOk.form {s:Sto} {o:Opn} (h:GdOk s o):wh o=true:=rdy_form h.rdy
theorem gd_cases (s:Sto) (o:Opn):(∃e a:Int,e≠0/\gdC s o=(s,badR e a,noDcd,e))\/(GdOk s o/\gdC s o=((actR s o (rsC s o)).1,(actR s o (rsC s o)).2.1,(actR s o (rsC s o)).2.2,0)):=by
 by_cases h1:(preC s o).1≠0
 · exact .inl ⟨_,_,h1,by unfold gdC;rw[Yh h1]⟩
 by_cases h2:(jn s.pol (askC s o)).2≠0
 · exact .inl ⟨_,_,h2,by unfold gdC;rw[Yc h1,Yh h2]⟩
 by_cases h3:overC (actR s o (jn s.pol (askC s o)).1).1=true
 · exact .inl ⟨6,0,by decide,by unfold gdC;rw[Yc h1,Yc h2,Yh h3]⟩
 refine .inr ⟨?_,by unfold gdC rsC;rw[Yc h1,Yc h2,Yc h3]⟩;have hp:(preC s o).1=0:=Classical.not_not.1 h1;unfold preC at hp;by_cases hr:rdyC s o≠0
 · rw[Yh hr]at hp;exact absurd hp hr
 · rw[Yc hr]at hp;refine⟨Classical.not_not.1 hr,fun hk=>?_,Classical.not_not.1 h2,by unfold rsC;simpa using h3⟩;rw[Yh hk]at hp;exact hp
def goneE (x:Eng) (o:Opn):Eng:={x with sto:=(actR x.sto o (rsC x.sto o)).1,log:=x.log++[(actR x.sto o (rsC x.sto o)).2.2],recs:=x.recs++[recW x.chain o],chain:=chainW x.chain (recW x.chain o),disk:=x.disk++jC (recW x.chain o)}
theorem do_cases (x:Eng) (o:Opn):(∃e a:Int,e≠0/\doE x o=(x,badR e a))\/(GdOk x.sto o/\doE x o=(goneE x o,(actR x.sto o (rsC x.sto o)).2.1)):=by
 rcases gd_cases x.sto o with⟨e,a,he,hg⟩|⟨hk,hg⟩
 · refine .inl ⟨e,a,he,?_⟩;unfold doE;dsimp only;rw[hg,Yh he]
 · unfold doE;dsimp only;rw[hg,Yc Dq];split
   · exact .inl ⟨8,0,by decide,rfl⟩
   · exact .inr ⟨hk,rfl⟩
theorem line_cases (x:Eng) (q:Bs):(lineW q=none/\jw x q=(x,wWhat))\/∃o,lineW q=some o/\((∃e a:Int,e≠0/\jw x q=(x,ansW (badR e a)))\/(GdOk x.sto o/\jw x q=(goneE x o,ansW (actR x.sto o (rsC x.sto o)).2.1))):=by
 unfold jw;cases h:lineW q with
 |none=>exact .inl ⟨rfl,rfl⟩
 |some o=>
  refine .inr ⟨o,rfl,?_⟩;rcases do_cases x o with⟨e,a,he,hd⟩|⟨hk,hd⟩
  · exact .inl ⟨e,a,he,by simp only[hd]⟩
  · exact .inr ⟨hk,by simp only[hd]⟩
theorem brk_mark {s:Sto} {o:Opn} {m:Mk} (h:brkC s o m=true):o.glass=true/\(m=(0,2)\/m=(0,0))/\hasC s.roles o.subj qah=true:=by
 unfold brkC at h;simp only[Yp,Xm,Yg]at h;exact⟨h.1,h.2.1,h.2.2.1⟩
theorem ans_act (s:Sto) (o:Opn) (r:Rs):
 (r.m=(2,0)/\brkC s o r.m=false/\(ansW (actR s o r).2.1=wOk\/(∃t,ansW (actR s o r).2.1=wOkB++t)\/ansW (actR s o r).2.1=wHidden))\/(brkC s o r.m=true/\ansW (actR s o r).2.1=qah)\/(r.m≠(2,0)/\brkC s o r.m=false/\ansW (actR s o r).2.1=wDenied++mkN r.m):=by
 unfold actR;dsimp only;by_cases hm:r.m=(2,0)
 · have hg:brkC s o r.m=false:=by
    cases hb:brkC s o r.m with
    |false=>rfl
    |true=>
     have:=(brk_mark hb).2.1;rw[hm]at this;rcases this with h|h<;>cases h
   refine .inl ⟨hm,hg,?_⟩;rw[hg];have hd:(decide (r.m=(2,0))||false)=true:=by simp[hm]
   simp only[hd,if_true];unfold ansW;dsimp only;rw[Yc (fun h=>absurd h.1 Dn),Yc (fun h=>h.1 rfl),Yc (fun h=>h rfl),Yc Bool.false_ne_true];split
   · exact .inr (.inr rfl)
   · repeat' split
     all_goals first|exact .inl rfl|exact .inr (.inl ⟨_,rfl⟩)
 · cases hb:brkC s o r.m with
   |true=>
    refine .inr (.inl ⟨rfl,?_⟩);have hd:(decide (r.m=(2,0))||true)=true:=by simp
    simp only[hd,if_true];unfold ansW;dsimp only;rw[Yc (fun h=>absurd h.1 Dn),Yc (fun h=>h.1 rfl),Yc (fun h=>h rfl),Yh rfl]
   |false=>
    refine .inr (.inr ⟨hm,rfl,?_⟩);have hd:(decide (r.m=(2,0))||false)=false:=by simp[hm]
    simp only[hd,YA,if_false];unfold ansW;dsimp only;rw[Yh ⟨rfl,hm⟩]
theorem ba_ext {a b:Dt} (h:a=b):a.data.toList=b.data.toList:=by rw[h]
theorem ba_head (a b:Dt):(a++b).data.toList=a.data.toList++b.data.toList:=by
 rw[ByteArray.data_append,Array.toList_append]
theorem ans_glass (s:Sto) (o:Opn) (r:Rs):ansW (actR s o r).2.1=qah↔brkC s o r.m=true:=by
 constructor
 · intro h;rcases ans_act s o r with⟨_,_,h2|⟨t,h2⟩|h2⟩|⟨hb,_⟩|⟨_,_,h2⟩
   · have h3:wOk=qah:=h2.symm.trans h;exact absurd h3 Dn
   · have h3:wOkB++t=qah:=h2.symm.trans h;have h4:=ba_ext h3;rw[ba_head]at h4;cases h4
   · have h3:wHidden=qah:=h2.symm.trans h;exact absurd h3 Dn
   · exact hb
   · have h3:wDenied++mkN _=qah:=h2.symm.trans h;have h4:=ba_ext h3;rw[ba_head]at h4;cases h4
 · intro h;rcases ans_act s o r with⟨_,h2,_⟩|⟨_,h2⟩|⟨_,h2,_⟩
   · rw[h]at h2;cases h2
   · exact h2
   · rw[h]at h2;cases h2
def wm (k:Int) (l:List Obli):Nat:=(l.filter fun x=>decide (x.kind=k)).length
def faceC (c:Cas):Dt×Dt×Dt×List Fld:=(c.id,c.owner,c.state,c.fields)
def IdsOk (l:List Rev):Prop:=∀i (h:i<l.length),(l[i]).id=((i+1:Nat):Int)
structure DutF (s t:Sto) (l:List Obli) (d:Bool):Prop where
 tick:t.tick=s.tick
 roles:t.roles=s.roles
 pol:t.pol=s.pol
 ver:t.ver=s.ver
 revs:∃R,t.revs=s.revs++R/\R.length=wm 3 l
 ids:IdsOk s.revs->IdsOk t.revs
 ntcs:∃R,t.ntcs=s.ntcs++R/\R.length=wm 4 l
 quiet:d=false->t.cases=s.cases
 face:t.cases.map faceC=s.cases.map faceC
theorem DutF.nil (s:Sto) (d:Bool):DutF s s [] d:=⟨rfl,rfl,rfl,rfl,⟨[],by simp,rfl⟩,id,⟨[],by simp,rfl⟩,fun _=>rfl,rfl⟩
theorem kindN_cat (k:Int) (l m:List Obli):wm k (l++m)=wm k l+wm k m:=by
 unfold wm;rw[List.filter_append,Ya]
theorem DutF.trans {s t u:Sto} {l m:List Obli} {d:Bool} (h1:DutF s t l d) (h2:DutF t u m d):DutF s u (l++m) d:=by
 obtain⟨R1,r1,n1⟩:=h1.revs;obtain⟨R2,r2,n2⟩:=h2.revs;obtain⟨S1,s1,m1⟩:=h1.ntcs;obtain⟨S2,s2,m2⟩:=h2.ntcs;exact⟨h2.tick.trans h1.tick,h2.roles.trans h1.roles,h2.pol.trans h1.pol,h2.ver.trans h1.ver,⟨R1++R2,by rw[r2,r1,YU],by rw[Ya,kindN_cat,n1,n2]⟩,fun h=>h2.ids (h1.ids h),⟨S1++S2,by rw[s2,s1,YU],by rw[Ya,kindN_cat,m1,m2]⟩,fun hd=>(h2.quiet hd).trans (h1.quiet hd),h2.face.trans h1.face⟩
theorem ids_snoc {l:List Rev} (h:IdsOk l) {r:Rev} (hr:r.id=((l.length+1:Nat):Int)):IdsOk (l++[r]):=fun i hi=>by
 by_cases h1:i<l.length
 · rw[List.getElem_append_left h1];exact h i h1
 · have h2:i=l.length:=by
    rw[Ya,YD]at hi;omega
   subst h2;rw[List.getElem_append_right (Yj _)];simpa using hr
theorem map_set_same {α β:Type} (f:α->β) {l:List α} {i:Nat} {a b:α} (h:l[i]?=some a) (hf:f b=f a):(l.set i b).map f=l.map f:=by
 rw[List.map_set,hf];apply List.ext_getElem?;intro j;rw[List.getElem?_set];split
 · rename_i hj;subst hj;rw[YK,h];split
   · rfl
   · rename_i hlt;obtain⟨h1,_⟩:=Yr.1 h;rw[Yb]at hlt;exact absurd h1 hlt
 · rfl
theorem dutF_log (s:Sto) (o:Opn) (w:Dt) (x:Obli) (h3:x.kind≠3) (h4:x.kind≠4):DutF s (logR s o w) [x] true:=by
 have k3:wm 3 [x]=0:=by simp[wm,h3]
 have k4:wm 4 [x]=0:=by simp[wm,h4]
 unfold logR;split
 · exact Mj
 · split
   · rename_i c hc;exact⟨rfl,rfl,rfl,rfl,⟨[],by simp,k3.symm⟩,id,⟨[],by simp,k4.symm⟩,fun h=>(nomatch h),map_set_same faceC hc rfl⟩
   · exact Mj
theorem dutF_one (s:Sto) (o:Opn) (x:Obli) (d:Bool):DutF s (dutyR o d s x) [x] d:=by
 unfold dutyR;split
 · rename_i h;obtain⟨h1,rfl⟩:=h;exact dutF_log s o x.arg x Do Do
 · split
   · rename_i h3;refine⟨rfl,rfl,rfl,rfl,⟨[_],rfl,by simp[wm,h3]⟩,fun h=>ids_snoc h ?_,⟨[],by simp[opnR],by simp[wm,h3]⟩,fun _=>rfl,rfl⟩;show(s.revs.length:Int)+1=_;omega
   · rename_i h3;split
     · rename_i h4;exact⟨rfl,rfl,rfl,rfl,⟨[],by simp,by simp[wm,h4]⟩,id,⟨[_],rfl,by simp[wm,h4]⟩,fun _=>rfl,rfl⟩
     · rename_i h4;exact⟨rfl,rfl,rfl,rfl,⟨[],by simp,by simp[wm,h3]⟩,id,⟨[],by simp,by simp[wm,h4]⟩,fun _=>rfl,rfl⟩
theorem dutF (o:Opn) (d:Bool):∀(l:List Obli) (s:Sto),DutF s (dutR s o l d) l d
 |[],s=>DutF.nil s d
 |x::l,s=>(dutF_one s o x d).trans (dutF o d l (dutyR o d s x))
theorem done_revs {s:Sto} {o:Opn} (h:o.kind≠5):(zi s o).revs=s.revs:=by
 have on:∀id f,(qaC s id f).revs=s.revs:=fun id f=>by unfold qaC;split<;>rfl
 unfold zi;rw[Yc h]
 repeat' split
 all_goals first|rfl|exact on _ _
theorem done_revs5 {s:Sto} {o:Opn} (h:o.kind=5) {r:Rev} (hr:s.revs[(o.rev-1).toNat]?=some r):zi s o={s with revs:=s.revs.set (o.rev-1).toNat {r with open_:=false}}:=by
 unfold zi;rw[Yc Do,Yc Do,Yc Do,Yh h,hr]
theorem done_rlen (s:Sto) (o:Opn):(zi s o).revs.length=s.revs.length:=by
 by_cases h:o.kind=5
 · cases hr:s.revs[(o.rev-1).toNat]? with
   |none=>
    unfold zi;rw[Yc Do,Yc Do,Yc Do,Yh h,hr]
   |some r=>rw[done_revs5 h hr];exact Xf
 · rw[done_revs h]
theorem ids_set {l:List Rev} (h:IdsOk l) {i:Nat} {r:Rev} (hr:l[i]?=some r) (b:Bool):IdsOk (l.set i {r with open_:=b}):=fun j hj=>by
 rw[Xf]at hj;rw[List.getElem_set];split
 · rename_i he;subst he;obtain⟨h1,h2⟩:=Yr.1 hr;have:=h i h1;rw[h2]at this;exact this
 · exact h j hj
theorem done_ids {s:Sto} (h:IdsOk s.revs) (o:Opn):IdsOk (zi s o).revs:=by
 by_cases h5:o.kind=5
 · cases hr:s.revs[(o.rev-1).toNat]? with
   |none=>
    unfold zi;rw[Yc Do,Yc Do,Yc Do,Yh h5,hr];exact h
   |some r=>rw[done_revs5 h5 hr];exact ids_set h hr false
 · rw[done_revs h5];exact h
theorem done_ntcs (s:Sto) (o:Opn):(zi s o).ntcs=s.ntcs:=by
 have on:∀id f,(qaC s id f).ntcs=s.ntcs:=fun id f=>by unfold qaC;split<;>rfl
 unfold zi
 repeat' split
 all_goals first|rfl|exact on _ _
def glsS (s:Sto) (o:Opn) (m:Mk):Sto:=if brkC s o m then opnR s o o.reason else s
def dneB (s:Sto) (o:Opn) (m:Mk):Bool:=decide (m=(2,0))||brkC s o m
def midS (s:Sto) (o:Opn) (m:Mk):Sto:=if dneB s o m then zi (glsS s o m) o else glsS s o m
theorem act_sto (s:Sto) (o:Opn) (r:Rs):(actR s o r).1=dutR (midS s o r.m) o r.obls (dneB s o r.m):=rfl
theorem act_dut (s:Sto) (o:Opn) (r:Rs):DutF (midS s o r.m) (actR s o r).1 r.obls (dneB s o r.m):=by
 rw[act_sto];exact dutF o _ r.obls _
theorem gls_ids {s:Sto} (h:IdsOk s.revs) (o:Opn) (m:Mk):IdsOk (glsS s o m).revs:=by
 unfold glsS;split
 · refine ids_snoc h ?_;show(s.revs.length:Int)+1=_;omega
 · exact h
theorem mid_ids {s:Sto} (h:IdsOk s.revs) (o:Opn) (m:Mk):IdsOk (midS s o m).revs:=by
 unfold midS;split
 · exact done_ids (gls_ids h o m) o
 · exact gls_ids h o m
theorem act_ids {s:Sto} (h:IdsOk s.revs) (o:Opn) (r:Rs):IdsOk (actR s o r).1.revs:=(act_dut s o r).ids (mid_ids h o r.m)
theorem parse_right {b:Bs} (h:(zl b).2.1=0):zU (zl b).1=0:=by
 unfold zl at h⊢;split at h
 · exact absurd h Dn
 · rename_i hb;rw[Yc hb];cases hl:lexL b with
   |error e=>rw[hl]at h;exact absurd h (show(5:Int)≠0 by decide)
   |ok l=>
    rw[hl]at h;dsimp only at h⊢;generalize polQ l 5 ⟨0,0,0,0⟩=r at*;generalize (if(ze l r.2).kind=7 then r.2 else synQ l r.2)=s1 at*;by_cases h1:s1.bad=0/\zU r.1≠0
    · rw[Yh h1]at h;have:(jm s1 5 (b.length:Int)).bad≠0:=by
       unfold jm;rw[Yh h1.1];exact show(5:Int)≠0 by decide
      rw[Yh this]at h;exact absurd h this
    · rw[Yc h1]at h⊢;by_cases h2:s1.bad≠0
      · rw[Yh h2]at h;exact absurd h h2
      · rw[Yc h2];exact Classical.not_not.1 fun hn=>h1 ⟨Classical.not_not.1 h2,hn⟩
theorem done_pol (s:Sto) (o:Opn):(zi s o).pol=s.pol\/((zl o.text.data.toList).2.1=0/\(zi s o).pol=(zl o.text.data.toList).1):=by
 have on:∀id f,(qaC s id f).pol=s.pol:=fun id f=>by unfold qaC;split<;>rfl
 unfold zi
 repeat' split
 all_goals first|exact .inl rfl|exact .inl (on _ _)|exact .inr ⟨by assumption,rfl⟩
theorem done_right {s:Sto} (h:zU s.pol=0) (o:Opn):zU (zi s o).pol=0:=by
 rcases done_pol s o with h1|⟨h1,h2⟩
 · rw[h1];exact h
 · rw[h2];exact parse_right h1
theorem gls_pol (s:Sto) (o:Opn) (m:Mk):(glsS s o m).pol=s.pol:=by unfold glsS;split<;>rfl
theorem act_right {s:Sto} (h:zU s.pol=0) (o:Opn) (r:Rs):zU (actR s o r).1.pol=0:=by
 rw[(act_dut s o r).pol];unfold midS;split
 · exact done_right (by rw[gls_pol];exact h) o
 · rw[gls_pol];exact h
structure Eng.Iv (x:Eng) (k:Nat):Prop where
 in_:x.In k
 right:zU x.sto.pol=0
 ids:IdsOk x.sto.revs
 logs:∀d∈x.log,d.obls.length<=1000000
 quo:x.quota=200000
 room:x.disk.length<=8200*k
theorem least_ok:(zl leastB).2.1=0:=by kernel_rfl
theorem Eng.Iv.ev {x:Eng} {k:Nat} (h:x.Iv k) (g:List Giv):(jn x.sto.pol g).2=0:=by
 unfold jn;rw[Yh h.right]
theorem Eng.Iv.more {x:Eng} {k m:Nat} (h:x.Iv k) (hm:k<=m):x.Iv m:=⟨h.in_.more hm,h.right,h.ids,h.logs,h.quo,by have:=h.room;omega⟩
theorem rs_len (s:Sto) (o:Opn):(rsC s o).obls.length<=s.pol.sz:=by
 unfold rsC jn;split
 · exact qbd _ 4 _
 · exact Yl _
theorem frame_len {s:Sto} {o:Opn} (h:GdOk s o) (c:Nat):(jC (recW c o)).length<=8200:=by
 have h1:=form_rec h.form c;generalize recW c o=p at*;unfold jC;simp only[Ya];have h2:=qbi 4 p.length;have h3:=qbi 4 (sumW p);omega
theorem Eng.Iv.gone {x:Eng} {k:Nat} (h:x.Iv k) {o:Opn} (hk:GdOk x.sto o) (hin:(goneE x o).In (k+1)):(goneE x o).Iv (k+1):=by
 refine⟨hin,act_right h.right o _,act_ids h.ids o _,fun d hd=>?_,h.quo,?_⟩
 · rcases YM.1 hd with hd|hd
   · exact h.logs d hd
   · rw[Yz]at hd;subst hd;show(rsC x.sto o).obls.length<=_;have:=rs_len x.sto o;have:=h.in_.sto.g0.sz;omega
 · show(x.disk++jC _).length<=_;rw[Ya];have:=frame_len hk x.chain;have:=h.room;omega
theorem Eng.Iv.line {x:Eng} {k:Nat} (h:x.Iv k) {q:Bs} (hq:q.length<=4096):(jw x q).1.Iv (k+1):=by
 have hin:=in_line h.in_ hq;rcases line_cases x q with⟨_,hl⟩|⟨o,ho,⟨e,a,he,hl⟩|⟨hk,hl⟩⟩
 · rw[hl];exact h.more Do
 · rw[hl];exact h.more Do
 · rw[hl]at hin⊢;exact h.gone hk hin
theorem new_iv:(newE 200000).Iv 0:=⟨newE_in Dn,parse_right least_ok,fun i hi=>(nomatch hi),fun d hd=>(nomatch hd),rfl,Nat.le_refl _⟩
theorem gls_no {s:Sto} {o:Opn} {m:Mk} (h:brkC s o m=false):glsS s o m=s:=by unfold glsS;rw[if_neg (by rw[h];decide)]
def sameK (s t:Sto):Prop:=t.cases=s.cases/\t.tick=s.tick/\t.ver=s.ver/\t.roles=s.roles
theorem permit_law (x:Eng) (q:Bs):
 (lineW q=none/\jw x q=(x,wWhat))\/∃o,lineW q=some o/\(sameK x.sto (jw x q).1.sto\/
  (((rsC x.sto o).m=(2,0)\/((jw x q).2=qah/\((rsC x.sto o).m=(0,2)\/(rsC x.sto o).m=(0,0))))/\
    (jw x q).1.sto.revs.length=x.sto.revs.length+wm 3 (rsC x.sto o).obls+(if(jw x q).2=qah then 1 else 0)/\
    (jw x q).1.sto.ntcs.length=x.sto.ntcs.length+wm 4 (rsC x.sto o).obls)):=by
 rcases line_cases x q with h|⟨o,ho,⟨e,a,he,hc⟩|⟨hk,hc⟩⟩
 · exact .inl h
 · refine .inr ⟨o,ho,.inl ?_⟩;rw[hc];exact⟨rfl,rfl,rfl,rfl⟩
 refine .inr ⟨o,ho,?_⟩;rw[hc];dsimp only;have hD:=act_dut x.sto o (rsC x.sto o);obtain⟨R,hR,nR⟩:=hD.revs;obtain⟨S,hS,nS⟩:=hD.ntcs;cases hd:dneB x.sto o (rsC x.sto o).m with
 |false=>
  left;have hb:brkC x.sto o (rsC x.sto o).m=false:=by
   unfold dneB at hd;exact(Bool.or_eq_false_iff.1 hd).2
  have hm:midS x.sto o (rsC x.sto o).m=x.sto:=by
   unfold midS;rw[hd,Yc Dn,gls_no hb]
  rw[hm]at hD;exact⟨hD.quiet hd,hD.tick,hD.ver,hD.roles⟩
 |true=>
  right;have hmid:midS x.sto o (rsC x.sto o).m=zi (glsS x.sto o (rsC x.sto o).m) o:=by
   unfold midS;rw[hd,Yh rfl]
  refine⟨?_,?_,?_⟩
  · unfold dneB at hd;rcases Bool.or_eq_true_iff.1 hd with h|h
    · exact .inl (YY h)
    · exact .inr ⟨(ans_glass _ _ _).2 h,(brk_mark h).2.1⟩
  · show(actR x.sto o (rsC x.sto o)).1.revs.length=_;rw[hR,Ya,nR,hmid,done_rlen];by_cases hb:brkC x.sto o (rsC x.sto o).m=true
    · rw[Yh ((ans_glass _ _ _).2 hb)];unfold glsS;rw[Yh hb];show(x.sto.revs++[_]).length+_=_;rw[Ya,YD];omega
    · rw[Yc fun h=>hb ((ans_glass _ _ _).1 h)];unfold glsS;rw[Yc hb];omega
  · show(actR x.sto o (rsC x.sto o)).1.ntcs.length=_;rw[hS,Ya,nS,hmid,done_ntcs];unfold glsS;split<;>rfl
section
variable {P:Program} {T:TT} (hT:zm P T) {st:St}
include hT
end
theorem parseQ_h (q:Dt) (hq:q.size<=4096):Holds prog 17 [pS q] (.tup [.p (.agg ((lineW q.data.toList).getD noOp).pv),.p (pB (lineW q.data.toList).isSome)]) []:=by
 obtain⟨⟨l⟩⟩:=q;exact parseL_h l hq
theorem askS_h {x:Eng} {k:Nat} (hx:x.Iv k) (o:Opn):Holds prog 22 [.agg x.sto.pv,.agg o.pv] (.p (jo (askC x.sto o))) []:=
 ask_h x.sto hx.in_.sto.sm.ok (fun c hc f hf=>((hx.in_.sto.g0.each c hc).flds f hf).1) o
theorem evS_h {x:Eng} {k:Nat} (hx:x.Iv k) {o:Opn} (ho:o.Ok):Holds prog 21 [.agg (polP x.sto.pol),jo (askC x.sto o)] (.tup [.p (.agg (rsP (rsC x.sto o))),.p (pI 0)]) []:=by
 obtain⟨n,hf⟩:=hx.in_.sto.g0.pol;have h:=evPol_h x.sto.pol hf hx.in_.sto.g0.sz (askC x.sto o) (giv_ok hx.in_.sto ho);rw[hx.ev]at h;exact h
theorem rs_mem (s:Sto) (o:Opn):(rsC s o).m∈mks:=by
 unfold rsC jn;split
 · exact qak _ _ _
 · simp[noRs,mks]
theorem line_ok {q:Dt} (hq:q.size<=4096) {o:Opn} (h:lineW q.data.toList=some o):o.Ok:=(lineW_sz (s:=q.data.toList) hq h).ok
noncomputable def eqB {α:Type} (a b:α):Bool:=@decide (a=b) (Classical.propDecidable _)
theorem qaz {α:Type} {a b:α} (h:a=b):eqB a b=true:=by unfold eqB;exact@decide_eq_true _ (Classical.propDecidable _) h
theorem wM {α:Type} {a b:α} (h:a≠b):eqB a b=false:=by unfold eqB;exact@decide_eq_false _ (Classical.propDecidable _) h
theorem eqB_iff {α:Type} {a b:α}:eqB a b=true↔a=b:=⟨fun h=>by unfold eqB at h;exact@of_decide_eq_true _ (Classical.propDecidable _) h,qaz⟩
theorem rol_ext {x y:Rol}:x=y↔x.subj=y.subj/\x.role=y.role:=by cases x;cases y;simp
theorem hap_ext {x y:Hap}:x=y↔x.tick=y.tick/\x.actor=y.actor/\x.what=y.what:=by cases x;cases y;simp
theorem fld_ext {x y:Fld}:x=y↔x.name=y.name/\x.val.kind=y.val.kind/\x.val.n=y.val.n/\x.val.s=y.val.s:=by
 obtain⟨n,k,m,s⟩:=x;obtain⟨n',k',m',s'⟩:=y;simp
theorem cas_ext {x y:Cas}:x=y↔x.id=y.id/\x.owner=y.owner/\x.state=y.state/\x.fields=y.fields/\x.log=y.log:=by cases x;cases y;simp
theorem row_ne {α:Type} {a b:List α} {k:Nat} (h1:k<a.length) (h2:k<b.length) (h:a[k]≠b[k]):a≠b:=fun e=>by
 subst e;exact h rfl
theorem row_eq {α:Type} {a b:List α} (h:a.length=b.length) (hk:∀j (h1:j<a.length) (h2:j<b.length),a[j]=b[j]):a=b:=List.ext_getElem h hk
theorem twoRol_h (a b:List Rol) (ha:a.length<=1000000) (hb:b.length<=1000000):Holds prog 19 [zf a,zf b] (.p (pB (eqB a b))) []:=by
 refine qo (ts:=[4]) func19 Dh rfl rfl rfl ?_;refine M4 ?_;refine uC (fun h0=>?_) (fun h0=>?_)
 · rw[wM (fun e=>by subst e;simp at h0)];exact Kq
 refine qh ?_;have hlen:a.length=b.length:=by simp at h0;omega
 refine Kj ?_;refine U7 ?_;refine qE (fun m s=>∃(k:Nat) (kk:Int),k<=a.length/\m=a.length-k/\kk=k/\(∀j (h1:j<a.length) (h2:j<b.length),j<k->a[j]=b[j])/\s=⟨26,[(0,.p (zf a)),(1,.p (zf b)),(4,.p (pB false)),(5,.p (pI kk))],[]⟩) a.length ⟨0,0,Yl _,rfl,rfl,fun j _ _ h=>absurd h (Nat.not_lt_zero _),rfl⟩ ?_;rintro m s ⟨k,_,hk,rfl,rfl,hall,rfl⟩;refine uA ?_;refine uC (fun hlt=>?_) (fun hlt=>?_)
 · refine qh ?_;simp only[Yb,Yg]at hlt;have hlt':k<a.length:=by omega
   have hlt2:k<b.length:=by omega
   obtain⟨x,hx⟩:∃x,x=a[k]:=⟨_,rfl⟩;obtain⟨y,hy⟩:∃y,y=b[k]:=⟨_,rfl⟩;refine Lo ?_;refine XQ ?_;rw[qw hlt2,<-hy];refine uT ?_;refine K8 ?_;refine uC (fun hp=>?_) (fun hp=>?_)
   · have hne:x≠y:=fun e=>by
      subst e;simp at hp
     refine MN ?_;exact Kq
   have heq:x=y:=by
    simp[beqB]at hp;exact rol_ext.2 EX
   refine M8 ?_;refine⟨_,_,?_,qk [0,1,4,5] [] rfl rfl,k+1,_,hlt',rfl,qr hlt' Do,fun j h1 h2 h3=>?_,rfl⟩
   · omega
   · by_cases e:j=k
     · subst e;rw[<-hx,<-hy];exact heq
     · exact hall j h1 h2 Do
 · simp only[Yb,Yi]at hlt;refine GF ?_;exact KR
theorem twoHap_h (a b:List Hap) (ha:a.length<=1000000) (hb:b.length<=1000000):Holds prog 48 [hapsP a,hapsP b] (.p (pB (eqB a b))) []:=by
 refine qo (ts:=[4]) func48 Dh rfl rfl rfl ?_;refine M4 ?_;refine uC (fun h0=>?_) (fun h0=>?_)
 · rw[wM (fun e=>by subst e;simp at h0)];exact Kq
 refine qh ?_;have hlen:a.length=b.length:=by simp at h0;omega
 refine Kj ?_;refine U7 ?_;refine qE (fun m s=>∃(k:Nat) (kk:Int),k<=a.length/\m=a.length-k/\kk=k/\(∀j (h1:j<a.length) (h2:j<b.length),j<k->a[j]=b[j])/\s=⟨26,[(0,.p (hapsP a)),(1,.p (hapsP b)),(4,.p (pB false)),(5,.p (pI kk))],[]⟩) a.length ⟨0,0,Yl _,rfl,rfl,fun j _ _ h=>absurd h (Nat.not_lt_zero _),rfl⟩ ?_;rintro m s ⟨k,_,hk,rfl,rfl,hall,rfl⟩;refine uA ?_;refine uC (fun hlt=>?_) (fun hlt=>?_)
 · refine qh ?_;simp only[Yb,Yg]at hlt;have hlt':k<a.length:=by omega
   have hlt2:k<b.length:=by omega
   obtain⟨x,hx⟩:∃x,x=a[k]:=⟨_,rfl⟩;obtain⟨y,hy⟩:∃y,y=b[k]:=⟨_,rfl⟩;refine Lo ?_;refine XQ ?_;rw[qw hlt2,<-hy];refine uT ?_;refine K8 ?_;refine uC (fun hp=>?_) (fun hp=>?_)
   · have hne:x≠y:=fun e=>by
      subst e;simp at hp
     refine MN ?_;exact Kq
   have heq:x=y:=by
    simp[beqB]at hp;exact hap_ext.2 EX
   refine M8 ?_;refine⟨_,_,?_,qk [0,1,4,5] [] rfl rfl,k+1,_,hlt',rfl,qr hlt' Do,fun j h1 h2 h3=>?_,rfl⟩
   · omega
   · by_cases e:j=k
     · subst e;rw[<-hx,<-hy];exact heq
     · exact hall j h1 h2 Do
 · simp only[Yb,Yi]at hlt;refine GF ?_;exact KR
theorem twoFld_h (a b:List Fld) (ha:a.length<=1000000) (hb:b.length<=1000000):Holds prog 36 [fldsP a,fldsP b] (.p (pB (eqB a b))) []:=by
 refine qo (ts:=[4]) func36 Dh rfl rfl rfl ?_;refine M4 ?_;refine uC (fun h0=>?_) (fun h0=>?_)
 · rw[wM (fun e=>by subst e;simp at h0)];exact Kq
 refine qh ?_;have hlen:a.length=b.length:=by simp at h0;omega
 refine Kj ?_;refine U7 ?_;refine qE (fun m s=>∃(k:Nat) (kk:Int),k<=a.length/\m=a.length-k/\kk=k/\(∀j (h1:j<a.length) (h2:j<b.length),j<k->a[j]=b[j])/\s=⟨26,[(0,.p (fldsP a)),(1,.p (fldsP b)),(4,.p (pB false)),(5,.p (pI kk))],[]⟩) a.length ⟨0,0,Yl _,rfl,rfl,fun j _ _ h=>absurd h (Nat.not_lt_zero _),rfl⟩ ?_;rintro m s ⟨k,_,hk,rfl,rfl,hall,rfl⟩;refine uA ?_;refine uC (fun hlt=>?_) (fun hlt=>?_)
 · refine qh ?_;simp only[Yb,Yg]at hlt;have hlt':k<a.length:=by omega
   have hlt2:k<b.length:=by omega
   obtain⟨x,hx⟩:∃x,x=a[k]:=⟨_,rfl⟩;obtain⟨y,hy⟩:∃y,y=b[k]:=⟨_,rfl⟩;refine Lo ?_;refine XQ ?_;rw[qw hlt2,<-hy];refine uT ?_;refine K8 ?_;refine uC (fun hp=>?_) (fun hp=>?_)
   · have hne:x≠y:=fun e=>by
      subst e;simp at hp
     refine MN ?_;exact Kq
   have heq:x=y:=by
    simp[beqB]at hp;exact fld_ext.2 EX
   refine M8 ?_;refine⟨_,_,?_,qk [0,1,4,5] [] rfl rfl,k+1,_,hlt',rfl,qr hlt' Do,fun j h1 h2 h3=>?_,rfl⟩
   · omega
   · by_cases e:j=k
     · subst e;rw[<-hx,<-hy];exact heq
     · exact hall j h1 h2 Do
 · simp only[Yb,Yi]at hlt;refine GF ?_;exact KR
theorem twoCas_h (a b:List Cas) (ha:a.length<=1000000) (hb:b.length<=1000000) (ea:∀c∈a,c.fields.length<=1000000/\c.log.length<=1000000) (eb:∀c∈b,c.fields.length<=1000000/\c.log.length<=1000000):Holds prog 18 [jt a,jt b] (.p (pB (eqB a b))) []:=by
 have la:(a.map Cas.pv).length=a.length:=Yb _;have lb:(b.map Cas.pv).length=b.length:=Yb _;refine qo (ts:=[4]) func18 Dh rfl rfl rfl ?_;refine M4 ?_;refine uC (fun h0=>?_) (fun h0=>?_)
 · rw[wM (fun e=>by subst e;simp at h0)];exact Kq
 refine qh ?_;have hlen:a.length=b.length:=by simp at h0;omega
 refine uA ?_;rw[la];refine uB ?_;refine uZ [0,1,12,13] [] ?_;refine qE (fun m s=>∃k:Nat,k<=a.length/\m=a.length-k/\(∀j (h1:j<a.length) (h2:j<b.length),j<k->a[j]=b[j])/\s=⟨82,[(0,.p (jt a)),(1,.p (jt b)),(12,.p (pI (a.length:Int))),(13,.p (pI (k:Int)))],[]⟩) a.length ⟨0,Yl _,rfl,fun j _ _ h=>absurd h (Nat.not_lt_zero _),rfl⟩ ?_;rintro m s ⟨k,hk,rfl,hall,rfl⟩;refine uA ?_;by_cases hlt:k<a.length
 · rw[show decide ((k:Int)<(a.length:Int))=true by rw[Yg];omega];refine uC (fun hc=>?_) (fun hc=>?_);rotate_left
   · cases hc
   refine qh ?_;have hlt2:k<b.length:=by omega
   refine uB ?_;obtain⟨x,hx⟩:∃x,x=a[k]:=⟨_,rfl⟩;obtain⟨y,hy⟩:∃y,y=b[k]:=⟨_,rfl⟩;have hxl:=ea x (by rw[hx];exact Yo hlt);have hyl:=eb y (by rw[hy];exact Yo hlt2);have HF:=twoFld_h x.fields y.fields hxl.1 hyl.1;have HH:=twoHap_h x.log y.log hxl.2 hyl.2;refine uA ?_;(repeat refine qz ?_);refine qam Dh Dh Dh ?_
   refine Xz ?_;refine Mp ?_;refine KX ?_;refine Mq ?_;rw[qw hlt2,<-hy];refine Xz ?_;refine Mp ?_;refine KX ?_;refine Mq ?_;rw[qw hlt2,<-hy];refine Xz ?_;refine Mp ?_;refine KX ?_;refine Mq ?_;rw[qw hlt2,<-hy];refine Xz ?_;refine Mp ?_;refine KX ?_;refine Mq ?_;rw[qw hlt2,<-hy];refine Xz ?_;refine qR rfl rfl rfl rfl (HF) rfl rfl ?_;refine Xz ?_;refine Mp ?_;refine KX ?_;refine Mq ?_;rw[qw hlt2,<-hy];refine Xz ?_;refine qR rfl rfl rfl rfl (HH) rfl rfl ?_;refine Kb ?_;refine uC (fun hp=>?_) (fun hp=>?_)
   · have hne:x≠y:=fun e=>by
      subst e;simp[qaz rfl]at hp
     rw[wM (row_ne hlt hlt2 (by rw[<-hx,<-hy];exact hne))];exact Kq
   have heq:x=y:=by
    simp[beqB,eqB_iff]at hp;exact cas_ext.2 (by simpa [eqB_iff,and_assoc]using hp)
   refine M8 ?_;refine⟨_,_,?_,qk [0,1,12,13] [] rfl rfl,k+1,hlt,rfl,fun j h1 h2 h3=>?_,by rw[qr hlt Do];rfl⟩
   · omega
   · by_cases e:j=k
     · subst e;rw[<-hx,<-hy];exact heq
     · exact hall j h1 h2 Do
 rw[show decide ((k:Int)<(a.length:Int))=false by rw[Yi];omega];refine uC (fun hc=>?_) (fun hc=>?_)
 · cases hc
 refine GF ?_;exact KR
theorem kindN_take {l:List Obli} {k:Int} {j:Nat} (hj:j<l.length):wm k (l.take (j+1))=wm k (l.take j)+if l[j].kind=k then 1 else 0:=by
 rw[Ym hj,kindN_cat];congr 1;unfold wm;by_cases h:l[j].kind=k
 · rw[Yh h];simp[h]
 · rw[Yc h];simp[h]
theorem kindN_le (k:Int) (l:List Obli):wm k l<=l.length:=List.length_filter_le _ _
theorem topPermit_h (l:List Dt) (hl:l.length<=reachBytes):Holds prog 3 [strsP l] (.p (pB true)) []:=by
 have HW:=awake_h;have F0:=fresh_h 200000 Dn;have E0:(newE 200000).Iv 0:=new_iv;have HL:=lines_h l 40 Do hl;have hLs:∀q∈wi l 40,q.size<=4096:=fun q hq=>linesB_mem hq
 have hLn:=linesB_len l 40;generalize wi l 40=L at*;generalize newE 200000=X0 at*;have lL:(L.map fun s=>[pS s]).length=L.length:=Yb _;refine Ve ?_;show HoldsW _ _ [.p (strsP l)] [] _ _;refine qF (ts:=[2]) func3 Dh rfl rfl rfl ?_;refine M3 ?_;refine uW [] F0 ?_;refine M1 ?_;refine uZ [0,3] [(21000,16000),(21001,16001),(21002,16002),(21003,16003),(21004,16004)] ?_;change SW _ _ _ ⟨155,[(0,.p (strsP l)),(3,.ptr 16000 0)],engG X0 16000 16001 16002 16003 16004⟩;refine uR ?_;refine RI ?_;refine M1 ?_;refine uC (fun hc=>?_) (fun hc=>?_)
 · cases hc
 refine M9 ?_;refine uO HL ?_;refine M1 ?_;rw[lL];refine uB ?_;refine uZ [3,26,27,28] [(16000,16000),(16001,16001),(16002,16002),(16003,16003),(16004,16004)] ?_;refine qE (fun m s=>∃(k:Nat) (X:Eng),k<=L.length/\m=L.length-k/\X.Iv k/\s=⟨155,[(3,.ptr 16000 0),(26,.p (strsP L)),(27,.p (pI (L.length:Int))),(28,.p (pI (k:Int)))],engG X 16000 16001 16002 16003 16004⟩) L.length ⟨0,X0,Yl _,rfl,E0,rfl⟩ ?_;clear E0 F0
 rintro m s ⟨k,X,hk,rfl,hX,rfl⟩;refine uA ?_;by_cases hlt:k<L.length;rotate_left
 · rw[show decide ((k:Int)<(L.length:Int))=false by rw[Yi];omega];refine uC (fun hc=>?_) (fun hc=>?_)
   · cases hc
   refine qC ?_;refine uR ?_;refine uK HW ?_;exact Lv
 rw[show decide ((k:Int)<(L.length:Int))=true by rw[Yg];omega];refine uC (fun hc=>?_) (fun hc=>?_);rotate_left
 · cases hc
 refine qh ?_;refine uB ?_;obtain⟨q,hq⟩:∃q,q=L[k]:=⟨_,rfl⟩;have hqs:q.size<=4096:=by rw[hq];exact hLs _ (Yo hlt)
 have LX:=lineS_h X (hX.in_.ok Do) q hqs;have hX':(jw X q.data.toList).1.Iv (k+1):=hX.line hqs;refine uR ?_;refine qn qc rfl rfl (by rw[lL];omega) rfl ?_;rw[qw hlt,<-hq];refine M1 ?_;have HP:=parseQ_h q hqs;have PL:=permit_law X q.data.toList;have hOk:=fun o ho=>line_ok (q:=q) hqs (o:=o) ho
 have HSt:=store_h (jw X q.data.toList).1;have hg:=hX.in_.sto;have hg':=hX'.in_.sto;have HCa:=twoCas_h X.sto.cases (jw X q.data.toList).1.sto.cases (by have:=hg.g0.cases;omega) (by have:=hg'.g0.cases;omega) (fun c hc=>⟨by have:=(hg.g0.each c hc).nf;omega,by have:=hg.logs c hc;omega⟩) (fun c hc=>⟨by have:=(hg'.g0.each c hc).nf;omega,by have:=hg'.logs c hc;omega⟩);have HRo:=twoRol_h X.sto.roles (jw X q.data.toList).1.sto.roles (by have:=hg.g0.roles;omega) (by have:=hg'.g0.roles;omega);have HAl:=alike_h X.sto hg;have hr1:=hg.revs;have hr2:=hg'.revs;have hn1:=hg.ntcs;have hn2:=hg'.ntcs;generalize jw X q.data.toList=D at*;generalize lineW q.data.toList=O at*;refine uR ?_;refine uW [(16000,1000000),(16001,1000001),(16002,1000002),(16003,1000003),(16004,1000004)] (store_h X) ?_;refine M1 ?_;refine uZ [3,6,7,26,27,28] [(7,7),(16000,16000),(16001,16001),(16002,16002),(16003,16003),(16004,16004)] ?_;change SW _ _ _ ⟨155,[(3,.ptr 16000 0),(6,.p (pS q)),(7,.ptr 7 0),(26,.p (strsP L)),(27,.p (pI (L.length:Int))),(28,.p (pI (k:Int)))],(7,.cells (X.sto.pv.map .p))::engG X 16000 16001 16002 16003 16004⟩;refine uR ?_;refine uW [(16000,1000000),(16001,1000001),(16002,1000002),(16003,1000003),(16004,1000004)] LX ?_;refine M1 ?_;refine uZ [3,6,7,8,26,27,28] [(7,7),(16000,16000),(16001,16001),(16002,16002),(37000,16003),(37001,16004)] ?_;change SW _ _ _ ⟨155,[(3,.ptr 16000 0),(6,.p (pS q)),(7,.ptr 7 0),(8,.p (pS D.2)),(26,.p (strsP L)),(27,.p (pI (L.length:Int))),(28,.p (pI (k:Int)))],(7,.cells (X.sto.pv.map .p))::engG D.1 16000 16001 16002 16003 16004⟩;refine uR ?_;refine uW [(16000,1000000),(16001,1000001),(16002,1000002),(16003,1000003),(16004,1000004)] HSt ?_;refine M6 ?_;refine uK HP ?_;refine M1 ?_;refine uZ [3,7,8,9,10,11,26,27,28] [(7,7),(9,9),(10,10),(16000,16000),(16001,16001),(16002,16002),(16003,16003),(16004,16004)] ?_;change SW _ _ _ ⟨155,[(3,.ptr 16000 0),(7,.ptr 7 0),(8,.p (pS D.2)),(9,.ptr 9 0),(10,.ptr 10 0),(11,.p (pB O.isSome)),(26,.p (strsP L)),(27,.p (pI (L.length:Int))),(28,.p (pI (k:Int)))],(7,.cells (X.sto.pv.map .p))::(9,.cells (D.1.sto.pv.map .p))::(10,.cells ((O.getD noOp).pv.map .p))::engG D.1 16000 16001 16002 16003 16004⟩;refine Ko ?_;refine qR rfl rfl rfl rfl (HCa) rfl rfl ?_;refine Xz ?_;refine qR rfl rfl rfl rfl (HRo) rfl rfl ?_;refine Kb ?_;obtain⟨B,hB⟩:∃B,B=(bif (bif (bif eqB X.sto.cases D.1.sto.cases then X.sto.tick==D.1.sto.tick else false)then X.sto.ver==D.1.sto.ver else false)then eqB X.sto.roles D.1.sto.roles else false):=⟨_,rfl⟩;refine uZ [3,7,8,9,10,11,12,26,27,28] [(7,7),(9,9),(10,10),(16000,16000),(16001,16001),(16002,16002),(16003,16003),(16004,16004)] ?_;change SW _ _ _ ⟨155,[(3,.ptr 16000 0),(7,.ptr 7 0),(8,.p (pS D.2)),(9,.ptr 9 0),(10,.ptr 10 0),(11,.p (pB O.isSome)),(12,.p (pB (bif (bif (bif eqB X.sto.cases D.1.sto.cases then X.sto.tick==D.1.sto.tick else false)then X.sto.ver==D.1.sto.ver else false)then eqB X.sto.roles D.1.sto.roles else false))),(26,.p (strsP L)),(27,.p (pI (L.length:Int))),(28,.p (pI (k:Int)))],(7,.cells (X.sto.pv.map .p))::(9,.cells (D.1.sto.pv.map .p))::(10,.cells ((O.getD noOp).pv.map .p))::engG D.1 16000 16001 16002 16003 16004⟩;rw[<-hB];refine uA ?_;rcases PL with⟨hO,hD⟩|⟨o,hO,hlaw⟩
 · subst hO;subst hD;refine uC (fun hc=>?_) (fun hc=>?_);rotate_left
   · cases hc
   refine uR ?_;rw[show(wWhat.toList==(⟨#[119,104,97,116]⟩:Dt).toList)=true by rw[beqB];exact YC rfl];refine uS ?_;refine uK HAl ?_;refine M1 ?_;refine uC (fun hc2=>?_) (fun hc2=>?_)
   · cases hc2
   refine qh ?_;refine Lz ?_;refine⟨_,_,?_,qk [3,26,27,28] [(16000,16000),(16001,16001),(16002,16002),(16003,16003),(16004,16004)] rfl rfl,k+1,X,hlt,rfl,hX',by rw[qr hlt Do];rfl⟩;omega
 subst hO;refine uC (fun hc=>?_) (fun hc=>?_)
 · cases hc
 refine M8 ?_;refine uC (fun hc2=>?_) (fun hc2=>?_)
 · refine Lz ?_;refine VL ?_;omega
 have hcnt:=hlaw.resolve_left fun hs=>by
  obtain⟨e1,e2,e3,e4⟩:=hs;rw[qaz e1.symm,qaz e4.symm,e2,e3]at hB;simp at hB;rw[hB]at hc2;cases hc2
 clear hlaw
 obtain⟨hpm,hrv,hnt⟩:=hcnt;have ho:o.Ok:=hOk o rfl;have HA:=askS_h hX o;have HE:=evS_h hX ho;have hm:=rs_mem X.sto o;have hol:=rs_len X.sto o;have hsz:=hg.g0.sz;rw[zb]at HE;generalize rsC X.sto o=r at*;generalize askC X.sto o=g at*;refine qh ?_;(repeat refine qz ?_);refine qD 12 rfl Dh ?_
 refine qi (i:=0) (K:=[13]) Dh Dh rfl rfl (qf qc rfl EN) rfl ?_;refine qi (i:=1) (K:=[13]) Dh Dh rfl rfl (qf qc rfl EN) rfl ?_;refine qi (i:=2) (K:=[13]) Dh Dh rfl rfl (qf qc rfl EN) rfl ?_;refine qi (i:=3) (K:=[13]) Dh Dh rfl rfl (qf qc rfl EN) rfl ?_;refine zh 4 9 Dh ?_ ?_;refine qd rfl rfl rfl (qu rfl rfl rfl rfl (HA) rfl rfl rfl ?_);refine zh 5 9 Dh ?_ ?_;refine MO ?_;refine UR ?_;refine US ?_;refine UT ?_;refine Uo ?_;refine Xy ?_;refine UL ?_;refine Xy ?_;refine UP ?_;refine XH ?_;refine VX ?_;refine ?fk16_189;rotate_left;refine Xy ?_;refine Vv ?_;refine MO ?_;refine UR ?_;refine US ?_;refine UT ?_;refine UL ?_;refine Xy ?_;refine UP ?_;refine XH ?_;refine VX ?_;exact ?fk16_189
 refine Xy ?_;refine GL ?_;refine qd rfl rfl rfl (qu rfl rfl rfl rfl (HA) rfl rfl rfl ?_);refine Vv ?_;refine MO ?_;refine UR ?_;refine US ?_;refine UT ?_;refine UL ?_;refine Xy ?_;refine UP ?_;refine XH ?_;refine VX ?_;exact ?fk16_189
 change SW _ _ _ ⟨155,[(3,.ptr 16000 0),(7,.ptr 7 0),(8,.p (pS D.2)),(9,.ptr 9 0),(13,.ptr 13 0),(14,.p (pI 0)),(26,.p (strsP L)),(27,.p (pI (L.length:Int))),(28,.p (pI (k:Int)))],(7,.cells (X.sto.pv.map .p))::(9,.cells (D.1.sto.pv.map .p))::(13,.cells [.p (mkP r.m),.p (zk r.obls)])::engG D.1 16000 16001 16002 16003 16004⟩;have hPX:(FloatKind.f64.format.order (hb r.m.1) 4607182418800017408==some Ordering.eq&&FloatKind.f64.format.order (hb r.m.2) 0==some Ordering.eq)=decide (r.m=(2,0)):=zu (b:=(2,0)) hm Di;have hDen:(FloatKind.f64.format.order (hb r.m.1) 0==some Ordering.eq&&FloatKind.f64.format.order (hb r.m.2) 4607182418800017408==some Ordering.eq)=decide (r.m=(0,2)):=zu (b:=(0,2)) hm Di;have hNA:(FloatKind.f64.format.order (hb r.m.1) 0==some Ordering.eq&&FloatKind.f64.format.order (hb r.m.2) 0==some Ordering.eq)=decide (r.m=(0,0)):=zu (b:=(0,0)) hm Di;(repeat refine qz ?_)
 refine SW.mono (Q:=fun e st=>e=.normal/\Wk st ⟨155,[(3,.ptr 16000 0),(7,.ptr 7 0),(8,.p (pS D.2)),(9,.ptr 9 0),(13,.ptr 13 0),(110,.p (pB false)),(26,.p (strsP L)),(27,.p (pI (L.length:Int))),(28,.p (pI (k:Int)))],(7,.cells (X.sto.pv.map .p))::(9,.cells (D.1.sto.pv.map .p))::(13,.cells [.p (mkP r.m),.p (zk r.obls)])::engG D.1 16000 16001 16002 16003 16004⟩) ?_ ?_
 · refine uR ?_;rw[hPX];rcases hpm with hpm|⟨hgl,hpm⟩
   · rw[YC hpm];refine M1 ?_;exact VY
   rw[YE (show¬r.m=(2,0)by rcases hpm with h|h<;>rw[h]<;>decide)];refine uS ?_;refine RN ?_;refine uS ?_;rw[hDen];rcases hpm with hpm|hpm
   · rw[YC hpm];refine M1 ?_;exact VY
   · rw[YE (show¬r.m=(0,2)by rw[hpm];decide)];refine uS ?_;rw[hNA,YC hpm];refine M1 ?_;exact VY
 rintro e st ⟨rfl,hw⟩;refine V6 ?_;clear hw
 refine uC (fun hc3=>?_) (fun hc3=>?_)
 · cases hc3
 refine M8 ?_;have lo:(r.obls.map Obli.pv).length=r.obls.length:=Yb _;refine uR ?_;rw[lo];refine qe ?_;refine uB ?_;refine uZ [3,7,8,9,15,16,26,27,28,112,113,114] [(7,7),(9,9),(16000,16000),(16001,16001),(16002,16002),(16003,16003),(16004,16004)] ?_;refine qE (fun m s=>∃(j:Nat),j<=r.obls.length/\m=r.obls.length-j/\s=⟨155,[(3,.ptr 16000 0),(7,.ptr 7 0),(8,.p (pS D.2)),(9,.ptr 9 0),(15,.p (pI (wm 3 (r.obls.take j):Int))),(16,.p (pI (wm 4 (r.obls.take j):Int))),(26,.p (strsP L)),(27,.p (pI (L.length:Int))),(28,.p (pI (k:Int))),(112,.p (zk r.obls)),(113,.p (pI (r.obls.length:Int))),(114,.p (pI (j:Int)))],(7,.cells (X.sto.pv.map .p))::(9,.cells (D.1.sto.pv.map .p))::engG D.1 16000 16001 16002 16003 16004⟩) r.obls.length ⟨0,Yl _,rfl,rfl⟩ ?_;rintro m s ⟨j,hj,rfl,rfl⟩;refine uA ?_;by_cases hj2:j<r.obls.length
 · rw[show decide ((j:Int)<(r.obls.length:Int))=true by rw[Yg];omega];refine uC (fun hc4=>?_) (fun hc4=>?_);rotate_left
   · cases hc4
   refine qh ?_;refine uB ?_;have h3:=kindN_take (k:=3) hj2;have h4:=kindN_take (k:=4) hj2;have z3:=kindN_le 3 (r.obls.take j);have z4:=kindN_le 4 (r.obls.take j);have zt:(r.obls.take j).length<=r.obls.length:=by rw[Yd];omega
   obtain⟨x,hx⟩:∃x,x=r.obls[j]:=⟨_,rfl⟩;rw[<-hx]at h3 h4;refine uR ?_;refine qn qc rfl rfl (by rw[lo];omega) rfl ?_;rw[qw hj2,<-hx];refine M7 ?_;by_cases k3:x.kind=3
   · rw[Yh k3]at h3;rw[Yc Do]at h4;rw[show(x.kind==3)=true by simp[k3]];refine uC (fun hc5=>?_) (fun hc5=>?_);rotate_left
     · cases hc5
     refine uR ?_;rw[qr (n:=1000000) Do Do];refine M7 ?_;rw[show(x.kind==4)=false by simp[k3]];refine uC (fun hc6=>?_) (fun hc6=>?_)
     · cases hc6
     refine M8 ?_;refine Vp ?_;omega
   · rw[Yc k3]at h3;rw[show(x.kind==3)=false by simp[k3]];refine uC (fun hc5=>?_) (fun hc5=>?_)
     · cases hc5
     refine M8 ?_;by_cases k4:x.kind=4
     · rw[Yh k4]at h4;rw[show(x.kind==4)=true by simp[k4]];refine uC (fun hc6=>?_) (fun hc6=>?_);rotate_left
       · cases hc6
       refine uR ?_;rw[qr (n:=1000000) Do Do];refine M7 ?_;refine Vp ?_;omega
     · rw[Yc k4]at h4;rw[show(x.kind==4)=false by simp[k4]];refine uC (fun hc6=>?_) (fun hc6=>?_)
       · cases hc6
       refine M8 ?_;refine Vp ?_;omega
 rw[show decide ((j:Int)<(r.obls.length:Int))=false by rw[Yi];omega];refine uC (fun hc4=>?_) (fun hc4=>?_)
 · cases hc4
 refine qC ?_;rw[YL Do];have z3:=kindN_le 3 r.obls;have z4:=kindN_le 4 r.obls;have lX:(X.sto.revs.map Rev.pv).length=X.sto.revs.length:=Yb _;have lD:(D.1.sto.revs.map Rev.pv).length=D.1.sto.revs.length:=Yb _;have nX:(X.sto.ntcs.map Ntc.pv).length=X.sto.ntcs.length:=Yb _;have nD:(D.1.sto.ntcs.map Ntc.pv).length=D.1.sto.ntcs.length:=Yb _;have w2:IntKind.i64.wrap ((D.1.sto.ntcs.length:Int)-(X.sto.ntcs.length:Int))=(wm 4 r.obls:Int):=by rw[YB _ Do];omega
 refine uR ?_;by_cases hgl:D.2=qah
 · rw[Yh hgl]at hrv;have w1:IntKind.i64.wrap ((D.1.sto.revs.length:Int)-(X.sto.revs.length:Int))=((wm 3 r.obls+1:Nat):Int):=by rw[YB _ Do];omega
   refine RN ?_;refine qe ?_;refine uC (fun hc5=>?_) (fun hc5=>?_);rotate_left
   · cases hc5
   refine uR ?_;rw[qr (n:=1000000) Do Do];refine M6 ?_;rw[lD,lX,w1,bne_self_eq_false];refine uS ?_;rw[nD,nX,w2,bne_self_eq_false];refine M1 ?_;refine uC (fun hc6=>?_) (fun hc6=>?_)
   · cases hc6
   refine M8 ?_;refine VL ?_;omega
 · rw[Yc hgl]at hrv;have w1:IntKind.i64.wrap ((D.1.sto.revs.length:Int)-(X.sto.revs.length:Int))=(wm 3 r.obls:Int):=by rw[YB _ Do];omega
   rw[show(D.2.toList==(⟨#[103,108,97,115,115]⟩:Dt).toList)=false by rw[beqB];exact YE hgl];refine qe ?_;refine uC (fun hc5=>?_) (fun hc5=>?_)
   · cases hc5
   refine M9 ?_;rw[lD,lX,w1,bne_self_eq_false];refine uS ?_;rw[nD,nX,w2,bne_self_eq_false];refine M1 ?_;refine uC (fun hc6=>?_) (fun hc6=>?_)
   · cases hc6
   refine M8 ?_;refine VL ?_;omega
theorem opens_strs:Opens prog 22 1 (rSl rStr 1):=opens_sl underlying22 Dh EY Do opens_tstr
theorem str_pv {w:World} {cs:List Value} {x:Dt} (h:rStr w cs x):rPV (fun _=>True) w cs [pS x]:=by
 obtain⟨rfl,_⟩:=h;refine⟨rfl,fun j s u hs hu=>?_⟩
 match j with
 |0=>cases hs;cases hu;exact .v rfl
 |j+1=>simp at hs
theorem strs_rel {w:World} {A:Option Addr} {c:Nat} {l:List Dt} (h:SlAt rStr 1 w A l) (hl:l.length<=c) (hc:l.length<=reachBytes/\c<=maxLen):RelP (fun _=>True) w (strsP l) (.slice A l.length c):=
 rel_sl h hl hc (fun _=>⟨rfl,rfl⟩) fun x _ cs hcs=>str_pv hcs
inductive RelsP (w:World):List PV->List Value->Prop
 |nil:RelsP w [] []
 |cons {x:PV} {u:Value} {xs:List PV} {us:List Value} (h:RelP (fun _=>True) w x u) (r:RelsP w xs us):RelsP w (x::xs) (u::us)
theorem RelsP.get {w:World} {xs:List PV} {us:List Value} (h:RelsP w xs us):us.length=xs.length/\∀(i:Nat) (s:PV) (u:Value),xs[i]?=some s->us[i]?=some u->RelP (fun _=>True) w s u:=by
 induction h with
 |nil=>exact⟨rfl,fun i s u h=>by simp at h⟩
 |cons h r ih=>
  refine⟨by simp[ih.1],fun i s u hs hu=>?_⟩;cases i with
  |zero=>simp at hs hu;subst hs;subst hu;exact h
  |succ i=>exact ih.2 i s u (by simpa using hs) ES
theorem law_callsG {P:Program} {f:FuncId} {args:List PV} {us:List Value} {W:World} (hg:GlOk (entry W) fun _=>False) (H:Holds P f args (.p (.v (.bool true))) []) (hr:RelsP W args us):Calls P f us.toArray W fun e w'=>e=.returned (.bool true)/\Below W.heap.size W w':=by
 obtain⟨h1,h2⟩:=hr.get;refine(H.2 W (fun _=>False) us ⟨fun _ h=>h.elim,hg⟩ h1 fun i s u hs hu=>(h2 i s u hs hu).weak fun _ _ _=>fun h=>h).mono fun e w' ⟨v,γ,he,hb,_,hv⟩=>?_
 have:=hv.v_inv;subst this;exact⟨he,hb⟩
end
section
open Go.ChangeShapes Go.WideShapes Go.ChangeAt Go.RowKit
theorem law_liftL {H:Type} {enc:TypeId×Value->H} {C:Checked} {os:Os} {f:FuncId} {fn:Func} {s:ChangeSpec} {bt:TypeId} {laid:List (String×DataW Unit)}
 (own:ownKnob C.prog.godebug=none) (started:os.Started) (noInit:C.prog.inits.idxOf? f=none) (hfn:C.prog.funcs[f]?=some fn)
 (witness:∃(w:World) (tape:Tape) (i:Input),w.os=os/\(w.forCall tape i).Shaped C.prog/\i.vars=[]/\Input.okWide C.prog (w.forCall tape i) .any w.heap.size f i/\
  ((s.pre enc C.prog fn [] false (w.forCall tape i).memory i.args/\laidMetH C.prog laid (w.forCall tape i).memory)/\sizedMet enc C.prog fn (OpenSpec.ofChange s) false (w.forCall tape i).memory i.args)/\({}:Assume).holds C.prog (lone (Frame.enter C.prog f i.args .normal) [] (w.forCall tape i)))
 (hl:laidOutB C.prog=true) (hts:∀t∈fn.params.toList,C.prog.readableRec t=true/\t<C.prog.types.size) (hvars:s.vars=[]) (hvt:s.plain.varTypes C.prog=[])
 (hspec:∀(W:World) (args:Array Value) (ds:List (DataW H)) (ps:List MemPlace),DataW.TrodAll enc C.prog W 0 (fun _=>true) true fn.params.toList args.toList ds ps->s.fn H ds={results:=[.lit (.bool true)],args:=ds})
 (hres:fn.resultTypes=#[bt]) (hbt:C.prog.underlying bt=some .bool)
 (walk:∀(W:World) (base:Nat) (args:Array Value) (ds:List (DataW H)) (ps:List MemPlace),laidMetH C.prog laid W->
  (∀(j:Nat) t v,fn.params[j]?=some t->args[j]?=some v->Value.okWide C.prog W .any base t v)->
  DataW.TrodAll enc C.prog W 0 (fun _=>true) true fn.params.toList args.toList ds ps->
  (∀n∈DataW.weightsEach C.prog fn.params.toList ds,n<=reachBytes)->
  Calls C.prog f args W fun e W'=>e=.returned (.bool true)/\Below W.heap.size W W'):
 ReturnsInHanded {} C os f .any (fun w args=>(s.pre enc C.prog fn [] false w args/\laidMetH C.prog laid w)/\sizedMet enc C.prog fn (OpenSpec.ofChange s) false w args) (s.post enc C.prog fn false true false false):=by
 refine returnsInHanded_of_change_and (X:=fun w _=>laidMetH C.prog laid w) (fun _ _ _ hh h=>h.of_heap hh) own started noInit hfn witness ?_;intro W base args ds gs before hval hW _ hsz hL _;have hlt:∀p∈before,p.block<W.heap.size:=fun p hp=>hW.lt p hp
 have hW0:=hW;obtain⟨p,q,hA,hV,rfl,hz,hn⟩:=hW0;rw[hvars]at hV;obtain⟨rfl,rfl⟩:=trodVars_none hV;have hsp:=hspec W args ds p hA;refine(walk W base args ds p hL hval hA ?_).mono fun e W' ⟨he,hb⟩=>?_
 · intro n hn;rw[hvt,Y9,Y9]at hsz;exact YY (YF.1 hsz n hn)
 · subst he;refine⟨_,rfl,ds,[],p++[],[],p,[],hW,?_,?_,?_,World.keptBut_mono (fun x hx=>⟨hx,Or.inr (Or.inl EV)⟩) (hb.frame (·∈p++[])),fun h=>by cases h⟩
   · rw[Y9,hsp,hres];exact trodAll_mk1 (shut_bool hbt _)
   · rw[Y9,hsp];exact trodAll_below hl hb hts (fun x hx=>hlt x EV) (fun x hx=>by simpa using hlt x EV) hA
   · rw[Y9,hsp,hvars];rfl
theorem jO {P:Program} {x:String×DataW Unit} {l:List (String×DataW Unit)} {W:World} (h:laidMet P (x::l) W):laidMet P l W:=by
 obtain⟨ps,⟨g,t,cs,fuel,p,q,h1,h2,h3,h4,h5,h6⟩,hn,hb⟩:=h;subst h6;exact⟨q,h5,(List.nodup_append.1 hn).2.1,fun b off hm=>hb b off (List.mem_append_right _ hm)⟩
theorem block_of_tab {P:Program} {W:World} {name:String} {k:IntKind} {zs:List Int} {g:Nat} (h:Lib.TabIs P W name k zs) (hg:P.globalNamed name=some g) {us:List Value} (hu:us=zs.map fun z=>Value.int k z):g<W.heap.size/\∃ty m,W.heap[g]?=some (.cells us.toArray ty m):=by
 unfold Lib.TabIs World.var? at h;rw[hg]at h;simp only[Option.bind_some]at h;split at h
 · rename_i cs ty m hb;cases h;exact⟨(Array.getElem?_eq_some_iff.1 hb).1,ty,m,by rw[hb,hu]⟩
 · cases h
theorem err_of_reads {P:Program} {W:World} {name nm:String} {g t:Nat} {ms:Array (String×TypeId)} {d:DataW Unit} (hg:P.globalNamed name=some g) (ht:(P.globals[g]?).map (·.type)=some t) (hu:P.underlying t=some (.interface ms)) (h:Lib.VarReads P W name (.iface nm d)):
 g<W.heap.size/\∃ev ty m,W.heap[g]?=some (.cells #[ev] ty m)/\errV ev=true:=by
 obtain⟨g',t',cs,fuel,p,h1,h2,h3,h4⟩:=h;rw[hg]at h1;cases h1;rw[ht]at h2;cases h2;have hc:∃u v,cs.toList=[.iface u v]:=by
  cases fuel with
  |zero=>cases h4
  |succ fuel=>
   unfold DataW.trod at h4;rw[hu]at h4;generalize cs.toList=l at h4
   match l,h4 with
   |[.iface u v],_=>exact⟨u,v,rfl⟩
   |[.nilIface],h4=>simp at h4
   |[],h4=>simp at h4
   |_::_::_,h4=>simp at h4
 obtain⟨u,v,hc⟩:=hc;have hc':cs=#[.iface u v]:=Xw.1 hc;subst hc';unfold World.var? at h3;rw[hg]at h3;simp only[Option.bind_some]at h3;split at h3
 · rename_i cs ty m hb;cases h3;exact⟨(Array.getElem?_eq_some_iff.1 hb).1,_,ty,m,hb,rfl⟩
 · cases h3
end
section
open Go.RowKit
theorem own_none:ownKnob prog.godebug=none:=by kernel_rfl
theorem gl_of_laid {rest:List (String×DataW Unit)} {W:World} (h:laidMet prog (("math/bits.deBruijn32tab",Rows.laid_math_bits_deBruijn32tab)::("math/bits.deBruijn64tab",Rows.laid_math_bits_deBruijn64tab)::("internal/strconv.uint64pow10",Rows.laid_internal_strconv_uint64pow10)::("strconv.ErrRange",Rows.laid_strconv_ErrRange)::rest) W):GlOk (entry W) fun _=>False:=by
 have b0:=block_of_tab (g:=4) (us:=[.int .u8 0,.int .u8 1,.int .u8 28,.int .u8 2,.int .u8 29,.int .u8 14,.int .u8 24,.int .u8 3,.int .u8 30,.int .u8 22,.int .u8 20,.int .u8 15,.int .u8 25,.int .u8 17,.int .u8 4,.int .u8 8,.int .u8 31,.int .u8 27,.int .u8 13,.int .u8 23,.int .u8 21,.int .u8 19,.int .u8 16,.int .u8 7,.int .u8 26,.int .u8 12,.int .u8 18,.int .u8 6,.int .u8 11,.int .u8 5,.int .u8 10,.int .u8 9]) (Lib.tabIs_of_head (k:=.u8) (zs:=[0,1,28,2,29,14,24,3,30,22,20,15,25,17,4,8,31,27,13,23,21,19,16,7,26,12,18,6,11,5,10,9]) (g:=4) (t:=407) (e:=5) (n:=32) Dh Dh underlying407 underlying5 Dh Dh h) Dh rfl;have b1:=block_of_tab (g:=5) (us:=[.int .u8 0,.int .u8 1,.int .u8 56,.int .u8 2,.int .u8 57,.int .u8 49,.int .u8 28,.int .u8 3,.int .u8 61,.int .u8 58,.int .u8 42,.int .u8 50,.int .u8 38,.int .u8 29,.int .u8 17,.int .u8 4,.int .u8 62,.int .u8 47,.int .u8 59,.int .u8 36,.int .u8 45,.int .u8 43,.int .u8 51,.int .u8 22,.int .u8 53,.int .u8 39,.int .u8 33,.int .u8 30,.int .u8 24,.int .u8 18,.int .u8 12,.int .u8 5,.int .u8 63,.int .u8 55,.int .u8 48,.int .u8 27,.int .u8 60,.int .u8 41,.int .u8 37,.int .u8 16,.int .u8 46,.int .u8 35,.int .u8 44,.int .u8 21,.int .u8 52,.int .u8 32,.int .u8 23,.int .u8 11,.int .u8 54,.int .u8 26,.int .u8 40,.int .u8 15,.int .u8 34,.int .u8 20,.int .u8 31,.int .u8 10,.int .u8 25,.int .u8 14,.int .u8 19,.int .u8 9,.int .u8 13,.int .u8 8,.int .u8 7,.int .u8 6]) (Lib.tabIs_of_head (k:=.u8) (zs:=[0,1,56,2,57,49,28,3,61,58,42,50,38,29,17,4,62,47,59,36,45,43,51,22,53,39,33,30,24,18,12,5,63,55,48,27,60,41,37,16,46,35,44,21,52,32,23,11,54,26,40,15,34,20,31,10,25,14,19,9,13,8,7,6]) (g:=5) (t:=408) (e:=5) (n:=64) Dh Dh underlying408 underlying5 Dh Dh (jO h)) Dh rfl;have b2:=block_of_tab (g:=3) (us:=[.int .u64 1,.int .u64 10,.int .u64 100,.int .u64 1000,.int .u64 10000,.int .u64 100000,.int .u64 1000000,.int .u64 10000000,.int .u64 100000000,.int .u64 1000000000,.int .u64 10000000000,.int .u64 100000000000,.int .u64 1000000000000,.int .u64 10000000000000,.int .u64 100000000000000,.int .u64 1000000000000000,.int .u64 10000000000000000,.int .u64 100000000000000000,.int .u64 1000000000000000000,.int .u64 10000000000000000000]) (Lib.tabIs_of_head (k:=.u64) (zs:=[1,10,100,1000,10000,100000,1000000,10000000,100000000,1000000000,10000000000,100000000000,1000000000000,10000000000000,100000000000000,1000000000000000,10000000000000000,100000000000000000,1000000000000000000,10000000000000000000]) (g:=3) (t:=371) (e:=97) (n:=20) Dh Dh underlying371 underlying97 Dh Dh (jO (jO h))) Dh rfl;have bE:=err_of_reads (g:=2) (t:=184) Dh Dh underlying184 (Lib.laidMet.reads (jO (jO (jO h))) (List.mem_cons_self ..));refine⟨?_,fun g hg=>?_⟩;rotate_left
 · have e:g=2:=by simpa [ETab]using hg
   subst e;exact⟨bE.1,fun h=>h,bE.2⟩
 intro g us hg;simp only[GTab,qL]at hg
 repeat' split at hg
 all_goals first|cases hg;done|skip
 all_goals(subst_vars;cases hg)
 all_goals first|exact⟨b0.1,fun h=>h,b0.2⟩|exact⟨b1.1,fun h=>h,b1.2⟩|exact⟨b2.1,fun h=>h,b2.2⟩
noncomputable def lowB:Nat:=(World.holding prog default ⟨#[],#[],[]⟩).heap.size
noncomputable def worldB (os:Os):World:=
 let w0:=World.holding prog os ⟨#[.cells #[.string ⟨#[118,97,108,117,101,32,111,117,116,32,111,102,32,114,97,110,103,101]⟩] 382,.cells #[.string ⟨#[105,110,118,97,108,105,100,32,115,121,110,116,97,120]⟩] 382],#[],[]⟩
 {w0 with heap:=((((((((((w0.heap).modify 4 fun| .cells _ t frozen=>.cells #[.int .u8 0,.int .u8 1,.int .u8 28,.int .u8 2,.int .u8 29,.int .u8 14,.int .u8 24,.int .u8 3,.int .u8 30,.int .u8 22,.int .u8 20,.int .u8 15,.int .u8 25,.int .u8 17,.int .u8 4,.int .u8 8,.int .u8 31,.int .u8 27,.int .u8 13,.int .u8 23,.int .u8 21,.int .u8 19,.int .u8 16,.int .u8 7,.int .u8 26,.int .u8 12,.int .u8 18,.int .u8 6,.int .u8 11,.int .u8 5,.int .u8 10,.int .u8 9] t frozen|o=>o)).modify 5 fun| .cells _ t frozen=>.cells #[.int .u8 0,.int .u8 1,.int .u8 56,.int .u8 2,.int .u8 57,.int .u8 49,.int .u8 28,.int .u8 3,.int .u8 61,.int .u8 58,.int .u8 42,.int .u8 50,.int .u8 38,.int .u8 29,.int .u8 17,.int .u8 4,.int .u8 62,.int .u8 47,.int .u8 59,.int .u8 36,.int .u8 45,.int .u8 43,.int .u8 51,.int .u8 22,.int .u8 53,.int .u8 39,.int .u8 33,.int .u8 30,.int .u8 24,.int .u8 18,.int .u8 12,.int .u8 5,.int .u8 63,.int .u8 55,.int .u8 48,.int .u8 27,.int .u8 60,.int .u8 41,.int .u8 37,.int .u8 16,.int .u8 46,.int .u8 35,.int .u8 44,.int .u8 21,.int .u8 52,.int .u8 32,.int .u8 23,.int .u8 11,.int .u8 54,.int .u8 26,.int .u8 40,.int .u8 15,.int .u8 34,.int .u8 20,.int .u8 31,.int .u8 10,.int .u8 25,.int .u8 14,.int .u8 19,.int .u8 9,.int .u8 13,.int .u8 8,.int .u8 7,.int .u8 6] t frozen|o=>o)).modify 3 fun| .cells _ t frozen=>.cells #[.int .u64 1,.int .u64 10,.int .u64 100,.int .u64 1000,.int .u64 10000,.int .u64 100000,.int .u64 1000000,.int .u64 10000000,.int .u64 100000000,.int .u64 1000000000,.int .u64 10000000000,.int .u64 100000000000,.int .u64 1000000000000,.int .u64 10000000000000,.int .u64 100000000000000,.int .u64 1000000000000000,.int .u64 10000000000000000,.int .u64 100000000000000000,.int .u64 1000000000000000000,.int .u64 10000000000000000000] t frozen|o=>o)).modify 2 fun| .cells _ t frozen=>.cells #[.iface 380 (.pointer (some ⟨lowB+0,0,none⟩))] t frozen|o=>o)).modify 1 fun| .cells _ t frozen=>.cells #[.iface 380 (.pointer (some ⟨lowB+1,0,none⟩))] t frozen|o=>o)}
theorem worldB_met (os:Os) (args:Array Value):laidMet prog [("math/bits.deBruijn32tab",Rows.laid_math_bits_deBruijn32tab),("math/bits.deBruijn64tab",Rows.laid_math_bits_deBruijn64tab),("internal/strconv.uint64pow10",Rows.laid_internal_strconv_uint64pow10),("strconv.ErrRange",Rows.laid_strconv_ErrRange),("strconv.ErrSyntax",Rows.laid_strconv_ErrSyntax)] ((worldB os).forCall (fun _ _=>0) ⟨#[],args,[]⟩).memory:=
 laidMet_of_run' 100 Dh Dh
end
end Go.Proofs.YtblgnefkgkchhaaGreatDoor
