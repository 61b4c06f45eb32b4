/- Part 10. -/
import Derived.Test.YtblgnefkgkchhaaGreatDoorPk9
set_option maxHeartbeats 4000000
set_option linter.unusedSimpArgs false
set_option linter.unusedVariables false
namespace Go.Proofs.YtblgnefkgkchhaaGreatDoor
open _root_.Go.Proofs.Tryz
open Go.RowKit
def rsC (s:Sto) (o:Opn):Rs:=(jp s.pol (askC s o)).1
structure GdOk (s:Sto) (o:Opn):Prop where
 rdy:rdyC s o=0
 pars:o.kind=7->(zk o.text.data.toList).2.1=0
 ev:(jp s.pol (askC s o)).2=0
 over:overC (actR s o (rsC s o)).1=false
theorem GdOk.form {s:Sto} {o:Opn} (h:GdOk s o):wm o=true:=rdy_form h.rdy
theorem gd_cases (s:Sto) (o:Opn):(∃e a:Int,e≠0/\gdC s o=(s,badR e a,noDcd,e))\/(GdOk s o/\gdC s o=((actR s o (rsC s o)).1,(actR s o (rsC s o)).2.1,(actR s o (rsC s o)).2.2,0)):=by
 by_cases h1:(preC s o).1≠0
 · exact .inl ⟨_,_,h1,by unfold gdC;rw[Yi h1]⟩
 by_cases h2:(jp s.pol (askC s o)).2≠0
 · exact .inl ⟨_,_,h2,by unfold gdC;rw[Yc h1,Yi h2]⟩
 by_cases h3:overC (actR s o (jp s.pol (askC s o)).1).1=true
 · exact .inl ⟨6,0,by decide,by unfold gdC;rw[Yc h1,Yc h2,Yi h3]⟩
 refine .inr ⟨?_,by unfold gdC rsC;rw[Yc h1,Yc h2,Yc h3]⟩;have hp:(preC s o).1=0:=Classical.not_not.1 h1;unfold preC at hp;by_cases hr:rdyC s o≠0
 · rw[Yi hr]at hp;exact absurd hp hr
 · rw[Yc hr]at hp;refine⟨Classical.not_not.1 hr,fun hk=>?_,Classical.not_not.1 h2,by unfold rsC;simpa using h3⟩;rw[Yi hk]at hp;exact hp
def goneE (x:Eng) (o:Opn):Eng:={x with sto:=(actR x.sto o (rsC x.sto o)).1,log:=x.log++[(actR x.sto o (rsC x.sto o)).2.2],recs:=x.recs++[recW x.chain o],chain:=chainW x.chain (recW x.chain o),disk:=x.disk++jF (recW x.chain o)}
theorem do_cases (x:Eng) (o:Opn):(∃e a:Int,e≠0/\doE x o=(x,badR e a))\/(GdOk x.sto o/\doE x o=(goneE x o,(actR x.sto o (rsC x.sto o)).2.1)):=by
 rcases gd_cases x.sto o with⟨e,a,he,hg⟩|⟨hk,hg⟩
 · refine .inl ⟨e,a,he,?_⟩;unfold doE;dsimp only;rw[hg,Yi he]
 · unfold doE;dsimp only;rw[hg,Yc DQ];split
   · exact .inl ⟨8,0,by decide,rfl⟩
   · exact .inr ⟨hk,rfl⟩
theorem qaR (x:Eng) (q:Bs):(qaa q=none/\zy x q=(x,wWhat))\/∃o,qaa q=some o/\((∃e a:Int,e≠0/\zy x q=(x,ansW (badR e a)))\/(GdOk x.sto o/\zy x q=(goneE x o,ansW (actR x.sto o (rsC x.sto o)).2.1))):=by
 unfold zy;cases h:qaa q with
 |none=>exact .inl ⟨rfl,rfl⟩
 |some o=>
  refine .inr ⟨o,rfl,?_⟩;rcases do_cases x o with⟨e,a,he,hd⟩|⟨hk,hd⟩
  · exact .inl ⟨e,a,he,by simp only[hd]⟩
  · exact .inr ⟨hk,by simp only[hd]⟩
theorem dec_pos (u:Nat):0<(decF 20 u).length:=by
 rw[show decF 20 u=(bif Nat.blt u 10 then [UInt8.ofNat (48+u)]else decF 19 (u/10)++[UInt8.ofNat (48+u%10)])from rfl];cases Nat.blt u 10<;>simp
theorem itoa_pos (n:Int):0<(itoaB n).size:=by
 show 0<(qbd n).length;unfold qbd;split
 · exact dec_pos _
 · exact Nat.succ_pos _
theorem ans_bad {e a:Int} (he:e≠0):ansW (badR e a)=wDenied++mkN (0,0)\/∃t:DT,0<t.size/\ansW (badR e a)=wError++t:=by
 unfold ansW badR;dsimp only;split
 · exact .inl rfl
 · split
   · refine .inr ⟨itoaB e++(wAt++itoaB a),?_,?_⟩
     · rw[ByteArray.size_append];have:=itoa_pos e;omega
     · simp only[ByteArray.append_assoc]
   · exact .inr ⟨_,itoa_pos e,rfl⟩
theorem brk_mark {s:Sto} {o:Opn} {m:Mk} (h:brkC s o m=true):o.glass=true/\(m=(0,2)\/m=(0,0))/\hasC s.roles o.subj jw=true:=by
 unfold brkC at h;simp only[Yp,Xm,Yf]at h;exact⟨h.1,h.2.1,h.2.2.1⟩
theorem ans_act (s:Sto) (o:Opn) (r:Rs):
 (r.m=(2,0)/\brkC s o r.m=false/\(ansW (actR s o r).2.1=wOk\/(∃t,ansW (actR s o r).2.1=wOkB++t)\/ansW (actR s o r).2.1=wHidden))\/(brkC s o r.m=true/\ansW (actR s o r).2.1=jw)\/(r.m≠(2,0)/\brkC s o r.m=false/\ansW (actR s o r).2.1=wDenied++mkN r.m):=by
 unfold actR;dsimp only;by_cases hm:r.m=(2,0)
 · have hg:brkC s o r.m=false:=by
    cases hb:brkC s o r.m with
    |false=>rfl
    |true=>
     have:=(brk_mark hb).2.1;rw[hm]at this;rcases this with h|h<;>cases h
   refine .inl ⟨hm,hg,?_⟩;rw[hg];have hd:(decide (r.m=(2,0))||false)=true:=by simp[hm]
   simp only[hd,if_true];unfold ansW;dsimp only;rw[Yc (fun h=>absurd h.1 DO),Yc (fun h=>h.1 rfl),Yc (fun h=>h rfl),Yc Bool.false_ne_true];split
   · exact .inr (.inr rfl)
   · repeat' split
     all_goals first|exact .inl rfl|exact .inr (.inl ⟨_,rfl⟩)
 · cases hb:brkC s o r.m with
   |true=>
    refine .inr (.inl ⟨rfl,?_⟩);have hd:(decide (r.m=(2,0))||true)=true:=by simp
    simp only[hd,if_true];unfold ansW;dsimp only;rw[Yc (fun h=>absurd h.1 DO),Yc (fun h=>h.1 rfl),Yc (fun h=>h rfl),Yi rfl]
   |false=>
    refine .inr (.inr ⟨hm,rfl,?_⟩);have hd:(decide (r.m=(2,0))||false)=false:=by simp[hm]
    simp only[hd,YC,if_false];unfold ansW;dsimp only;rw[Yi ⟨rfl,hm⟩]
theorem ba_ext {a b:DT} (h:a=b):a.data.toList=b.data.toList:=by rw[h]
theorem ba_head (a b:DT):(a++b).data.toList=a.data.toList++b.data.toList:=by
 rw[ByteArray.data_append,Array.toList_append]
theorem ba_take (a:DT) (n:Nat):(a.extract 0 n).data.toList=a.data.toList.take n:=by
 rw[ByteArray.data_extract,Array.toList_extract];simp
def qbm (a:DT):Bool:=decide (a=wWhat)||(decide (6<a.size)&&decide (a.extract 0 6=wError))
theorem ba_eq {a b:DT} (h:a.data.toList=b.data.toList):a=b:=by
 obtain⟨⟨a⟩⟩:=a;obtain⟨⟨b⟩⟩:=b;have h':a=b:=h;rw[h']
theorem told_err {t:DT} (h:0<t.size):qbm (wError++t)=true:=by
 unfold qbm;have h1:6<(wError++t).size:=by
  rw[ByteArray.size_append];have:wError.size=6:=rfl
  omega
 have h2:(wError++t).extract 0 6=wError:=by
  apply ba_eq;rw[ba_take,ba_head];rfl
 rw[Yz h1,Yz h2];simp
theorem told_no {a t:DT} (hs:a.data.toList.take 6++t.data.toList.take (6-a.size)≠wError.data.toList) (hw:∀u:List UInt8,a.data.toList++u≠wWhat.data.toList):qbm (a++t)=false:=by
 unfold qbm;have h1:a++t≠wWhat:=fun h=>hw _ (by rw[<-ba_head,h])
 have h2:(a++t).extract 0 6≠wError:=fun h=>hs (by
  rw[<-h,ba_take,ba_head,List.take_append];rfl)
 rw[YB h1,YB h2];simp
theorem told_ok (t:DT):qbm (wOkB++t)=false:=told_no (fun h=>by cases h) (fun u h=>by cases h)
theorem told_den (t:DT):qbm (wDenied++t)=false:=told_no (fun h=>by cases h) (fun u h=>by cases h)
theorem told_act (s:Sto) (o:Opn) (r:Rs):qbm (ansW (actR s o r).2.1)=false:=by
 rcases ans_act s o r with⟨_,_,h|⟨t,h⟩|h⟩|⟨_,h⟩|⟨_,_,h⟩
 · rw[h];decide
 · rw[h];exact told_ok t
 · rw[h];decide
 · rw[h];decide
 · rw[h];exact told_den _
def wNA:DT:=⟨#[100,101,110,105,101,100,32,78,111,116,65,112,112,108,105,99,97,98,108,101]⟩
theorem den_na:wDenied++mkN (0,0)=wNA:=by decide
theorem bad_told {e a:Int} (he:e≠0):qbm (ansW (badR e a))=true\/ansW (badR e a)=wNA:=by
 rcases ans_bad (a:=a) he with h|⟨t,ht,h⟩
 · exact .inr (h.trans den_na)
 · rw[h];exact .inl (told_err ht)
theorem ans_glass (s:Sto) (o:Opn) (r:Rs):ansW (actR s o r).2.1=jw↔brkC s o r.m=true:=by
 constructor
 · intro h;rcases ans_act s o r with⟨_,_,h2|⟨t,h2⟩|h2⟩|⟨hb,_⟩|⟨_,_,h2⟩
   · have h3:wOk=jw:=h2.symm.trans h;exact absurd h3 DO
   · have h3:wOkB++t=jw:=h2.symm.trans h;have h4:=ba_ext h3;rw[ba_head]at h4;cases h4
   · have h3:wHidden=jw:=h2.symm.trans h;exact absurd h3 DO
   · exact hb
   · have h3:wDenied++mkN _=jw:=h2.symm.trans h;have h4:=ba_ext h3;rw[ba_head]at h4;cases h4
 · intro h;rcases ans_act s o r with⟨_,h2,_⟩|⟨_,h2⟩|⟨_,h2,_⟩
   · rw[h]at h2;cases h2
   · exact h2
   · rw[h]at h2;cases h2
theorem bad_glass {e a:Int} (he:e≠0):ansW (badR e a)≠jw:=fun h=>by
 rcases ans_bad (a:=a) he with h2|⟨t,ht,h2⟩
 · have h3:wDenied++mkN (0,0)=jw:=h2.symm.trans h;exact absurd h3 DO
 · have h3:wError++t=jw:=h2.symm.trans h;have h4:=ba_ext h3;rw[ba_head]at h4;cases h4
theorem glass_line {x:Eng} {q:Bs} (h:(zy x q).2=jw):∃o,qaa q=some o/\GdOk x.sto o/\brkC x.sto o (rsC x.sto o).m=true/\(zy x q).1=goneE x o:=by
 rcases qaR x q with⟨_,hl⟩|⟨o,ho,⟨e,a,he,hl⟩|⟨hk,hl⟩⟩
 · rw[hl]at h;have h2:wWhat=jw:=h;exact absurd h2 DO
 · rw[hl]at h;exact absurd h (bad_glass he)
 · rw[hl]at h⊢;exact⟨o,ho,hk,(ans_glass _ _ _).1 h,rfl⟩
def kindN (k:Int) (l:List Obli):Nat:=(l.filter fun x=>decide (x.kind=k)).length
def faceC (c:Cas):DT×DT×DT×List Fld:=(c.id,c.owner,c.state,c.fields)
def IdsOk (l:List Rev):Prop:=∀i (h:i<l.length),(l[i]).id=((i+1:Nat):Int)
structure DutF (s t:Sto) (l:List Obli) (d:Bool):Prop where
 tick:t.tick=s.tick
 roles:t.roles=s.roles
 pol:t.pol=s.pol
 ver:t.ver=s.ver
 revs:∃R,t.revs=s.revs++R/\R.length=kindN 3 l
 ids:IdsOk s.revs->IdsOk t.revs
 ntcs:∃R,t.ntcs=s.ntcs++R/\R.length=kindN 4 l
 quiet:d=false->t.cases=s.cases
 face:t.cases.map faceC=s.cases.map faceC
theorem DutF.nil (s:Sto) (d:Bool):DutF s s [] d:=⟨rfl,rfl,rfl,rfl,⟨[],by simp,rfl⟩,id,⟨[],by simp,rfl⟩,fun _=>rfl,rfl⟩
theorem kindN_cat (k:Int) (l m:List Obli):kindN k (l++m)=kindN k l+kindN k m:=by
 unfold kindN;rw[List.filter_append,Ya]
theorem DutF.trans {s t u:Sto} {l m:List Obli} {d:Bool} (h1:DutF s t l d) (h2:DutF t u m d):DutF s u (l++m) d:=by
 obtain⟨R1,r1,n1⟩:=h1.revs;obtain⟨R2,r2,n2⟩:=h2.revs;obtain⟨S1,s1,m1⟩:=h1.ntcs;obtain⟨S2,s2,m2⟩:=h2.ntcs;exact⟨h2.tick.trans h1.tick,h2.roles.trans h1.roles,h2.pol.trans h1.pol,h2.ver.trans h1.ver,⟨R1++R2,by rw[r2,r1,YU],by rw[Ya,kindN_cat,n1,n2]⟩,fun h=>h2.ids (h1.ids h),⟨S1++S2,by rw[s2,s1,YU],by rw[Ya,kindN_cat,m1,m2]⟩,fun hd=>(h2.quiet hd).trans (h1.quiet hd),h2.face.trans h1.face⟩
theorem ids_snoc {l:List Rev} (h:IdsOk l) {r:Rev} (hr:r.id=((l.length+1:Nat):Int)):IdsOk (l++[r]):=fun i hi=>by
 by_cases h1:i<l.length
 · rw[List.getElem_append_left h1];exact h i h1
 · have h2:i=l.length:=by
    rw[Ya,YF]at hi;omega
   subst h2;rw[List.getElem_append_right (Yk _)];simpa using hr
theorem map_set_same {α β:Type} (f:α->β) {l:List α} {i:Nat} {a b:α} (h:l[i]?=some a) (hf:f b=f a):(l.set i b).map f=l.map f:=by
 rw[List.map_set,hf];apply List.ext_getElem?;intro j;rw[List.getElem?_set];split
 · rename_i hj;subst hj;rw[YH,h];split
   · rfl
   · rename_i hlt;obtain⟨h1,_⟩:=Yq.1 h;rw[Yb]at hlt;exact absurd h1 hlt
 · rfl
theorem dutF_log (s:Sto) (o:Opn) (w:DT) (x:Obli) (h3:x.kind≠3) (h4:x.kind≠4):DutF s (logR s o w) [x] true:=by
 have k3:kindN 3 [x]=0:=by simp[kindN,h3]
 have k4:kindN 4 [x]=0:=by simp[kindN,h4]
 unfold logR;split
 · exact MI
 · split
   · rename_i c hc;exact⟨rfl,rfl,rfl,rfl,⟨[],by simp,k3.symm⟩,id,⟨[],by simp,k4.symm⟩,fun h=>(nomatch h),map_set_same faceC hc rfl⟩
   · exact MI
theorem dutF_one (s:Sto) (o:Opn) (x:Obli) (d:Bool):DutF s (dutyR o d s x) [x] d:=by
 unfold dutyR;split
 · rename_i h;obtain⟨h1,rfl⟩:=h;exact dutF_log s o x.arg x DP DP
 · split
   · rename_i h3;refine⟨rfl,rfl,rfl,rfl,⟨[_],rfl,by simp[kindN,h3]⟩,fun h=>ids_snoc h ?_,⟨[],by simp[opnR],by simp[kindN,h3]⟩,fun _=>rfl,rfl⟩;show(s.revs.length:Int)+1=_;omega
   · rename_i h3;split
     · rename_i h4;exact⟨rfl,rfl,rfl,rfl,⟨[],by simp,by simp[kindN,h4]⟩,id,⟨[_],rfl,by simp[kindN,h4]⟩,fun _=>rfl,rfl⟩
     · rename_i h4;exact⟨rfl,rfl,rfl,rfl,⟨[],by simp,by simp[kindN,h3]⟩,id,⟨[],by simp,by simp[kindN,h4]⟩,fun _=>rfl,rfl⟩
theorem dutF (o:Opn) (d:Bool):∀(l:List Obli) (s:Sto),DutF s (dutR s o l d) l d
 |[],s=>DutF.nil s d
 |x::l,s=>(dutF_one s o x d).trans (dutF o d l (dutyR o d s x))
theorem done_revs {s:Sto} {o:Opn} (h:o.kind≠5):(zl s o).revs=s.revs:=by
 have on:∀id f,(onCase s id f).revs=s.revs:=fun id f=>by unfold onCase;split<;>rfl
 unfold zl;rw[Yc h]
 repeat' split
 all_goals first|rfl|exact on _ _
theorem done_revs5 {s:Sto} {o:Opn} (h:o.kind=5) {r:Rev} (hr:s.revs[(o.rev-1).toNat]?=some r):zl s o={s with revs:=s.revs.set (o.rev-1).toNat {r with open_:=false}}:=by
 unfold zl;rw[Yc DP,Yc DP,Yc DP,Yi h,hr]
theorem ids_set {l:List Rev} (h:IdsOk l) {i:Nat} {r:Rev} (hr:l[i]?=some r) (b:Bool):IdsOk (l.set i {r with open_:=b}):=fun j hj=>by
 rw[Xh]at hj;rw[List.getElem_set];split
 · rename_i he;subst he;obtain⟨h1,h2⟩:=Yq.1 hr;have:=h i h1;rw[h2]at this;exact this
 · exact h j hj
theorem done_ids {s:Sto} (h:IdsOk s.revs) (o:Opn):IdsOk (zl s o).revs:=by
 by_cases h5:o.kind=5
 · cases hr:s.revs[(o.rev-1).toNat]? with
   |none=>
    unfold zl;rw[Yc DP,Yc DP,Yc DP,Yi h5,hr];exact h
   |some r=>rw[done_revs5 h5 hr];exact ids_set h hr false
 · rw[done_revs h5];exact h
def glsS (s:Sto) (o:Opn) (m:Mk):Sto:=if brkC s o m then opnR s o o.reason else s
def dneB (s:Sto) (o:Opn) (m:Mk):Bool:=decide (m=(2,0))||brkC s o m
def midS (s:Sto) (o:Opn) (m:Mk):Sto:=if dneB s o m then zl (glsS s o m) o else glsS s o m
theorem act_sto (s:Sto) (o:Opn) (r:Rs):(actR s o r).1=dutR (midS s o r.m) o r.obls (dneB s o r.m):=rfl
theorem act_dut (s:Sto) (o:Opn) (r:Rs):DutF (midS s o r.m) (actR s o r).1 r.obls (dneB s o r.m):=by
 rw[act_sto];exact dutF o _ r.obls _
theorem gls_ids {s:Sto} (h:IdsOk s.revs) (o:Opn) (m:Mk):IdsOk (glsS s o m).revs:=by
 unfold glsS;split
 · refine ids_snoc h ?_;show(s.revs.length:Int)+1=_;omega
 · exact h
theorem mid_ids {s:Sto} (h:IdsOk s.revs) (o:Opn) (m:Mk):IdsOk (midS s o m).revs:=by
 unfold midS;split
 · exact done_ids (gls_ids h o m) o
 · exact gls_ids h o m
theorem act_ids {s:Sto} (h:IdsOk s.revs) (o:Opn) (r:Rs):IdsOk (actR s o r).1.revs:=(act_dut s o r).ids (mid_ids h o r.m)
theorem parse_right {b:Bs} (h:(zk b).2.1=0):zW (zk b).1=0:=by
 unfold zk at h⊢;split at h
 · exact absurd h DO
 · rename_i hb;rw[Yc hb];cases hl:lexL b with
   |error e=>rw[hl]at h;exact absurd h (show(5:Int)≠0 by decide)
   |ok l=>
    rw[hl]at h;dsimp only at h⊢;generalize polQ l 5 ⟨0,0,0,0⟩=r at*;generalize (if(ze l r.2).kind=7 then r.2 else synQ l r.2)=s1 at*;by_cases h1:s1.bad=0/\zW r.1≠0
    · rw[Yi h1]at h;have:(jq s1 5 (b.length:Int)).bad≠0:=by
       unfold jq;rw[Yi h1.1];exact show(5:Int)≠0 by decide
      rw[Yi this]at h;exact absurd h this
    · rw[Yc h1]at h⊢;by_cases h2:s1.bad≠0
      · rw[Yi h2]at h;exact absurd h h2
      · rw[Yc h2];exact Classical.not_not.1 fun hn=>h1 ⟨Classical.not_not.1 h2,hn⟩
theorem done_pol (s:Sto) (o:Opn):(zl s o).pol=s.pol\/((zk o.text.data.toList).2.1=0/\(zl s o).pol=(zk o.text.data.toList).1):=by
 have on:∀id f,(onCase s id f).pol=s.pol:=fun id f=>by unfold onCase;split<;>rfl
 unfold zl
 repeat' split
 all_goals first|exact .inl rfl|exact .inl (on _ _)|exact .inr ⟨by assumption,rfl⟩
theorem done_right {s:Sto} (h:zW s.pol=0) (o:Opn):zW (zl s o).pol=0:=by
 rcases done_pol s o with h1|⟨h1,h2⟩
 · rw[h1];exact h
 · rw[h2];exact parse_right h1
theorem gls_pol (s:Sto) (o:Opn) (m:Mk):(glsS s o m).pol=s.pol:=by unfold glsS;split<;>rfl
theorem act_right {s:Sto} (h:zW s.pol=0) (o:Opn) (r:Rs):zW (actR s o r).1.pol=0:=by
 rw[(act_dut s o r).pol];unfold midS;split
 · exact done_right (by rw[gls_pol];exact h) o
 · rw[gls_pol];exact h
structure Eng.Iv (x:Eng) (k:Nat):Prop where
 in_:x.In k
 right:zW x.sto.pol=0
 ids:IdsOk x.sto.revs
 logs:∀d∈x.log,d.obls.length<=1000000
 quo:x.quota=200000
 room:x.disk.length<=8200*k
theorem least_ok:(zk leastB).2.1=0:=by kernel_rfl
theorem Eng.Iv.ev {x:Eng} {k:Nat} (h:x.Iv k) (g:List Giv):(jp x.sto.pol g).2=0:=by
 unfold jp;rw[Yi h.right]
theorem Eng.Iv.more {x:Eng} {k m:Nat} (h:x.Iv k) (hm:k<=m):x.Iv m:=⟨h.in_.more hm,h.right,h.ids,h.logs,h.quo,by have:=h.room;omega⟩
theorem rs_len (s:Sto) (o:Opn):(rsC s o).obls.length<=s.pol.sz:=by
 unfold rsC jp;split
 · exact qbw _ 4 _
 · exact Yl _
theorem frame_len {s:Sto} {o:Opn} (h:GdOk s o) (c:Nat):(jF (recW c o)).length<=8200:=by
 have h1:=form_rec h.form c;generalize recW c o=p at*;unfold jF;simp only[Ya];have h2:=qbj 4 p.length;have h3:=qbj 4 (sumW p);omega
theorem Eng.Iv.gone {x:Eng} {k:Nat} (h:x.Iv k) {o:Opn} (hk:GdOk x.sto o) (hin:(goneE x o).In (k+1)):(goneE x o).Iv (k+1):=by
 refine⟨hin,act_right h.right o _,act_ids h.ids o _,fun d hd=>?_,h.quo,?_⟩
 · rcases YL.1 hd with hd|hd
   · exact h.logs d hd
   · rw[YA]at hd;subst hd;show(rsC x.sto o).obls.length<=_;have:=rs_len x.sto o;have:=h.in_.sto.g0.sz;omega
 · show(x.disk++jF _).length<=_;rw[Ya];have:=frame_len hk x.chain;have:=h.room;omega
theorem Eng.Iv.line {x:Eng} {k:Nat} (h:x.Iv k) {q:Bs} (hq:q.length<=4096):(zy x q).1.Iv (k+1):=by
 have hin:=in_line h.in_ hq;rcases qaR x q with⟨_,hl⟩|⟨o,ho,⟨e,a,he,hl⟩|⟨hk,hl⟩⟩
 · rw[hl];exact h.more DP
 · rw[hl];exact h.more DP
 · rw[hl]at hin⊢;exact h.gone hk hin
theorem new_iv:(newE 200000).Iv 0:=⟨newE_in DO,parse_right least_ok,fun i hi=>(nomatch hi),fun d hd=>(nomatch hd),rfl,Nat.le_refl _⟩
theorem decided_law {x:Eng} {q:Bs} {o:Opn} (ho:qaa q=some o) (hl:(zy x q).1.log.length=x.log.length+1):
 ((rsC x.sto o).m=(2,0)/\((zy x q).2=wOk\/(∃t,(zy x q).2=wOkB++t)\/(zy x q).2=wHidden))\/((rsC x.sto o).m≠(2,0)/\((zy x q).2=jw\/(zy x q).2=wDenied++mkN (rsC x.sto o).m)):=by
 rcases qaR x q with⟨h,hc⟩|⟨o',ho',⟨e,a,he,hc⟩|⟨hk,hc⟩⟩
 · rw[h]at ho;cases ho
 · rw[hc]at hl;dsimp only at hl;omega
 · rw[ho]at ho';cases ho';rw[hc];dsimp only;rcases ans_act x.sto o (rsC x.sto o)with⟨h1,_,h2⟩|⟨h1,h2⟩|⟨h1,_,h2⟩
   · exact .inl ⟨h1,h2⟩
   · refine .inr ⟨fun hm=>?_,.inl h2⟩;have:=(brk_mark h1).2.1;rw[hm]at this;rcases this with h|h<;>cases h
   · exact .inr ⟨h1,.inr h2⟩
theorem answered_law (x:Eng) (q:Bs):
 ((zy x q).1=x/\(qbm (zy x q).2=true\/(zy x q).2=wNA))\/
 ∃o,qaa q=some o/\qbm (zy x q).2=false/\∃d:Dcd,d.op=o/\(zy x q).1.log=x.log++[d]:=by
 rcases qaR x q with⟨h,hc⟩|⟨o,ho,⟨e,a,he,hc⟩|⟨hk,hc⟩⟩
 · rw[hc];exact .inl ⟨rfl,.inl (show qbm wWhat=true by decide)⟩
 · rw[hc];exact .inl ⟨rfl,bad_told he⟩
 · rw[hc];exact .inr ⟨o,ho,told_act _ _ _,_,rfl,rfl⟩
theorem glass_law {x:Eng} {q:Bs} (h:(zy x q).2=jw):∃o,qaa q=some o/\o.glass=true/\hasC x.sto.roles o.subj jw=true/\((rsC x.sto o).m=(0,2)\/(rsC x.sto o).m=(0,0))/\
 ∃R,(zy x q).1.sto.revs=x.sto.revs++⟨x.sto.revs.length+1,x.sto.tick,o.subj,o.case_,actC o.kind,o.reason,true⟩::R:=by
 obtain⟨o,ho,hk,hb,he⟩:=glass_line h;obtain⟨h1,h2,h3⟩:=brk_mark hb;refine⟨o,ho,h1,h3,h2,?_⟩;rw[he];obtain⟨R,hR,_⟩:=(act_dut x.sto o (rsC x.sto o)).revs;refine⟨R,?_⟩;show(actR x.sto o (rsC x.sto o)).1.revs=_;rw[hR];have hd:dneB x.sto o (rsC x.sto o).m=true:=by unfold dneB;rw[hb];simp
 have hg:glsS x.sto o (rsC x.sto o).m=opnR x.sto o o.reason:=by unfold glsS;rw[Yi hb]
 unfold midS;rw[Yi hd,hg,done_revs (glass_kind hk.form h1)];show(x.sto.revs++[_])++R=_;rw[YU];rfl
theorem gls_no {s:Sto} {o:Opn} {m:Mk} (h:brkC s o m=false):glsS s o m=s:=by unfold glsS;rw[if_neg (by rw[h];decide)]
theorem gls_get {s:Sto} {o:Opn} {m:Mk} {i:Nat} {v:Rev} (h:s.revs[i]?=some v):(glsS s o m).revs[i]?=some v:=by
 unfold glsS;split
 · show(s.revs++[_])[i]?=_
   rw[Yw (Yq.1 h).1];exact h
 · exact h
theorem rev_law {x:Eng} (hi:IdsOk x.sto.revs) (q:Bs) {i:Nat} {v:Rev} (hv:x.sto.revs[i]?=some v):
 ∃w,(zy x q).1.sto.revs[i]?=some w/\(w.open_=v.open_\/∃o,qaa q=some o/\(zy x q).2=wOk/\o.kind=5/\o.rev=v.id/\o.subj≠v.subj/\(rsC x.sto o).m=(2,0)):=by
 rcases qaR x q with⟨h,hc⟩|⟨o,ho,⟨e,a,he,hc⟩|⟨hk,hc⟩⟩
 · rw[hc];exact⟨v,hv,.inl rfl⟩
 · rw[hc];exact⟨v,hv,.inl rfl⟩
 rw[hc];dsimp only;obtain⟨R,hR,_⟩:=(act_dut x.sto o (rsC x.sto o)).revs;have ht:(goneE x o).sto.revs=(midS x.sto o (rsC x.sto o).m).revs++R:=hR;have key:∃w,(midS x.sto o (rsC x.sto o).m).revs[i]?=some w/\(w.open_=v.open_\/(ansW (actR x.sto o (rsC x.sto o)).2.1=wOk/\o.kind=5/\o.rev=v.id/\o.subj≠v.subj/\(rsC x.sto o).m=(2,0))):=by
  unfold midS;cases hd:dneB x.sto o (rsC x.sto o).m with
  |false=>
   rw[Yc DO];exact⟨v,gls_get hv,.inl rfl⟩
  |true=>
   rw[Yi rfl];by_cases k5:o.kind=5
   · have hb:brkC x.sto o (rsC x.sto o).m=false:=by
      cases hb:brkC x.sto o (rsC x.sto o).m with
      |false=>rfl
      |true=>exact absurd k5 (glass_kind hk.form (brk_mark hb).1)
     have hm:(rsC x.sto o).m=(2,0):=by
      unfold dneB at hd;rw[hb,Bool.or_false]at hd;exact YM hd
     have hr:=hk.rdy;unfold rdyC at hr;rw[Yc (by rw[hk.form];decide),Yc DP,Yc DP,Yi k5]at hr;unfold qac at hr;cases hrv:x.sto.revs[(o.rev-1).toNat]? with
     |none=>rw[hrv]at hr;exact absurd hr (show(10:Int)≠0 by decide)
     |some r=>
      rw[hrv]at hr;dsimp only at hr;split at hr
      · exact MO
      split at hr
      · exact MO
      rename_i h1 h2;rw[gls_no hb,done_revs5 k5 hrv];dsimp only;by_cases hie:(o.rev-1).toNat=i
      · rw[hie]at hrv⊢;rw[hv]at hrv;cases hrv;have hlt:=(Yq.1 hv).1;refine⟨_,List.getElem?_set_self hlt,.inr ⟨?_,k5,?_,fun h=>h2 h.symm,hm⟩⟩
        · unfold actR;dsimp only;rw[hb,hm,k5];rfl
        · have hp:0<o.rev:=by
           have ht:=form_tak hk.form;unfold takC at ht;rw[Yc DP,Yc DP,Yc DP,Yc DP,Yi k5]at ht;simp only[Yp,Yf]at ht;exact ht.1
          have h3:=hi i hlt;rw[(Yq.1 hv).2]at h3;omega
      · exact⟨v,by rw[List.getElem?_set_ne hie];exact hv,.inl rfl⟩
   · rw[done_revs k5];exact⟨v,gls_get hv,.inl rfl⟩
 obtain⟨w,hw,h⟩:=key;refine⟨w,?_,?_⟩
 · rw[ht,Yw (Yq.1 hw).1];exact hw
 · rcases h with h|⟨h1,h2,h3,h4,h5⟩
   · exact .inl h
   · exact .inr ⟨o,ho,h1,h2,h3,h4,h5⟩
section
variable {P:Program} {T:TT} (hT:zm P T) {st:St}
include hT
theorem act_nilcmpR {o:Oper} {t t':TypeId} {x y:Operand} (ho:o.op=.binOp .eql t x y t') {ti:TyI} {e e':TypeId} (ht:lk t T=some ti) (hte:ti.d=.sl e) {k z:Nat} {l:List (List PV)} (hx:evS st x=some (.row k)) (hk:lk k st.own=some (.row e' z l)) (hy:evS st y=some (.p (.v (.slice none 0 0))))
 (hd:jW st o.dst=true) {Q:St->Prop} (h:∀b:Bool,(b=true->l=[])->Q (st.put o.dst (.p (.v (.bool b))))):ActOk P [] o st Q:=by
 intro w0 Sx γ a w QQ hI;have hu:=(hT t ti ht).und;rw[hte]at hu;simp only[jV]at hu;have hsv:a.eval x=γ k:=by
  have:=qK hI hx;generalize a.eval x=u at this⊢;cases this with
  |row hg=>rw[zb hk]at hg;cases hg;rfl
 cases hI.heap.box k _ hk with
 |row hrow hel hml hkj=>
 obtain⟨A,c,hv0,hlc,hm⟩:=hrow.shape;have hv:a.eval x=.slice A l.length c:=hsv.trans hv0;have hyv:=(qK hI hy).v_inv;have hrun:(execOp a.eval o).run P w=.ok (.value (.bool A.isNone)) w:=by
  refine LH ?_;have h1:(eqGuard .eql t x y (.slice A l.length c) (.slice none 0 0)).run P w=.ok () w:=rfl;rw[YG,h1];simp only[Ys];simp[binOp,Op.equal,Op.maxDepth,run_equalIn_nil w 9999 t e A l.length c hu]
 unfold Oper.wp;rw[hrun,Oper.upon_value];refine⟨γ,_,h A.isNone (fun hA=>?_),hI.put hd (.p (.v rfl)),⟨Yk _,fun _ _ _=>rfl⟩,fun K _ b _ hb=>by rw[qaE];exact hb⟩;cases A with
 |some A=>cases hA
 |none=>
  obtain⟨css,h1,h2,_⟩:=hrow;rw[hv0]at h1;rcases Nat.eq_zero_or_pos l.length with h0|h0
  · exact Xi h0
  · have h1':OwnF Subtype.val z w 0 e' (.slice none css.length c) css:=by rw[h2];exact h1
    have hs:=OwnF.slat (R:=fun _ cs (y:Cel z)=>cs=y.val) (fun x=>x.2.1) h1' (fun x _=>rfl);obtain⟨b,o,hA',_⟩:=hs DP;cases hA'
end
theorem opR_loadF {T:TT} {K:List Nat} {st:St} {t:TypeId} {ad:Operand} {i:TyI} {j z k off:Nat} {e:TypeId} {l:List (List PV)} {x:List PV} {s:PV} (ht:lk t T=some i) (had:evS st ad=some (.eptr j z k off)) (hK:K.contains j=false) (hj:lk j st.own=some (.row e z l)) (hx:l[k]?=some x) (hs:takeT i (x.drop off)=some s):opR T K st (.load t ad)=some (k<l.length,.p s):=by
 show rLoad T K st t (evS st ad)=_;unfold rLoad;rw[had,ht];have h9:l.getD k []=x:=by rw[List.getD_eq_getElem?_getD,hx];rfl
 have hz:Nat.beq z z=true:=Nat.beq_refl z;simp only[hK,hj,hz,h9,hs,cond_true]
theorem dcdW_h (l:List Dcd) (hn:l.length<=1000000):HoldsW prog 89 [.row 1000000] [(1000000,.row 80 16 (l.map Dcd.pv))] (.row 0) [(1000000,.row 80 16 (l.map Dcd.pv)),(0,.row 80 16 (l.map Dcd.pv))]:=by
 have ll:(l.map Dcd.pv).length=l.length:=Yb _;refine qE (ts:=[2]) func89 DG rfl rfl rfl ?_;refine Kq ?_;refine qy rfl (act_nilcmpR qc rfl rfl rfl rfl rfl rfl rfl (fun b hb=>?_));refine qe ?_;refine uC (fun hc=>?_) (fun hc=>?_)
 · have hl:=hb hc;have hl':l=[]:=by simpa using hl
   subst hl';refine Kp ?_;exact⟨Or.inr rfl,_,_,[(1000000,1000000),(900,0)],zw 2 900 80 16 rfl rfl,rfl,rfl,rfl,rfl⟩
 · refine Ly ?_;refine Ks ?_;exact uF [(1000000,1000000),(7,0)]
def logP (l:List Dcd):PV:=.sl 16 (l.map Dcd.pv)
theorem log_h (x:Eng) (hn:x.log.length<=90000) (ho:∀d∈x.log,d.obls.length<=1000000):HoldsW prog 40 [.ptr 1000000 0] (engO x 1000003 1000004) (.p (logP x.log)) (engO x 1000003 1000004):=by
 have HD:=dcdW_h x.log DP;have ll:(x.log.map Dcd.pv).length=x.log.length:=Yb _;refine qE (ts:=[2]) func40 DG rfl rfl rfl ?_;refine Kq ?_;refine uW [(1000003,1000000)] HD ?_;refine Kt ?_;rw[ll];refine qe ?_;refine uB ?_;refine uZ [3,11,12] [(1000000,1000000),(1000001,1000001),(1000002,1000002),(1000003,1000003),(1000004,1000004),(10000,900)] ?_;refine qG (fun m s=>∃k:Nat,k<=x.log.length/\m=x.log.length-k/\s=⟨27,[(3,.row 900),(11,.p (pI (x.log.length:Int))),(12,.p (pI (k:Int)))],engO x 1000003 1000004++[(900,.row 80 16 (x.log.map Dcd.pv))]⟩) x.log.length ⟨0,Yl _,rfl,rfl⟩ ?_;rintro m s ⟨k,hk,rfl,rfl⟩;refine uA ?_;by_cases hlt:k<x.log.length
 · rw[show decide ((k:Int)<(x.log.length:Int))=true by rw[Yf];omega];refine uC (fun hc=>?_) (fun hc=>?_);rotate_left
   · cases hc
   refine Lh ?_;obtain⟨d,hd⟩:∃d,d=x.log[k]:=⟨_,rfl⟩;have HO:=(obl_cl d.obls (ho d (by rw[hd];exact Yn hlt))).row_sl;refine Kq ?_;refine Ux ?_;refine uS ?_;refine qm qc rfl (opR_loadF (x:=d.pv) rfl rfl rfl rfl (by rw[Int.toNat_natCast,YH,Yj hlt,<-hd];rfl) rfl) EK rfl ?_;refine uS ?_;refine uO HO ?_;refine uS ?_;refine Ux ?_;refine uS ?_;refine qy rfl (zu qc rfl rfl rfl rfl rfl EK rfl rfl rfl rfl rfl ?_);refine Ko ?_;refine uZ [3,11,12] [(1000000,1000000),(1000001,1000001),(1000002,1000002),(1000003,1000003),(1000004,1000004),(900,900)] ?_;change SW _ _ _ ⟨27,[(3,.row 900),(11,.p (pI (x.log.length:Int))),(12,.p (pI (k:Int)))],engO x 1000003 1000004++[(900,.row 80 16 (set1 (x.log.map Dcd.pv) (k:Int).toNat 15 [zh d.obls]))]⟩;rw[show set1 (x.log.map Dcd.pv) (k:Int).toNat 15 [zh d.obls]=x.log.map Dcd.pv by
    unfold set1;rw[set_map hlt 15 _ (by rw[<-hd];rfl)]]
   refine uA ?_;refine⟨_,_,?_,qj [3,11,12] [(1000000,1000000),(1000001,1000001),(1000002,1000002),(1000003,1000003),(1000004,1000004),(900,900)] rfl rfl,k+1,hlt,rfl,by rw[qq hlt DP];rfl⟩;omega
 · rw[show decide ((k:Int)<(x.log.length:Int))=false by rw[Yh];omega];refine uC (fun hc=>?_) (fun hc=>?_)
   · cases hc
   refine qC ?_;refine SW.wk (qu (k:=900) rfl) ?_;refine Kp ?_;exact MH
theorem parseQ_h (q:DT) (hq:q.size<=4096):Holds prog 17 [pS q] (.tup [.p (.agg ((qaa q.data.toList).getD noOp).pv),.p (pB (qaa q.data.toList).isSome)]) []:=by
 obtain⟨⟨l⟩⟩:=q;exact parseL_h l hq
theorem askS_h {x:Eng} {k:Nat} (hx:x.Iv k) (o:Opn):Holds prog 22 [.agg x.sto.pv,.agg o.pv] (.p (js (askC x.sto o))) []:=
 ask_h x.sto hx.in_.sto.sm.ok (fun c hc f hf=>((hx.in_.sto.g0.each c hc).flds f hf).1) o
theorem evS_h {x:Eng} {k:Nat} (hx:x.Iv k) {o:Opn} (ho:o.Ok):Holds prog 21 [.agg (polP x.sto.pol),js (askC x.sto o)] (.tup [.p (.agg (rsP (rsC x.sto o))),.p (pI 0)]) []:=by
 obtain⟨n,hf⟩:=hx.in_.sto.g0.pol;have h:=evPol_h x.sto.pol hf hx.in_.sto.g0.sz (askC x.sto o) (giv_ok hx.in_.sto ho);rw[hx.ev]at h;exact h
theorem rs_mem (s:Sto) (o:Opn):(rsC s o).m∈mks:=by
 unfold rsC jp;split
 · exact qak _ _ _
 · simp[noRs,mks]
theorem line_ok {q:DT} (hq:q.size<=4096) {o:Opn} (h:qaa q.data.toList=some o):o.Ok:=(lineW_sz (s:=q.data.toList) hq h).ok
end Go.Proofs.YtblgnefkgkchhaaGreatDoor
