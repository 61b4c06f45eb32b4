/- Part 5. -/
import Derived.Lib.AppendZeros
import Derived.Lib.AppendStr
import Derived.Shelf.Strings.Builder1
import Derived.Test.YtblgnefkgkchhaaGreatDoorRows
import Derived.Shelf.Strconv.Itoa3
import Derived.Shelf.Small.Strs
import Derived.Shelf.Strconv.AtoiAll
import Derived.Scope
import Derived.Laws.BytesString
import Derived.Shelf.Strings.Search2
import Derived.Lib.AtoiAllCases
import Derived.Test.YtblgnefkgkchhaaGreatDoorPk4
set_option maxHeartbeats 4000000
set_option maxRecDepth 100000
set_option linter.unusedSimpArgs false
set_option linter.unusedVariables false
namespace Go.Proofs.YtblgnefkgkchhaaGreatDoor
open _root_.Go.Proofs.Tryz
section
open Go.RowKit Go.Lib
def InsRaw (P:Program) (f:FuncId) (e:TypeId) (z:Nat):Prop:=Callable P f/\∀(w:World) (v u:Value) (css:List (Cel z)) (x:Cel z) (i:Nat),OwnF Subtype.val z w 0 e v css->OwnF Subtype.val z w 0 e u [x]->v.ownBlock≠u.ownBlock->i<=css.length->css.length<=1000->
 Calls P f #[v,.int .i64 i,u] w fun ex w'=>∃v',ex=.returned v'/\OwnF Subtype.val z w' 0 e v' (css.take i++x::css.drop i)/\w.grownBy w' v.ownBlock/\(v'.ownBlock=v.ownBlock\/v'.ownBlock=some w.heap.size)
theorem insAt_row {α:Type} (l:List α) (x:α) (i j:Nat) (hi:i<=l.length):(l.take i++x::l.drop i)[j]?=if j<i then l[j]? else if j=i then some x else l[j-1]?:=by
 have ht:(l.take i).length=i:=by rw[Yd];omega
 by_cases h1:j<i
 · rw[Yi h1,Yw DP,Xv,Yi h1]
 · rw[Yc h1,Yy DP,ht];by_cases h2:j=i
   · rw[Yi h2,h2,Nat.sub_self];rfl
   · rw[Yc h2,show j-i=(j-i-1)+1 by omega,List.getElem?_cons_succ,YV];congr 1;omega
theorem rPV_move {ok ok':Nat->Prop} {w w':World} {cs:List Value} {x:List PV} (hs:w.heap.size<=w'.heap.size) (h:∀b,b<w.heap.size->ok b->w'.heap[b]?=w.heap[b]?/\ok' b) (hx:rPV ok w cs x):rPV ok' w' cs x:=
 good_PV.weak _ _ _ _ _ (fun b _ hb=>(h b hb.2 hb.1).2) (good_PV.keep (fun b=>ok b/\b<w.heap.size) w w' _ _ ⟨hs,fun b hb hok=>(h b hb hok.1).1⟩ (good_PV.weak _ _ _ _ _ (fun b hb hok=>⟨hok,hb⟩) hx))
theorem qaG {α:Type} {g:α->List Value} {z:Nat} {w:World} {e:TypeId} {v:Value} {l:List α} (h:OwnF g z w 0 e v l):v.ownBlock=zg v:=by
 obtain⟨A,c,rfl,_⟩:=h.shape;rw[jN]
theorem own_one {α:Type} {g:α->List Value} {z:Nat} {w:World} {e:TypeId} {v:Value} {x:α} (h:OwnF g z w 0 e v [x]):∃b,v.ownBlock=some b/\b<w.heap.size:=by
 rcases h.2 with⟨_,h0⟩|⟨b,cap,cur,hv,_,hh,_⟩
 · simp at h0
 · exact⟨b,by rw[hv];rfl,lt_of_block hh⟩
theorem one_of_len {α:Type} {l:List α} (h:l.length=1):∃x,l=[x]:=by
 match l,h with
 |[x],_=>exact⟨x,rfl⟩
theorem insF_of {P:Program} {f:FuncId} {e:TypeId} {z:Nat} (H:InsRaw P f e z) (l:List (List PV)) (x:List PV) (i:Nat) (hi:i<=l.length) (hn:l.length<=1000):
 HoldsW P f [.row 1000000,.p (pI i),.row 1000001] [(1000000,.row e z l),(1000001,.row e z [x])] (.row 0) [(0,.row e z (l.take i++x::l.drop i))]:=by
 refine⟨H.1,fun w Sx γ vs hh hl hr=>?_⟩;have hv:∃a b c,vs=[a,b,c]:=by
  match vs,hl with
  |[a,b,c],_=>exact⟨a,b,c,rfl⟩
 obtain⟨a,b,c,rfl⟩:=hv;have ha:γ 1000000=a:=by
  cases hr 0 _ a rfl rfl with
  |row h=>exact YS h
 have hb:Value.int .i64 (i:Int)=b:=by
  cases hr 1 _ b rfl rfl with
  |p h=>exact(jn h rfl).symm
 have hc:γ 1000001=c:=by
  cases hr 2 _ c rfl rfl with
  |row h=>exact YS h
 subst ha hb hc;cases hh.box 1000000 _ rfl with
 |row h he hm hk=>
 cases hh.box 1000001 _ rfl with
 |row h2 he2 hm2 hk2=>
 obtain⟨css,o1,o2,o3⟩:=h;obtain⟨cs1,p1,p2,p3⟩:=h2;obtain⟨y,rfl⟩:=one_of_len p2;have hob:=qaG o1;have hub:=qaG p1;obtain⟨ub,hu1,hu2⟩:=own_one p1;have hne:(γ 1000000).ownBlock≠(γ 1000001).ownBlock:=fun h=>by
  rw[hu1]at h;have:=hh.inj 1000000 1000001 _ _ ub rfl rfl (hob▸h) (hub▸hu1);omega
 refine(H.2 w _ _ css y i o1 p1 hne DP DP).mono ?_;rintro ex w' ⟨v',rfl,g1,g2,g3⟩;have hvb:=qaG g1;have hlt0:∀b,(γ 1000000).ownBlock=some b->b<w.heap.size:=fun b hb=>(o1.lt b hb).2
 have g3':∀b,b<w.heap.size->some b=v'.ownBlock->some b=(γ 1000000).ownBlock:=fun b hb h=>by
  rcases g3 with g|g
  · rw[h,g]
  · rw[g]at h;cases h;omega
 have hsame:∀b,b<w.heap.size->some b≠(γ 1000000).ownBlock->w'.heap[b]?=w.heap[b]?:=fun b hb h=>g2.block b hb h
 refine⟨v',upd γ 0 v',.row 0,_,⟨rfl,rfl⟩,rfl,⟨⟨g2.os,g2.tape,g2.output,g2.size,fun b hb=>absurd hb (Nat.not_lt_zero _)⟩,fun b hb=>hsame b hb.1 fun h=>hb.2 1000000 _ rfl (hob▸h.symm)⟩,⟨fun k bx hkb=>?_,fun k m bk bm b hk1 hm1 _ _=>?_,?_⟩,?_⟩
 · rw[qL]at hkb;by_cases hk0:k=0
   · subst hk0;rw[Yi rfl]at hkb;cases hkb;have h0:upd γ 0 v' 0=v':=Yi rfl;refine .row ?_ (fun q hq=>?_) ?_ (fun b hb hB=>?_)
     · rw[h0];refine⟨_,g1,by simp only[Ya,Yd,Yg,Yo];omega,fun j h1 h2=>?_⟩;have e1:=insAt_row css y i j DP;have e2:=insAt_row l x i j hi;rw[Yj h1]at e1;rw[Yj h2]at e2;have moved:∀(j':Nat) (q1:Cel z) (q2:List PV),css[j']?=some q1->l[j']?=some q2->rPV (okR (wE Sx (upd γ 0 v') [(0,.row e z (l.take i++x::l.drop i))] 0) v') w' q1.val q2:=fun j' q1 q2 a1 a2=>by
        obtain⟨b1,rfl⟩:=Yq.1 a1;obtain⟨b2,rfl⟩:=Yq.1 a2;refine rPV_move g2.size (fun b hb hok=>⟨hsame b hb hok.2,⟨hok.1.1,fun m bm hm1 hm2=>?_⟩,fun h=>hok.2 (g3' b hb h)⟩) (o3 j' b1 b2);rw[qL,Yc hm2]at hm1;cases hm1
       by_cases c1:j<i
       · rw[Yi c1]at e1 e2;exact moved j _ _ e1.symm e2.symm
       · rw[Yc c1]at e1 e2;by_cases c2:j=i
         · rw[Yi c2]at e1 e2;rw[YS e1,YS e2];refine rPV_move g2.size (fun b hb hok=>⟨hsame b hb fun h=>hok.1.2 1000000 _ rfl DP (hob▸h.symm),⟨hok.1.1,fun m bm hm1 hm2=>?_⟩,fun h=>hok.1.2 1000000 _ rfl DP (hob▸(g3' b hb h).symm)⟩) (p3 0 DQ DQ);rw[qL,Yc hm2]at hm1;cases hm1
         · rw[Yc c2]at e1 e2;exact moved (j-1) _ _ e1.symm e2.symm
     · rcases YL.1 hq with h|h
       · exact he q (Xd h)
       · rcases Y0.1 h with rfl|h
         · exact he2 _ DQ
         · exact he q (YX h)
     · simp only[Ya,Yd,Yg,Yo];unfold reachBytes;omega
     · rw[h0,<-hvb]at hb;exact hB.2 1000000 _ rfl (hob▸(g3' b hB.1 hb.symm).symm)
   · rw[Yc hk0]at hkb;cases hkb
 · have hz:∀{q:Nat} {bq:Box},lk q [(0,Box.row e z (l.take i++x::l.drop i))]=some bq->q=0:=fun{q bq} h=>by
    rw[qL]at h;by_cases h0:q=0
    · exact h0
    · rw[Yc h0]at h;cases h
   rw[hz hk1,hz hm1]
 · exact hh.sx.keep g2.size fun k bx hkb=>Or.inl (by
    rw[qL]at hkb;by_cases h0:k=0
    · omega
    · rw[Yc h0]at hkb;cases hkb)
 · exact Kn
def RelLs (F:SV->Value->Prop) (a:List SV) (b:List Value):Prop:=a.length=b.length/\∀(j:Nat) (s:SV) (u:Value),a[j]?=some s->b[j]?=some u->F s u
theorem RelLs.app {F:SV->Value->Prop} {a a':List SV} {b b':List Value} (h:RelLs F a b) (h':RelLs F a' b'):RelLs F (a++a') (b++b'):=by
 refine⟨by rw[Ya,Ya,h.1,h'.1],fun j s u h1 h2=>?_⟩;by_cases hj:j<a.length
 · rw[Yw hj]at h1;rw[Yw (by rw[<-h.1];exact hj)]at h2;exact h.2 j s u h1 h2
 · rw[Yy DP]at h1;rw[Yy (by rw[<-h.1];omega),<-h.1]at h2;exact h'.2 _ s u h1 h2
theorem RelLs.rowF {F:SV->Value->Prop} {z:Nat}:∀(l:List (List PV)) (css:List (Cel z)),css.length=l.length->(∀(j:Nat) (q:Cel z) (x:List PV),css[j]?=some q->l[j]?=some x->q.val.length=x.length/\∀(k:Nat) (s:PV) (u:Value),x[k]?=some s->q.val[k]?=some u->F (.p s) u)->RelLs F (rowF l) (css.flatMap Subtype.val)
 |[],[],_,_=>⟨rfl,fun j s u h=>by simp[Go.Proofs.YtblgnefkgkchhaaGreatDoor.rowF]at h⟩
 |x::l,q::css,hl,h=>by
  have h0:=h 0 q x rfl rfl;have ih:=RelLs.rowF l css Dk fun j a b h1 h2=>h (j+1) a b (by simpa using h1) Dl
  have e:Go.Proofs.YtblgnefkgkchhaaGreatDoor.rowF (x::l)=x.map SV.p++Go.Proofs.YtblgnefkgkchhaaGreatDoor.rowF l:=rfl;rw[e,YW];refine RelLs.app ⟨by rw[Yb];exact h0.1.symm,fun k s u h1 h2=>?_⟩ ih;rw[YH]at h1;cases hx:x[k]? with
  |none=>rw[hx]at h1;cases h1
  |some y=>rw[hx]at h1;cases h1;exact h0.2 k y u hx h2
theorem insC_of {P:Program} {f:FuncId} {e e2:TypeId} {z2:Nat} (H:InsRaw P f e 5) (l:List (List PV)) (a1 a2 a3:PV) (z:Nat) (g:List (List PV)) (i:Nat) (hi:i<=l.length) (hn:l.length<=1000):
 HoldsW P f [.row 1000000,.p (pI i),.row 1000001] [(1000000,.row e 5 l),(1000001,.rws e 5 [] [.p a1,.p a2,.p a3,.p nilV,.row 1000002] []),(1000002,.row e2 z2 g)] (.row 0)
  [(0,.rws e 5 (l.take i) [.p a1,.p a2,.p a3,.p (.sl z []),.row 2] (l.drop i)),(2,.row e2 z2 g)]:=by
 refine⟨H.1,fun w Sx γ vs hh hl hr=>?_⟩;have hv:∃a b c,vs=[a,b,c]:=by
  match vs,hl with
  |[a,b,c],_=>exact⟨a,b,c,rfl⟩
 obtain⟨a,b,c,rfl⟩:=hv;have ha:γ 1000000=a:=by
  cases hr 0 _ a rfl rfl with
  |row h=>exact YS h
 have hb:Value.int .i64 (i:Int)=b:=by
  cases hr 1 _ b rfl rfl with
  |p h=>exact(jn h rfl).symm
 have hc:γ 1000001=c:=by
  cases hr 2 _ c rfl rfl with
  |row h=>exact YS h
 subst ha hb hc;cases hh.box 1000000 _ rfl with
 |row h he hm hk=>
 cases hh.box 1000001 _ rfl with
 |@rws _ _ _ _ _ cs1 nm p1 hz2 he2 p2 hmid p3 hm2 hk2=>
 cases hh.box 1000002 _ rfl with
 |row h4 he4 hm4 hk4=>
 obtain⟨css,o1,o2,o3⟩:=h;have hnm:nm=1:=by simp only[Yg,List.length_nil]at hmid;omega
 subst hnm;obtain⟨y,rfl⟩:=one_of_len (l:=cs1) (by simpa using p2);have hob:=qaG o1;have hub:=qaG p1;obtain⟨ub,hu1,hu2⟩:=own_one p1;have hne:(γ 1000000).ownBlock≠(γ 1000001).ownBlock:=fun h=>by
  rw[hu1]at h;have:=hh.inj 1000000 1000001 _ _ ub rfl rfl (hob▸h) (hub▸hu1);omega
 refine(H.2 w _ _ css y i o1 p1 hne DP DP).mono ?_;rintro ex w' ⟨v',rfl,g1,g2,g3⟩;have hvb:=qaG g1;have hlt0:∀b,(γ 1000000).ownBlock=some b->b<w.heap.size:=fun b hb=>(o1.lt b hb).2
 have g3':∀b,b<w.heap.size->some b=v'.ownBlock->some b=(γ 1000000).ownBlock:=fun b hb h=>by
  rcases g3 with g|g
  · rw[h,g]
  · rw[g]at h;cases h;omega
 have hsame:∀b,b<w.heap.size->some b≠(γ 1000000).ownBlock->w'.heap[b]?=w.heap[b]?:=fun b hb h=>g2.block b hb h
 obtain⟨own',hown⟩:∃own':List (Nat×Box),own'=[(0,.rws e 5 (l.take i) [.p a1,.p a2,.p a3,.p (.sl z []),.row 2] (l.drop i)),(2,.row e2 z2 g)]:=⟨_,rfl⟩;obtain⟨γ',hγ⟩:∃γ',γ'=upd (upd γ 0 v') 2 (γ 1000002):=⟨_,rfl⟩;have q0:γ' 0=v':=by rw[hγ];rfl
 have q2:γ' 2=γ 1000002:=by rw[hγ];rfl
 have lk0:lk 0 own'=some (.rws e 5 (l.take i) [.p a1,.p a2,.p a3,.p (.sl z []),.row 2] (l.drop i)):=by rw[hown];rfl
 have lk2:lk 2 own'=some (.row e2 z2 g):=by rw[hown];rfl
 have only:∀{k:Nat} {bx:Box},lk k own'=some bx->k=0\/k=2:=fun{k bx} h=>by
  rw[hown,qL]at h;by_cases h0:k=0
  · exact Or.inl h0
  · rw[Yc h0,qL]at h;by_cases h2:k=2
    · exact Or.inr h2
    · rw[Yc h2]at h;cases h
 have okn:∀b,b<w.heap.size->okO Sx γ [(1000000,.row e 5 l),(1000001,.rws e 5 [] [.p a1,.p a2,.p a3,.p nilV,.row 1000002] []),(1000002,.row e2 z2 g)] b->w'.heap[b]?=w.heap[b]?/\okO Sx γ' own' b:=fun b hb hok=>⟨hsame b hb fun h=>hok.2 1000000 _ rfl (hob▸h.symm),hok.1,fun k bx hk1 hk2=>by
  rcases only hk1 with rfl|rfl
  · rw[q0,<-hvb]at hk2;exact hok.2 1000000 _ rfl (hob▸(g3' b hb hk2.symm).symm)
  · rw[q2]at hk2;exact hok.2 1000002 _ rfl hk2⟩
 have okr:∀b,b<w.heap.size->okR (wE Sx γ [(1000000,.row e 5 l),(1000001,.rws e 5 [] [.p a1,.p a2,.p a3,.p nilV,.row 1000002] []),(1000002,.row e2 z2 g)] 1000000) (γ 1000000) b->w'.heap[b]?=w.heap[b]?/\okO Sx γ' own' b:=fun b hb hok=>okn b hb ⟨hok.1.1,fun k bx hk1 hk2=>by
  by_cases h0:k=1000000
  · subst h0;exact hok.2 (by rw[hob,hk2])
  · exact hok.1.2 k bx hk1 h0 hk2⟩
 have r1:RelLs (RelS (okO Sx γ' own') (hp γ' own') w') (rwC (l.take i) [.p a1,.p a2,.p a3,.p (.sl z []),.row 2] (l.drop i)) ((css.take i++y::css.drop i).flatMap Subtype.val):=by
  rw[List.flatMap_append,YW];unfold rwC;have mv:∀(j:Nat) (q:Cel 5) (x:List PV),css[j]?=some q->l[j]?=some x->q.val.length=x.length/\∀(k:Nat) (s:PV) (u:Value),x[k]?=some s->q.val[k]?=some u->RelS (okO Sx γ' own') (hp γ' own') w' (.p s) u:=fun j q x h1 h2=>by
   obtain⟨b1,rfl⟩:=Yq.1 h1;obtain⟨b2,rfl⟩:=Yq.1 h2;have:=rPV_move (ok':=okO Sx γ' own') g2.size okr (o3 j b1 b2);exact⟨this.1,fun k s u h3 h4=>.p (this.2 k s u h3 h4)⟩
  refine RelLs.app (RelLs.rowF _ _ (by rw[Yd,Yd,o2]) fun j q x h1 h2=>?_) (RelLs.app ?_ (RelLs.rowF _ _ (by rw[Yo,Yo,o2]) fun j q x h1 h2=>?_))
  · rw[Xv]at h1 h2;split at h1
    · rename_i hj;rw[Yi hj]at h2;exact mv j q x h1 h2
    · cases h1
  · refine⟨y.2.1.symm,fun j s u h1 h2=>?_⟩;have old:∀(k:Nat) (t:SV) (u:Value),([.p a1,.p a2,.p a3,.p nilV,.row 1000002]:List SV)[k]?=some t->y.val[k]?=some u->RelS (okO Sx γ [(1000000,.row e 5 l),(1000001,.rws e 5 [] [.p a1,.p a2,.p a3,.p nilV,.row 1000002] []),(1000002,.row e2 z2 g)]) (hp γ [(1000000,.row e 5 l),(1000001,.rws e 5 [] [.p a1,.p a2,.p a3,.p nilV,.row 1000002] []),(1000002,.row e2 z2 g)]) w t u:=fun k t u h3 h4=>p3 k t u (by rw[show rwC [] [.p a1,.p a2,.p a3,.p nilV,.row 1000002] []=[.p a1,.p a2,.p a3,.p nilV,.row 1000002]from rfl];exact h3) (by rw[YW,List.flatMap_nil,Y9];exact h4)
    have plainC:∀(x:PV),RelS (okO Sx γ [(1000000,.row e 5 l),(1000001,.rws e 5 [] [.p a1,.p a2,.p a3,.p nilV,.row 1000002] []),(1000002,.row e2 z2 g)]) (hp γ [(1000000,.row e 5 l),(1000001,.rws e 5 [] [.p a1,.p a2,.p a3,.p nilV,.row 1000002] []),(1000002,.row e2 z2 g)]) w (.p x) u->RelS (okO Sx γ' own') (hp γ' own') w' (.p x) u:=fun x hx=>hx.keep2 g2.size okn fun k hk=>by cases hk
    match j,h1 with
    |0,h1=>cases h1;exact plainC _ (old 0 _ u rfl h2)
    |1,h1=>cases h1;exact plainC _ (old 1 _ u rfl h2)
    |2,h1=>cases h1;exact plainC _ (old 2 _ u rfl h2)
    |3,h1=>
     cases h1;have h5:=old 3 _ u rfl h2;cases h5 with
     |p h6=>
      have h7:=jn h6 rfl;subst h7;exact .p (.sl (A:=none) (c:=0) (Yk _) ⟨Yl _,Yl _⟩ (fun _ h=>by cases h) (fun h=>absurd h DQ) (fun _ _ _ _ h=>by cases h) (fun _ _ _ _ _ _ _ h=>by cases h))
    |4,h1=>
     cases h1;have h5:=old 4 _ u rfl h2;cases h5 with
     |row h6=>
      have h7:γ 1000002=u:=YS h6;exact .row (by rw[zb lk2,q2,h7])
    |j+5,h1=>simp at h1
  · rw[YV]at h1 h2;exact mv (i+j) q x h1 h2
 refine⟨v',γ',.row 0,_,⟨rfl,rfl⟩,rfl,⟨⟨g2.os,g2.tape,g2.output,g2.size,fun b hb=>absurd hb (Nat.not_lt_zero _)⟩,fun b hb=>hsame b hb.1 fun h=>hb.2 1000000 _ rfl (hob▸h.symm)⟩,?_,?_⟩
 · rw[<-hown];refine⟨fun k bx hkb=>?_,fun k m bk bm b hk1 hm1 hb1 hb2=>?_,?_⟩
   · rcases only hkb with rfl|rfl
     · rw[lk0]at hkb;cases hkb;refine .rws (css:=css.take i++y::css.drop i) (nm:=1) (by rw[q0];exact g1) DP (fun q hq=>?_) (by simp only[Ya,Yd,Yg,Yo];omega) rfl (fun j s u h1 h2=>r1.2 j s u h1 h2) (by simp only[Ya,Yd,Yg,Yo];unfold reachBytes;omega) fun b hb hB=>?_
       · rcases YL.1 hq with h|h
         · exact he q (Xd h)
         · exact he q (YX h)
       · rw[q0,<-hvb]at hb;exact hB.2 1000000 _ rfl (hob▸(g3' b hB.1 hb.symm).symm)
     · rw[lk2]at hkb;cases hkb;obtain⟨cg,c1,c2,c3⟩:=h4;refine .row ?_ he4 hm4 fun b hb hB=>?_
       · rw[q2];have hgb:=qaG c1;have hgo:(γ 1000002).ownBlock=none\/(γ 1000002).ownBlock≠(γ 1000000).ownBlock:=by
          cases hg:(γ 1000002).ownBlock with
          |none=>exact Or.inl rfl
          |some b=>
           refine Or.inr fun h=>?_
           have:=hh.inj 1000000 1000002 _ _ b rfl rfl (by rw[<-hob,<-h]) (by rw[<-hgb,hg]);omega
         refine⟨cg,c1.kept g2 hgo,c2,fun j b1 b2=>rPV_move g2.size (fun b hb hok=>⟨hsame b hb fun h=>hok.1.2 1000000 _ rfl DP (hob▸h.symm),⟨hok.1.1,fun m bm hm1 hm2 hm3=>?_⟩,hok.2⟩) (c3 j b1 b2)⟩;rcases only hm1 with rfl|rfl
         · rw[q0,<-hvb]at hm3;exact hok.1.2 1000000 _ rfl DP (hob▸(g3' b hb hm3.symm).symm)
         · exact hm2 rfl
       · rw[q2]at hb;exact hB.2 1000002 _ rfl hb
   · rcases only hk1 with rfl|rfl<;>rcases only hm1 with rfl|rfl
     · rfl
     · rw[q0,<-hvb]at hb1;rw[q2]at hb2;have hbl:=(hh.blk (i:=1000002) rfl hb2).2;have:=hh.inj 1000000 1000002 _ _ b rfl rfl (hob▸(g3' b hbl hb1.symm).symm) hb2;omega
     · rw[q0,<-hvb]at hb2;rw[q2]at hb1;have hbl:=(hh.blk (i:=1000002) rfl hb1).2;have:=hh.inj 1000000 1000002 _ _ b rfl rfl (hob▸(g3' b hbl hb2.symm).symm) hb1;omega
     · rfl
   · exact hh.sx.keep g2.size fun k bx hkb=>Or.inl (by rcases only hkb with rfl|rfl<;>omega)
 · rw[<-hown];exact .row (by rw[zb lk0,q0])
end
section
open Go.RowKit Go.Lib
attribute [local go_sem] wY jA
attribute [local go_sem low] jz zZ
theorem grow_raw (n:Nat) (hn:n<=100000000) (w:World):Calls prog 150 #[.slice none 0 0,.int .i64 n] w fun e w'=>∃v,e=.returned v/\OwnF Subtype.val 1 w' 0 5 v ([]:List (Cel 1))/\Below w.heap.size w w'/\(v.ownBlock=none\/v.ownBlock=some w.heap.size):=by
 obtain⟨info,zv,hinf,hsize,hby,hzv,hzc⟩:=(qc 5 _ rfl).info;have hz1:zv.cells.size=1:=by rw[<-Yx,hzc];rfl
 have hsz1:info.size=1:=hsize;have hb1:info.bytes=1:=hby;have h1:¬((n:Int)<0):=by omega
 have h2:IntKind.i64.wrap ((n:Int)-0)=(n:Int):=YD _ DP;have h2':IntKind.i64.wrap ((n:Int))=(n:Int):=YD _ DP;rcases Nat.eq_zero_or_pos n with h0|h0
 · subst h0;go_enter func150,ntmps150
   go_wp2
   go_ret
   exact⟨_,rfl,ownF_nil _ _ _ _,Below.refl _ _,Or.inl rfl⟩
 · have h3:(n:Int)>0:=by omega
   have hr:=fun ty=>Lib.run_append_nil_zeros (P:=prog) w 100 3 ty 5 info zv .i64 .i64 underlying100 underlying3 hinf hzv n h0 DP DP (by rw[hb1];omega)
   obtain⟨G,hG⟩:∃G,G=grownCap w n 0 5:=⟨_,rfl⟩;obtain⟨ROW,hROW⟩:∃ROW:Array Value,ROW=Builtin.zeroCells zv.cells n++Builtin.zeroCells zv.cells (G-n):=⟨_,rfl⟩;have hGn:n<=G:=by rw[hG];exact grownCap_ge w _ _ _
   have hGm:G<=maxLen:=by
    have:=grownCap_le_maxLen w n 0 5 E2;rwa [<-hG]at this
   have hG63:G<=9223372036854775807:=by unfold maxLen at hGm;exact hGm
   have hRs:ROW.size=G*1:=by
    rw[hROW];simp only[Array.size_append,Builtin.zeroCells,Array.size_map,Array.size_range,hz1];omega
   rw[<-hG,<-hROW]at hr;replace hG:=hide hG
   replace hROW:=hide hROW
   go_enter func150,ntmps150
   go_wp2_with (at_builtin;refine Lib.wpList_append_run _ rfl _ _ _ _ rfl _ _ rfl rfl _ _ (hr _) ?_)
   go_ret
   exact⟨_,rfl,⟨rfl,.inr ⟨w.heap.size,G,ROW,rfl,Yl _,heap_alloc_new w _,Yl _,hGm,hRs,by simp⟩⟩,((Below.refl _ w).alloc (Yk _) _).drew,Or.inr rfl⟩
theorem holds_row0 {P:Program} {f:FuncId} {e:TypeId} {z:Nat} {args:List PV} (hc:Callable P f) (hf:∀p∈args,flatP p=true)
 (H:∀w,Calls P f (args.map valP).toArray w fun ex w'=>∃v,ex=.returned v/\OwnF Subtype.val z w' 0 e v ([]:List (Cel z))/\Below w.heap.size w w'/\(v.ownBlock=none\/v.ownBlock=some w.heap.size)):
 HoldsW P f (args.map SV.p) [] (.row 0) [(0,.row e z [])]:=by
 refine⟨hc,fun w Sx γ vs hh hl hr=>?_⟩;have hvs:vs=args.map valP:=List.ext_getElem (by rw[hl,Yb,Yb]) fun i h1 h2=>by
  have h3:i<args.length:=by rw[Yb]at h2;exact h2
  have h4:=hr i (.p args[i]) vs[i] (by rw[YH,Yj h3];rfl) (Yj h1);rw[List.getElem_map];cases h4 with
  |p h5=>exact jn h5 (hf _ (Yn h3))
 rw[hvs];refine(H w).mono ?_;rintro ex w' ⟨v,rfl,g1,g2,g3⟩;have hvb:=qaG g1;refine⟨v,upd γ 0 v,.row 0,_,⟨rfl,rfl⟩,rfl,⟨⟨g2.os,g2.tape,g2.output,g2.size,fun b hb=>absurd hb (Nat.not_lt_zero _)⟩,fun b hb=>g2.block b hb.1⟩,⟨fun k bx hkb=>?_,fun k m bk bm b hk1 hm1 _ _=>?_,?_⟩,?_⟩
 · rw[qL]at hkb;by_cases hk0:k=0
   · subst hk0;rw[Yi rfl]at hkb;cases hkb;have h0:upd γ 0 v 0=v:=Yi rfl;refine .row (by rw[h0];exact⟨[],g1,rfl,fun j h1=>absurd h1 DQ⟩) (fun q hq=>by cases hq) (Yl _) fun b hb hB=>?_
     rw[h0,<-hvb]at hb;rcases g3 with g|g
     · rw[g]at hb;cases hb
     · rw[g]at hb;cases hb;exact absurd hB.1 (Nat.lt_irrefl _)
   · rw[Yc hk0]at hkb;cases hkb
 · have hz:∀{q:Nat} {bq:Box},lk q [(0,Box.row e z [])]=some bq->q=0:=fun{q bq} h=>by
    rw[qL]at h;by_cases h0:q=0
    · exact h0
    · rw[Yc h0]at h;cases h
   rw[hz hk1,hz hm1]
 · exact hh.sx.keep g2.size fun k bx hkb=>Or.inl (by
    rw[qL]at hkb;by_cases h0:k=0
    · omega
    · rw[Yc h0]at hkb;cases hkb)
 · exact Kn
theorem grow_h (n:Nat) (hn:n<=100000000):HoldsW prog 150 [.p nilV,.p (pI n)] [] (.row 0) [(0,.row 5 1 [])]:=
 holds_row0 (args:=[nilV,pI n]) ⟨_,func150,by kernel_rfl,by kernel_rfl⟩ (fun p hp=>by
  simp only[Y0,Xn,or_false]at hp;rcases hp with rfl|rfl<;>rfl) fun w=>grow_raw n hn w
end
section
open Go.RowKit
variable {P:Program} {st st2:St}
theorem qP (hwk:Wk st st2) {o:Oper} {cl:Call} {fo:Operand} {f:FuncId} {caps:List PV} {ps:List PV} {ids:List Nat} {r:SV} (ho:o.op=.call cl) (hcl:cl.callee=.value fo) (hfo:evS st2 fo=some (.p (.fn f caps))) (hargs:argPs st2 cl.args.toList=some (ps,ids))
 (H:Holds P f (ps++caps) r []) (hd:jW st o.dst=true) (hfl:flatS r=true) {Q:St->Prop} (h:Q (st.put o.dst r)):ActOk P [] o st Q:=by
 intro w0 Sx γ a w QQ hI;obtain⟨γ',hI'⟩:=hwk w0 Sx γ a w hI;refine call_run hI' ho hcl hfo hargs H fun v γ1 w' hb _ hr=>?_
 refine⟨γ,_,h,(hI.grow hb).put hd (hr.flat hfl),⟨hb.size,fun b hlt _=>hb.block b hlt⟩,fun K _ b _ hv=>?_⟩;have:(st.put o.dst r).own=st.own:=by cases o.dst<;>rfl
 rw[this];exact hv
theorem act_frz {Ws:List Nat} {o:Oper} {Q:St->Prop} (h:ActOk P Ws o st fun st'=>∃k e z l,lk k st'.own=some (.row e z l)/\Q (st'.frz k z l)):ActOk P Ws o st Q:=by
 intro w0 Sx γ a w QQ hI;refine Oper.wp_mono (fun a' w' hq'=>?_) (h w0 Sx γ a w QQ hI);obtain⟨γ',st',⟨k,e,z,l,hk,hq⟩,hs,h3,h4⟩:=hq';refine⟨γ',_,hq,sim_frz hk hs,h3,fun K hK b hb hv i bx hi hc=>?_⟩;have hi':(lk i st'.own).isSome=true:=by
  rw[show(st'.frz k z l).own=(del k st'.own).map fun p=>(p.1,p.2.frz k z l)from rfl,lk_map,lk_del]at hi;split at hi
  · cases hi
  · cases hx:lk i st'.own with
    |none=>rw[hx]at hi;cases hi
    |some _=>rfl
 obtain⟨by_,h2⟩:=Yv.1 hi';exact h4 K hK b hb hv i by_ h2 hc
theorem qM {T:TT} (hT:zm P T) {o:Oper} {t e:TypeId} {len:Nat} {parts:Array (Nat×Operand)} (ho:o.op=.buildSlice t len parts) {d:Nat} (hdst:o.dst=some d) {ti ei:TyI} (ht:lk t T=some ti) (hte:ti.d=.sl e) (he:lk e T=some ei)
 (hsz:Nat.blt 0 ei.size=true) (hsmall:Nat.ble (len*ei.size) 16777216=true) {xs:List Operand} (hxs:jM 0 parts.toList=some xs) (hlen:Nat.beq xs.length len=true) {l:List (List PV)} (hl:bElems st ei.size xs=some l)
 (hd:lk d st.own=none) (hn:Nat.blt d st.n=true) {Q:St->Prop} (h:Q ((⟨st.n,(d,.row d)::st.fr,(d,.row e ei.size l)::st.own⟩:St).frz d ei.size l)):ActOk P [] o st Q:=
 act_frz (zj hT ho hdst ht hte he hsz hsmall hxs hlen hl hd hn ⟨d,e,ei.size,l,by rw[qL,Yi rfl],h⟩)
theorem opR_loadL {T:TT} {K:List Nat} {st:St} {t:TypeId} {ad:Operand} {i:TyI} {j z k:Nat} {e:TypeId} {l:List (List PV)} {x:List PV} {s:PV} (ht:lk t T=some i) (had:evS st ad=some (.eptr j z k 0)) (hK:K.contains j=false) (hj:lk j st.own=some (.row e z l)) (hx:l[k]?=some x) (hs:takeT i x=some s):opR T K st (.load t ad)=some (k<l.length,.p s):=by
 show rLoad T K st t (evS st ad)=_;unfold rLoad;rw[had,ht];have h9:l.getD k []=x:=by rw[List.getD_eq_getElem?_getD,hx];rfl
 have hz:Nat.beq z z=true:=Nat.beq_refl z;simp only[hK,hj,hz,h9,List.drop_zero,hs,cond_true]
end
section
open Go.RowKit
theorem concat_h (ls:List Bs) (hn:ls.length<=1000) (hs:ls.flatten.length<=10000000):Holds prog 87 [.sl 1 (ls.map fun b=>[bP b])] (.p (bP ls.flatten)) []:=by
 have ll:(ls.map fun b=>[bP b]).length=ls.length:=Yb _;have tk:∀k,(ls.take k).flatten.length<=ls.flatten.length:=fun k=>by
  have h:(ls.take k).flatten++(ls.drop k).flatten=ls.flatten:=by rw[<-List.flatten_append,Xq]
  have:=congrArg List.length h;rw[Ya]at this;omega
 have st:∀k (hk:k<ls.length),(ls.take (k+1)).flatten=(ls.take k).flatten++ls[k]:=fun k hk=>by
  rw[Ym hk,List.flatten_append];simp
 refine Vd ?_;show HoldsW _ _ [.p (.sl 1 (ls.map fun b=>[bP b]))] [] _ _;refine qE (ts:=[2]) func87 DG rfl rfl rfl ?_;refine LN ?_;rw[ll];refine uB ?_;refine uZ [0,3,9,10,11] [] ?_;refine qG (fun m s=>∃k:Nat,k<=ls.length/\m=ls.length-k/\s=⟨36,[(0,.p (.sl 1 (ls.map fun b=>[bP b]))),(3,.p (pI ((ls.take k).flatten.length:Int))),(9,.p (.sl 1 (ls.map fun b=>[bP b]))),(10,.p (pI (ls.length:Int))),(11,.p (pI (k:Int)))],[]⟩) ls.length ⟨0,Yl _,rfl,rfl⟩ ?_;rintro m s ⟨k,hk,rfl,rfl⟩;have tk0:=tk k;refine uA ?_;by_cases hlt:k<ls.length
 · rw[show decide ((k:Int)<(ls.length:Int))=true by rw[Yf];omega];refine uC (fun hc=>?_) (fun hc=>?_);rotate_left
   · cases hc
   refine Li ?_;refine Ux ?_;rw[qw hlt];refine Ko ?_;have tk1:=tk (k+1);have st1:=congrArg List.length (st k hlt);rw[Ya]at st1;refine uR ?_;rw[zY,show IntKind.i64.wrap (((ls.take k).flatten.length:Int)+(ls[k].length:Int))=((ls.take (k+1)).flatten.length:Int)by rw[st1];exact YD _ DP];refine KF ?_;rw[show decide (((ls.take (k+1)).flatten.length:Int)<0)=false by rw[Yh];omega];refine uC (fun hc=>?_) (fun hc=>?_)
   · cases hc
   refine Kw ?_;refine⟨_,_,?_,qj [0,3,9,10,11] [] rfl rfl,k+1,hlt,rfl,by rw[qq hlt DP];rfl⟩;omega
 rw[show decide ((k:Int)<(ls.length:Int))=false by rw[Yh];omega];refine uC (fun hc=>?_) (fun hc=>?_)
 · cases hc
 refine qC ?_;have hkl:k=ls.length:=by omega
 subst hkl;rw[Yu];refine uR ?_;refine uW [] (grow_h ls.flatten.length DP) ?_;refine Ku ?_;rw[ll];refine uB ?_;refine uZ [6,25,26,27] [(25000,6)] ?_;refine qG (fun m s=>∃k:Nat,k<=ls.length/\m=ls.length-k/\s=⟨36,[(6,.row 6),(25,.p (.sl 1 (ls.map fun b=>[bP b]))),(26,.p (pI (ls.length:Int))),(27,.p (pI (k:Int)))],[(6,.row 5 1 (bR (ls.take k).flatten))]⟩) ls.length ⟨0,Yl _,rfl,rfl⟩ ?_;rintro m s ⟨k,hk,rfl,rfl⟩;have tk0:=tk k;refine uA ?_;by_cases hlt:k<ls.length
 · rw[show decide ((k:Int)<(ls.length:Int))=true by rw[Yf];omega];refine uC (fun hc=>?_) (fun hc=>?_);rotate_left
   · cases hc
   refine Li ?_;refine Ux ?_;rw[qw hlt];refine Ko ?_;have tk1:=tk (k+1);have st1:=congrArg List.length (st k hlt);rw[Ya]at st1;refine uR ?_;refine qy rfl (qp qc rfl rfl rfl rfl rfl rfl rfl rfl rfl rfl rfl rfl rfl rfl rfl rfl (by rw[zY,zY];unfold reachBytes;omega) (by rw[zY,zY];show(_+_)*1<=_;omega) ?_);refine Ku ?_;refine⟨_,_,?_,qj [6,25,26,27] [(33,6)] rfl rfl,k+1,hlt,rfl,by rw[qq hlt DP,st k hlt,bR_app];rfl⟩;omega
 rw[show decide ((k:Int)<(ls.length:Int))=false by rw[Yh];omega];refine uC (fun hc=>?_) (fun hc=>?_)
 · cases hc
 refine qC ?_;have hkl:k=ls.length:=by omega
 subst hkl;rw[Yu];refine Kp ?_;exact⟨Or.inr rfl,_,_,[],qu (k:=6) rfl,rfl,rfl,rfl,rfl⟩
section
variable {P:Program} {T:TT} {st:St}
theorem act_grow {o:Oper} {d:Nat} (hdst:o.dst=some d) {j z:Nat} {e:TypeId} {l l2:List (List PV)} (hj:lk j st.own=some (.row e z l)) (hd:lk d (killO j st.own)=none) (hn:Nat.blt d st.n=true) (hr:l.length+l2.length<=reachBytes) (g3:∀x∈l2,x.length=z/\∀s∈x,oneP s=true)
 (hR:∀(w0:Base) (Sx:Nat->Prop) (γ:Nat->Value) (a:Act) (w:World),Sim w0 Sx γ st a w->RowO rPV z (wE Sx γ st.own j) w 0 e (γ j) l->wE Sx γ st.own j w.heap.size->
  ∃v' w',(execOp a.eval o).run P w=.ok (.value v') w'/\RowO rPV z (wE Sx γ st.own j) w' 0 e v' (l++l2)/\w.grownBy w' (γ j).ownBlock/\(v'.ownBlock=(γ j).ownBlock\/v'.ownBlock=some w.heap.size))
 {Q:St->Prop} (h:Q ⟨st.n,(d,.row d)::killF j st.fr,(d,.row e z (l++l2))::killO j st.own⟩):ActOk P [j] o st Q:=by
 intro w0 Sx γ a w QQ hI;have hlt:d<st.n:=by simpa [Nat.blt,YJ]using hn
 cases hI.heap.box j _ hj with
 |row hrow hel hml hkj=>
 obtain⟨v',w',hrun,k1,k2,k3⟩:=hR w0 Sx γ a w hI hrow ⟨fun hs=>by have:=hI.heap.sx.lt _ (hI.heap.sx.sub _ hs);omega,fun i bx hi _ hb=>by have:=(hI.heap.blk hi hb).2;omega⟩;have hoj:(γ j).ownBlock=zg (γ j):=by obtain⟨A',c',hv',_⟩:=hrow.shape;rw[hv',jN]
 have hov:v'.ownBlock=zg v':=by obtain⟨A',c',hv',_⟩:=k1.shape;rw[hv',jN]
 have hvb:∀b,zg v'=some b->zg (γ j)=some b\/b=w.heap.size:=fun b hb=>by
  rw[<-hov]at hb;rcases k3 with k|k
  · rw[hb,hoj]at k;exact Or.inl k.symm
  · rw[hb]at k;cases k;exact Or.inr rfl
 generalize hown':((d,Box.row e z (l++l2))::killO j st.own)=own' at*;have lk':∀i,lk i own'=if i=d then some (.row e z (l++l2))else if i=j then none else(lk i st.own).map (klB j):=fun i=>by
  rw[<-hown',qL,lk_killO]
 have old:∀{i bx},lk i own'=some bx->i≠d->i≠j/\∃by_,lk i st.own=some by_/\bx=klB j by_:=fun{i bx} hi hid=>by
  rw[lk',Yc hid]at hi;by_cases e:i=j
  · rw[Yi e]at hi;cases hi
  · rw[Yc e]at hi;cases h2:lk i st.own with
    |none=>rw[h2]at hi;cases hi
    |some by_=>rw[h2]at hi;cases hi;exact⟨e,by_,rfl,rfl⟩
 have hud:upd γ d v' d=v':=Yi rfl;have huo:∀i,i≠d->upd γ d v' i=γ i:=fun i hi=>Yc hi
 have same:∀b,b<w.heap.size->zg (γ j)≠some b->w'.heap[b]?=w.heap[b]?:=fun b hb hne=>k2.block b hb (by rw[hoj];exact fun e=>hne e.symm)
 have okn:∀b,b<w.heap.size->okO Sx γ st.own b->okO Sx (upd γ d v') own' b:=fun b hb hok=>⟨hok.1,fun i bx hi hib=>by
  by_cases e:i=d
  · subst e;rw[hud]at hib;rcases hvb b hib with h|h
    · exact hok.2 j _ hj h
    · omega
  · obtain⟨_,by_,h2,_⟩:=old hi e;rw[huo i e]at hib;exact hok.2 i by_ h2 hib⟩
 have keepS:∀{s:SV} {u:Value},RelS (okO Sx γ st.own) (hp γ st.own) w s u->RelS (okO Sx (upd γ d v') own') (hp (upd γ d v') own') w' (kl j s) u:=fun{s u} h=>by
  have h1:=h.kl j;refine h1.keep2 k2.size (fun b hb hok=>⟨same b hb fun e=>hok.2 j _ hj e,okn b hb hok⟩) fun i hi=>?_
  have hij:i≠j:=fun e=>by subst e;rw[noRef_kl]at hi;cases hi
  have hs:=qaF hi;have hlive:(lk i st.own).isSome=true:=by
   cases h2:lk i st.own with
   |some _=>rfl
   |none=>rw[h.live (jO h2)]at hs;cases hs.1
  obtain⟨by_,h2⟩:=Yv.1 hlive;have hid:i≠d:=fun e=>by
   subst e;rw[lk_killO,Yc hij,h2]at hd;cases hd
  exact G6
 have hbel:BelowB w0 w':=hI.below.step ⟨k2.os,k2.tape,k2.output,k2.size,fun b hb=>absurd hb (Nat.not_lt_zero _)⟩ fun b hb=>same b (hI.heap.sx.lt b hb) fun e=>hkj b e hb
 have hdl:d<1000000:=by have:=hI.size.2;omega
 have hst:Stays w0 Sx (upd γ d v') own' w':=hI.heap.sx.keep k2.size fun i bx hi=>by
  by_cases e:i=d
  · exact Or.inl DP
  · obtain⟨_,by_,h2,_⟩:=old hi e;exact Or.inr ⟨huo i e,by rw[h2];rfl⟩
 have hheap:HeapOk w0 Sx (upd γ d v') own' w':=by
  refine⟨fun i bx hi=>?_,fun i k bi bk b hi hk hbi hbk=>?_,hst⟩
  · by_cases e:i=d
    · subst e;rw[lk',Yi rfl]at hi;cases hi;refine .row ?_ (fun x hx=>?_) (by rw[Ya];exact hr) (fun b hb hk=>by rw[hud]at hb;rcases hvb b hb with h|h;exact hkj b h hk;have:=hI.heap.sx.lt _ hk;omega)
      · rw[hud];refine k1.keep2 good_PV (Yk _) (fun _ _=>rfl) fun b _ hok _=>⟨rfl,hok.1,fun k bx hk hkd hkb=>?_⟩
        obtain⟨hkj,by_,h2,_⟩:=old hk hkd;rw[huo k hkd]at hkb;exact hok.2 k by_ h2 hkj hkb
      · rcases YL.1 hx with hx|hx
        · exact hel x hx
        · exact g3 x hx
    · obtain⟨hij,by_,h2,rfl⟩:=old hi e;exact(hI.heap.box i by_ h2).keep (Box.rel_map (kl j) (fun _=>rfl) by_) (huo i e) k2.size (fun b hb=>⟨same b (hI.heap.blk h2 hb).2 fun ej=>hij (hI.heap.inj i j _ _ b h2 hj hb ej),(hI.heap.blk h2 hb).1⟩) (fun b hb hok=>⟨same b hb fun ej=>hok.2 j _ hj ej,okn b hb hok⟩) fun s u s' hs es=>by subst es;exact keepS hs
  · have blt:∀{m bm},lk m own'=some bm->m≠d->zg (upd γ d v' m)=some b->m≠j/\b<w.heap.size/\∃b0,lk m st.own=some b0/\zg (γ m)=some b:=fun{m bm} hm hmd hmb=>by
     obtain⟨h1,by_,h2,_⟩:=old hm hmd;rw[huo m hmd]at hmb;exact⟨h1,(hI.heap.blk h2 hmb).2,by_,h2,hmb⟩
    by_cases e:i=d
    · by_cases e2:k=d
      · rw[e,e2]
      · exfalso;obtain⟨q1,q2,b0,q3,q4⟩:=blt hk e2 hbk;subst e;rw[hud]at hbi;rcases hvb b hbi with h|h
        · exact q1 (hI.heap.inj k j _ _ b q3 hj q4 h)
        · omega
    · obtain⟨p1,p2,c0,p3,p4⟩:=blt hi e hbi;by_cases e2:k=d
      · exfalso;subst e2;rw[hud]at hbk;rcases hvb b hbk with h|h
        · exact p1 (hI.heap.inj i j _ _ b p3 hj p4 h)
        · omega
      · obtain⟨q1,q2,b0,q3,q4⟩:=blt hk e2 hbk;exact hI.heap.inj i k _ _ b p3 q3 p4 q4
 have hS:Sim w0 Sx (upd γ d v') ⟨st.n,killF j st.fr,own'⟩ a w':=⟨hbel,hI.size,hI.defers,fun t s ht=>by
  have ht':(lk t st.fr).map (kl j)=some s:=by rw[<-lk_killF];exact ht
  cases h2:lk t st.fr with
  |none=>rw[h2]at ht';cases ht'
  |some s0=>rw[h2]at ht';cases ht';exact keepS (hI.fr t s0 h2),hheap⟩
 have hS2:=hS.put (dst:=some d) (s:=.row d) (v:=v') (by simpa [jW,Nat.blt,YJ]using hlt) (.row (by rw[zb (bx:=.row e z (l++l2)) (by rw[lk',Yi rfl]),hud]));unfold Oper.wp;rw[hrun,Oper.upon_value,hdst];refine⟨_,_,h,hS2,⟨k2.size,fun b hb hv=>same b hb fun ej=>hv j _ hj DQ ej⟩,fun K hK b hb hv i bx hi hiK hib=>?_⟩;by_cases e:i=d
 · subst e;rw[hud]at hib;rcases hvb b hib with h|h
   · exact hv j _ hj EH h
   · omega
 · obtain⟨_,by_,h2,_⟩:=old hi e;rw[huo i e]at hib;exact hv i by_ h2 hiK hib
end
theorem rPV_byte {ok:Nat->Prop} {w:World} (c:UInt8):rPV ok w [.int .u8 (c.toNat:Int)] [pU c]:=⟨rfl,fun j s u a b=>by
 cases j with
 |zero=>simp at a b;subst a;subst b;exact .v rfl
 |succ j=>simp at a⟩
theorem run_append_rowS {P:Program} {ok:Nat->Prop} {w:World} (t u ty e:TypeId) (i:TypeInfo) (ht:P.underlying t=some (.slice e)) (hu:P.underlying u=some .string) (hi:P.info? e=some i) (hz:i.zero=some (.int .u8 0)) (hsize:i.size=1) (hby:i.bytes=1)
 (v:Value) (l:List (List PV)) (hown:RowO rPV 1 ok w 0 e v l) (s:Bs) (h63:l.length+s.length<=1000000000) (hokn:ok w.heap.size):
 ∃v' w',(Builtin.append_ #[t,u] ty #[v,.string ⟨⟨s⟩⟩]).run P w=.ok v' w'/\RowO rPV 1 ok w' 0 e v' (l++bR s)/\w.grownBy w' v.ownBlock/\(v'.ownBlock=v.ownBlock\/v'.ownBlock=some w.heap.size):=by
 obtain⟨css,h1,h2,h3⟩:=hown;have ls:(⟨⟨s⟩⟩:DT).size=s.length:=rfl;obtain⟨v',w',hrun,g1,g2,g4⟩:=Lib.run_append_own_string (P:=P) w 0 t u ty e i ht hu hi hz hsize hby v _ _ h1 ⟨⟨s⟩⟩ (by rw[ls];unfold maxLen;omega) Dx (Yl _);have g5:v'.ownBlock=v.ownBlock\/v'.ownBlock=some w.heap.size:=by
  rcases h1.2 with⟨rfl,h0⟩|⟨g,cap,cur,rfl,_,hg,hnc,hcm,hcs,_⟩
  · by_cases hm:s.length=0
    · rw[g4.2 ⟨rfl,hm⟩];exact .inl rfl
    · have hr:=run_append_nil_string (P:=P) w t u ty e i (.int .u8 0) ht hu hi hz ⟨⟨s⟩⟩ Dx Dx (by rw[hby,ls];omega);have:=hrun.symm.trans hr;simp only[Result.ok.injEq]at this;rw[this.1];exact .inr rfl
  · by_cases hroom:css.length+s.length<=cap
    · have hr:=Lib.run_append_room_string (P:=P) w t u ty e i ht hu hi hsize g css.length cap cur hg ⟨⟨s⟩⟩ hroom Dx;have:=hrun.symm.trans hr;simp only[Result.ok.injEq]at this;rw[this.1];exact .inl rfl
    · have hr:=Lib.run_append_grow_string (P:=P) w t u ty e i (.int .u8 0) ht hu hi hz ⟨g,0,none⟩ css.length cap (css.flatMap Subtype.val) (by rw[hsize];exact h1.1) (h1.cells (g:=g) rfl) ⟨⟨s⟩⟩ Dx Dx (by rw[hby];exact growslice_fits Dx DP);have:=hrun.symm.trans hr;simp only[Result.ok.injEq]at this;rw[this.1];exact .inr rfl
 obtain⟨css2,hcss2⟩:∃css2:List (Cel 1),css2=s.map fun c=>⟨[.int .u8 (c.toNat:Int)],rfl,fun u hu=>by rw[YA.1 hu];rfl⟩:=⟨_,rfl⟩
 have hl2:css2.length=s.length:=by rw[hcss2,Yb]
 have hget:∀k (hk:k<css2.length) (hs:k<s.length),css2[k].val=[.int .u8 (s[k].toNat:Int)]:=fun k hk hs=>by subst hcss2;simp
 have hfl:css2.flatMap Subtype.val=Lib.strCells ⟨⟨s⟩⟩:=by
  rw[hcss2];show _=s.map _;rw[List.flatMap_map];clear hrun g1 g4 hl2 hget hcss2 h63 ls
  induction s with
  |nil=>rfl
  |cons c s ih=>rw[YW,ih];rfl
 have hlt:∀b,b<w.heap.size->okR ok v b->okR ok v b/\okR ok v' b:=fun b hb hk=>⟨hk,hk.1,by
  rcases g5 with g|g
  · rw[g];exact hk.2
  · rw[g];intro he;simp only[Ye]at he;omega⟩
 have hsame:SameOn (fun b=>okR ok v b/\okR ok v' b) w w':=⟨g2.size,fun b hb hk=>g2.block b hb hk.1.2⟩;have fin:∀cs x,rPV (okR ok v) w cs x->rPV (okR ok v') w' cs x:=fun cs x hx=>good_PV.weak _ _ _ _ _ (fun _ _ h=>h.2) (good_PV.keep _ _ _ _ _ hsame (good_PV.weak _ _ _ _ _ hlt hx))
 refine⟨v',w',hrun,⟨css++css2,?_,by rw[Ya,Ya,h2,hl2,zY],fun j a1 a2=>?_⟩,g2,g5⟩
 · unfold OwnF;rw[Ya,List.flatMap_append,hl2,hfl];exact g1
 · by_cases hj:j<css.length
   · rw[List.getElem_append_left hj,List.getElem_append_left DP];exact fin _ _ (h3 j hj DP)
   · have hj2:j-css.length<s.length:=by rw[Ya]at a1;omega
     rw[List.getElem_append_right DP,List.getElem_append_right DP,hget _ _ hj2];have:(bR s)[j-l.length]'(by rw[zY,<-h2];exact hj2)=[pU s[j-css.length]]:=by simp[bR,h2]
     rw[this];exact rPV_byte _
section
variable {P:Program} {T:TT} (hT:zm P T) {st:St}
include hT
theorem act_append_str {o:Oper} {sx xx:Operand} {t u e:TypeId} {cl:Call} (ho:o.op=.call cl) (hcl:cl.callee=.builtin .append) (hargs:cl.args.toList=[sx,xx]) (hts:cl.argTypes.toList=[t,u]) {d:Nat} (hdst:o.dst=some d)
 {ti ui:TyI} (ht:lk t T=some ti) (hte:ti.d=.sl e) (hu:lk u T=some ui) (hue:ui.d=.str) (hz:(P.info? e).map (fun i=>(i.zero,i.size,i.bytes))=some (some (.int .u8 0),1,1)) {j:Nat} (hs:evS st sx=some (.row j)) {l:List (List PV)} (hj:lk j st.own=some (.row e 1 l))
 {s:Bs} (hx:evS st xx=some (.p (pL s))) (hd:lk d (killO j st.own)=none) (hn:Nat.blt d st.n=true) (hr:l.length+s.length<=1000000)
 {Q:St->Prop} (h:Q ⟨st.n,(d,.row d)::killF j st.fr,(d,.row e 1 (l++bR s))::killO j st.own⟩):ActOk P [j] o st Q:=by
 refine act_grow hdst hj hd hn (by rw[zY];unfold reachBytes;omega) (fun x hx=>?_) (fun w0 Sx γ a w hI hrow hok=>?_) h
 · obtain⟨c,_,rfl⟩:=Y1.1 hx;exact⟨rfl,fun s hs=>by rw[YA.1 hs];rfl⟩
 · obtain⟨info,hinf,hzi⟩:=YP.1 hz;simp only[Yt]at hzi;obtain⟨hzv,hsize,hbys⟩:=hzi;have hut:=(hT t ti ht).und;rw[hte]at hut;have huu:=(hT u ui hu).und;rw[hue]at huu;have hsv:a.eval sx=γ j:=by
    have:=qK hI hs;generalize a.eval sx=u at this⊢;cases this with
    |row hg=>rw[zb hj]at hg;cases hg;rfl
   have hxv:=(qK hI hx).v_inv;have hargs':cl.args=#[sx,xx]:=by rw[<-Xc (xs:=cl.args),hargs]
   have hts':cl.argTypes=#[t,u]:=by rw[<-Xc (xs:=cl.argTypes),hts]
   obtain⟨v',w',hrun,g1,g2,g3⟩:=run_append_rowS (P:=P) t u o.type e info hut huu hinf hzv hsize hbys (γ j) l hrow s DP hok;refine⟨v',w',?_,g1,g2,g3⟩;simp only[execOp,ho,resolve,hcl,hargs',hts',YG,YR,Ys,invoke,builtin,List.map_toArray,Y2,List.map_nil,hsv,hxv,hrun]
end
theorem beqB (a b:DT):(a.toList==b.toList)=decide (a=b):=by
 rw[YO];exact LS
theorem act_h (k:Int):Holds prog 25 [pI k] (.p (pS (actC k))) []:=by
 by_cases h:1<=k/\k<=7
 · have:k=1\/k=2\/k=3\/k=4\/k=5\/k=6\/k=7:=by omega
   rcases this with rfl|rfl|rfl|rfl|rfl|rfl|rfl
   · refine VZ ?_;refine Kq ?_;refine K4 ?_;refine Ko ?_;refine uC (fun hc=>?_) (fun hc=>?_)
     · cases hc
     refine qh ?_;refine R4 ?_;refine uR ?_;refine GJ ?_;exact LU
   · refine VZ ?_;refine Kq ?_;refine K4 ?_;refine Ko ?_;refine uC (fun hc=>?_) (fun hc=>?_)
     · cases hc
     refine qh ?_;refine R4 ?_;refine uR ?_;refine GJ ?_;exact LU
   · refine VZ ?_;refine Kq ?_;refine K4 ?_;refine Ko ?_;refine uC (fun hc=>?_) (fun hc=>?_)
     · cases hc
     refine qh ?_;refine R4 ?_;refine uR ?_;refine GJ ?_;exact LU
   · refine VZ ?_;refine Kq ?_;refine K4 ?_;refine Ko ?_;refine uC (fun hc=>?_) (fun hc=>?_)
     · cases hc
     refine qh ?_;refine R4 ?_;refine uR ?_;refine GJ ?_;exact LU
   · refine VZ ?_;refine Kq ?_;refine K4 ?_;refine Ko ?_;refine uC (fun hc=>?_) (fun hc=>?_)
     · cases hc
     refine qh ?_;refine R4 ?_;refine uR ?_;refine GJ ?_;exact LU
   · refine VZ ?_;refine Kq ?_;refine K4 ?_;refine Ko ?_;refine uC (fun hc=>?_) (fun hc=>?_)
     · cases hc
     refine qh ?_;refine R4 ?_;refine uR ?_;refine GJ ?_;exact LU
   · refine VZ ?_;refine Kq ?_;refine K4 ?_;refine Ko ?_;refine uC (fun hc=>?_) (fun hc=>?_)
     · cases hc
     refine qh ?_;refine R4 ?_;refine uR ?_;refine GJ ?_;exact LU
 · have e:actC k=wTick:=by unfold actC;rw[Yc DP,Yc DP,Yc DP,Yc DP,Yc DP,Yc DP,Yc DP]
   rw[e];refine VZ ?_;refine Kq ?_;refine K4 ?_;by_cases h1:k<1
   · rw[Yz h1];refine Ko ?_;refine uC (fun hc=>?_) (fun hc=>?_);rotate_left
     · cases hc
     refine Kp ?_;exact Gv
   · rw[YB h1];refine Ko ?_;refine uC (fun hc=>?_) (fun hc=>?_);rotate_left
     · have hc':decide (k>((7:Nat):Int))=false:=hc;rw[Yh]at hc';omega
     refine Kp ?_;exact Gv
theorem onC_h (k:Int):Holds prog 154 [pI k] (.p (pB (onC k))) []:=by
 refine qo (ts:=[2]) func154 DG rfl rfl rfl ?_;refine uA ?_;refine KB ?_;refine Lg ?_;unfold onC;cases h1:decide (1<=k)<;>simp_all
theorem foll_h (a b:DT):Holds prog 183 [pS a,pS b] (.p (pB (follC a b))) []:=by
 refine qo (ts:=[4]) func183 DG rfl rfl rfl ?_;refine K2 ?_;rw[beqB];by_cases h1:a=wOpen
 · rw[show decide (a=⟨#[111,112,101,110]⟩)=true from Yz h1];refine uC (fun hc=>?_) (fun hc=>?_);rotate_left
   · cases hc
   refine LY ?_;unfold follC;rw[Yi h1,beqB];rfl
 · rw[show decide (a=⟨#[111,112,101,110]⟩)=false from YB h1];refine uC (fun hc=>?_) (fun hc=>?_)
   · cases hc
   refine uA ?_;rw[beqB];by_cases h2:a=wWork
   · rw[show decide (a=⟨#[119,111,114,107]⟩)=true from Yz h2];refine uC (fun hc=>?_) (fun hc=>?_);rotate_left
     · cases hc
     refine LY ?_;unfold follC;rw[Yc h1,Yi h2,beqB];rfl
   · rw[show decide (a=⟨#[119,111,114,107]⟩)=false from YB h2];refine uC (fun hc=>?_) (fun hc=>?_)
     · cases hc
     refine uA ?_;rw[beqB];by_cases h3:a=wDone
     · rw[show decide (a=⟨#[100,111,110,101]⟩)=true from Yz h3];refine uC (fun hc=>?_) (fun hc=>?_);rotate_left
       · cases hc
       refine KB ?_;refine Lg ?_;unfold follC;rw[Yc h1,Yc h2,Yi h3,beqB,beqB];show(bif decide (b=wWork)then true else decide (b=wClosed))=_;cases decide (b=wWork)<;>rfl
     · rw[show decide (a=⟨#[100,111,110,101]⟩)=false from YB h3];refine uC (fun hc=>?_) (fun hc=>?_)
       · cases hc
       refine KA ?_;refine VI ?_;unfold follC;rw[Yc h1,Yc h2,Yc h3]
theorem empt_h (s:DT) (hs:s.size<=1000000):Holds prog 96 [pS s] (.p (pB (emptC s))) []:=by
 refine qo (ts:=[2]) func96 DG rfl rfl rfl ?_;refine LM ?_;refine qV rfl rfl rfl rfl (name_h s (by unfold reachBytes;omega)) rfl rfl ?_;refine Ky ?_;refine Lg ?_;rw[beqB];show(bif decide (s=e0)then true else qad s)=(emB s||qad s);unfold emB;cases decide (s=e0)<;>rfl
theorem rea_h (o:Opn):Holds prog 95 [.agg o.pv] (.p (pB (reaC o))) []:=by
 refine qo (ts:=[2]) func95 DG rfl rfl rfl ?_;refine Kq ?_;refine qe ?_;obtain⟨kind,subj,cs,field,to_,val,rev,text,reason,glass⟩:=o;cases glass with
 |true=>
  refine uC (fun hc=>?_) (fun hc=>?_)
  · cases hc
  refine qh ?_;refine KM ?_;refine qV rfl rfl rfl rfl (onC_h kind) rfl rfl ?_;refine Ky ?_;refine Lg ?_;dsimp only;rw[beqB];show(bif (bif onC kind then !decide (reason=e0)else false)then decide ((reason.size:Int)<=64)else false)=(onC kind&&(!decide (reason=e0)&&decide (reason.size<=64)));rw[show decide ((reason.size:Int)<=64)=decide (reason.size<=64)by rw[YO];simp only[Yf];omega];cases onC kind<;>cases decide (reason=e0)<;>rfl
 |false=>
  refine uC (fun hc=>?_) (fun hc=>?_);rotate_left
  · cases hc
  refine LY ?_;rw[beqB];rfl
theorem bare_h (o:Opn):Holds prog 155 [.agg o.pv] (.p (.agg {o with subj:=e0,reason:=e0,glass:=false}.pv)) []:=by
 refine Vd ?_;show HoldsW _ _ [.p (.agg o.pv)] [] _ _;refine qz (T:=TTab) qc func155 DG rfl rfl rfl ?_;refine Kr ?_;refine Kp ?_;exact XC
def eqO (a b:Opn):Bool:=(a.kind==b.kind)&&((a.subj.toList==b.subj.toList)&&((a.case_.toList==b.case_.toList)&&((a.field.toList==b.field.toList)&&((a.to_.toList==b.to_.toList)&&((a.val.kind==b.val.kind)&&((a.val.n==b.val.n)&&((a.val.s.toList==b.val.s.toList)&&((a.rev==b.rev)&&((a.text.toList==b.text.toList)&&((a.reason.toList==b.reason.toList)&&((a.glass==b.glass)&&true)))))))))))
def Opn.sv (o:Opn):List SV:=[.p (pI o.kind),.p (pS o.subj),.p (pS o.case_),.p (pS o.field),.p (pS o.to_),.p (pI o.val.kind),.p (pI o.val.n),.p (pS o.val.s),.p (pI o.rev),.p (pS o.text),.p (pS o.reason),.p (pB o.glass)]
def bareC (o:Opn):Opn:={o with subj:=e0,reason:=e0,glass:=false}
def onlyC (o:Opn):Opn:=
 if o.kind=1 then{noOp with kind:=o.kind,case_:=o.case_}
 else if o.kind=2\/o.kind=6 then{noOp with kind:=o.kind,case_:=o.case_,field:=o.field}
 else if o.kind=3 then{noOp with kind:=o.kind,case_:=o.case_,field:=o.field,val:=o.val}
 else if o.kind=4 then{noOp with kind:=o.kind,case_:=o.case_,to_:=o.to_}
 else if o.kind=5 then{noOp with kind:=o.kind,rev:=o.rev}
 else if o.kind=7 then{noOp with kind:=o.kind,text:=o.text}
 else{noOp with kind:=o.kind,rev:=o.rev}
def hasA (o:Opn):Bool:=
 if o.kind=1 then !emB o.case_
 else if o.kind=2\/o.kind=6 then !emB o.case_&&!emB o.field
 else if o.kind=3 then !emB o.case_&&(!emB o.field&&!emV o.val)
 else if o.kind=4 then !emB o.case_&&!emB o.to_
 else if o.kind=5 then decide (0<o.rev)
 else if o.kind=7 then true
 else decide (0<o.rev)&&decide (o.rev<=1099511627776)
theorem eqO_take {o:Opn} (h:(1<=o.kind/\o.kind<=8)):(hasA o&&eqO (bareC o) (onlyC o))=takC o:=by
 have h8:o.kind=1\/o.kind=2\/o.kind=3\/o.kind=4\/o.kind=5\/o.kind=6\/o.kind=7\/o.kind=8:=by omega
 unfold eqO;simp only[beqB];obtain⟨kind,subj,cs,field,to_,val,rev,text,reason,glass⟩:=o;simp only at h8;rcases h8 with rfl|rfl|rfl|rfl|rfl|rfl|rfl|rfl<;>simp[hasA,onlyC,bareC,takC,noOp,emB,emV,Bool.and_assoc]<;>rfl
theorem eqV0 {v:Val}:emV v=((v.kind==0)&&((v.n==0)&&((v.s.toList==(⟨#[]⟩:DT).toList)&&true))):=by rw[beqB,Bool.and_true];rfl
theorem take_h (o:Opn):Holds prog 98 [.agg o.pv] (.p (pB (takC o))) []:=by
 have HB:=bare_h o;obtain⟨T,hT⟩:∃T,T=takC o:=⟨_,rfl⟩;rw[<-hT];refine qo (ts:=[2]) func98 DG rfl rfl rfl ?_;refine Kq ?_;refine uK HB ?_;refine Ko ?_;refine LN ?_;refine uZ [1,3,4,5,12] [(1,1),(3,3),(4,4)] ?_;change SW _ _ _ ⟨111,[(1,.ptr 1 0),(3,.ptr 3 0),(4,.ptr 4 0),(5,.p (pB true)),(12,.p (pI o.kind))],[(1,.cells o.sv),(3,.cells (bareC o).sv),(4,.cells ({noOp with kind:=o.kind}:Opn).sv)]⟩;refine Ut ?_;refine SW.mono (Q:=fun e st=>(e=.normal/\∃(b:Bool) (x:Opn),(b&&eqO (bareC o) x)=T/\Wk st ⟨111,[(3,.ptr 3 0),(4,.ptr 4 0),(5,.p (pB b))],[(3,.cells (bareC o).sv),(4,.cells x.sv)]⟩)\/(e=.ret/\Fin [2] (.p (pB T)) [] .ret st)) ?_ ?_
 · have hk:=eqO_take (o:=o);rw[<-hT]at hk;obtain⟨kind,subj,cs,field,to_,val,rev,text,reason,glass⟩:=o;simp only at hk;have hT':=hT;refine Kz ?_;by_cases h1:kind=1
   · subst h1;have hk:=hk DO;refine uC (fun hc=>?_) (fun hc=>?_);rotate_left
     · cases hc
     refine Kr ?_;rw[beqB];exact MS
   rw[show(kind==1)=false by simp[h1]];refine uC (fun hc=>?_) (fun hc=>?_)
   · cases hc
   refine uA ?_;have hj:∀st:St,Wk st ⟨111,[(1,.ptr 1 0),(3,.ptr 3 0),(4,.ptr 4 0),(5,.p (pB true)),(12,.p (pI kind)),(21,.p (pB (decide (kind=2\/kind=6))))],[(1,.cells (Opn.sv ⟨kind,subj,cs,field,to_,val,rev,text,reason,glass⟩)),(3,.cells (bareC ⟨kind,subj,cs,field,to_,val,rev,text,reason,glass⟩).sv),(4,.cells ({noOp with kind:=kind}:Opn).sv)]⟩->True:=fun _ _=>True.intro
   clear hj
   refine Ut ?_;refine SW.mono (Q:=fun e st=>e=.normal/\Wk st ⟨111,[(1,.ptr 1 0),(3,.ptr 3 0),(4,.ptr 4 0),(5,.p (pB true)),(12,.p (pI kind)),(21,.p (pB (decide (kind=2\/kind=6))))],[(1,.cells (Opn.sv ⟨kind,subj,cs,field,to_,val,rev,text,reason,glass⟩)),(3,.cells (bareC ⟨kind,subj,cs,field,to_,val,rev,text,reason,glass⟩).sv),(4,.cells ({noOp with kind:=kind}:Opn).sv)]⟩) ?_ ?_
   · by_cases h2:kind=2
     · rw[show(kind==2)=true by simp[h2]];refine uC (fun hc=>?_) (fun hc=>?_);rotate_left
       · cases hc
       refine qh ?_;rw[show decide (kind=2\/kind=6)=true by simp[h2]];exact⟨rfl,qj [1,3,4,5,12,21] [(1,1),(3,3),(4,4)] rfl rfl⟩
     · rw[show(kind==2)=false by simp[h2]];refine uC (fun hc=>?_) (fun hc=>?_)
       · cases hc
       refine uR ?_;refine qe ?_;rw[show decide (kind=2\/kind=6)=(kind==6)by simp only[h2,false_or];rfl];exact⟨rfl,qj [1,3,4,5,12,21] [(1,1),(3,3),(4,4)] rfl rfl⟩
   rintro e st ⟨rfl,hw⟩;refine V3 ?_;clear hw
   by_cases h2:kind=2\/kind=6
   · rw[Yz h2];have hk:=hk DP;unfold hasA onlyC at hk;simp only[Yc h1,Yi h2]at hk;refine uC (fun hc=>?_) (fun hc=>?_);rotate_left
     · cases hc
     refine uD [4] [1,3,5,7,9,10,13,14] ?_;refine qT ?_;refine KB ?_;refine .inl ⟨rfl,_,{noOp with kind:=kind,case_:=cs,field:=field},?_,qj [3,4,5] [(3,3),(4,4)] rfl rfl⟩;rw[<-hk];simp only[beqB];unfold emB;unfold e0;(cases decide (cs=⟨#[]⟩)<;>cases decide (field=⟨#[]⟩)<;>cases decide (to_=⟨#[]⟩)<;>rfl)
   · rw[YB h2];refine uC (fun hc=>?_) (fun hc=>?_)
     · cases hc
     refine uA ?_;by_cases h3:kind=3
     · subst h3;have hk:=hk DO;unfold hasA onlyC at hk;simp only[Yc h1,Yc h2,if_true]at hk;refine uC (fun hc=>?_) (fun hc=>?_);rotate_left
       · cases hc
       refine uD [4] [1,3,5,7,9,11,13,14,17,18,21,22] ?_;refine qT ?_;refine uR ?_;rw[beqB];by_cases hz:cs=e0
       · rw[show decide (cs=⟨#[]⟩)=true from Yz hz];refine Ko ?_;refine Uu ?_;rw[<-hk,show emB cs=true from Yz hz];rfl
       · rw[show decide (cs=⟨#[]⟩)=false from YB hz];refine uS ?_;rw[beqB];by_cases hy:field=e0
         · rw[show decide (field=⟨#[]⟩)=true from Yz hy];refine Ko ?_;refine Uu ?_;rw[<-hk,show emB cs=false from YB hz,show emB field=true from Yz hy];rfl
         · rw[show decide (field=⟨#[]⟩)=false from YB hy];refine uS ?_;refine qm qc rfl rfl (rfl) rfl ?_;refine Ko ?_;refine Uu ?_;rw[<-hk,show emB cs=false from YB hz,show emB field=false from YB hy,eqV0];rfl
     rw[show(kind==3)=false by simp[h3]];refine uC (fun hc=>?_) (fun hc=>?_)
     · cases hc
     refine uA ?_;by_cases h4:kind=4
     · subst h4;have hk:=hk DO;unfold hasA onlyC at hk;simp only[Yc h1,Yc h2,Yc h3,if_true]at hk;refine uC (fun hc=>?_) (fun hc=>?_);rotate_left
       · cases hc
       refine uD [4] [1,3,5,7,9,10,13,14] ?_;refine qT ?_;refine KB ?_;refine .inl ⟨rfl,_,{noOp with kind:=4,case_:=cs,to_:=to_},?_,qj [3,4,5] [(3,3),(4,4)] rfl rfl⟩;rw[<-hk];simp only[beqB];unfold emB;unfold e0;(cases decide (cs=⟨#[]⟩)<;>cases decide (field=⟨#[]⟩)<;>cases decide (to_=⟨#[]⟩)<;>rfl)
     rw[show(kind==4)=false by simp[h4]];refine uC (fun hc=>?_) (fun hc=>?_)
     · cases hc
     refine uA ?_;by_cases h5:kind=5
     · subst h5;have hk:=hk DO;unfold hasA onlyC at hk;simp only[Yc h1,Yc h2,Yc h3,Yc h4,if_true]at hk;refine uC (fun hc=>?_) (fun hc=>?_);rotate_left
       · cases hc
       refine Kr ?_;exact MS
     rw[show(kind==5)=false by simp[h5]];refine uC (fun hc=>?_) (fun hc=>?_)
     · cases hc
     refine uA ?_;by_cases h7:kind=7
     · subst h7;have hk:=hk DO;unfold hasA onlyC at hk;simp only[Yc h1,Yc h2,Yc h3,Yc h4,Yc h5,if_true]at hk;refine uC (fun hc=>?_) (fun hc=>?_);rotate_left
       · cases hc
       refine uA ?_;exact MS
     rw[show(kind==7)=false by simp[h7]];refine uC (fun hc=>?_) (fun hc=>?_)
     · cases hc
     refine uA ?_;by_cases h8:kind=8
     · subst h8;have hk:=hk DO;unfold hasA onlyC at hk;simp only[Yc h1,Yc h2,Yc h3,Yc h4,Yc h5,Yc h7]at hk;refine uC (fun hc=>?_) (fun hc=>?_);rotate_left
       · cases hc
       refine uA ?_;refine KB ?_;refine .inl ⟨rfl,_,{noOp with kind:=8,rev:=rev},?_,qj [3,4,5] [(3,3),(4,4)] rfl rfl⟩;rw[<-hk];show((bif decide (rev>0)then decide (rev<=1099511627776)else false)&&_)=_;cases decide (rev>0)<;>rfl
     rw[show(kind==8)=false by simp[h8]];refine uC (fun hc=>?_) (fun hc=>?_)
     · cases hc
     refine Kp ?_;refine .inr ⟨rfl,zf rfl ?_⟩;rw[hT'];unfold takC;dsimp only;rw[Yc h1,Yc DP,Yc h3,Yc h4,Yc h5,Yc h7,Yc h8]
 rintro e st (⟨rfl,b,x,he,hw⟩|⟨rfl,hf⟩);rotate_left
 · exact hf
 refine V3 ?_;subst he;cases b with
 |false=>
  refine uR ?_;refine KD ?_;exact Ur
 |true=>
  refine uR ?_;refine qm qc rfl rfl (rfl) rfl ?_;exact Ek
def kindW (w:DT):Int:=if w=wNew then 1 else if w=wRead then 2 else if w=wWrite then 3 else if w=wMove then 4 else if w=wClose then 5 else if w=wRole then 6 else if w=wPol then 7 else if w=wTick then 8 else 0
theorem kindW_at {w:DT} {k:Int} (h1:1<=k/\k<=8) (hb:∀j:Int,1<=j->j<k->actC j≠w) (h:actC k=w):kindW w=k:=by
 have h8:k=1\/k=2\/k=3\/k=4\/k=5\/k=6\/k=7\/k=8:=by omega
 subst h;rcases h8 with rfl|rfl|rfl|rfl|rfl|rfl|rfl|rfl<;>rfl
theorem kindW_no {w:DT} (hb:∀j:Int,1<=j->j<9->actC j≠w):kindW w=0:=by
 unfold kindW;rw[Yc fun h=>hb 1 DP DP h.symm,Yc fun h=>hb 2 DP DP h.symm,Yc fun h=>hb 3 DP DP h.symm,Yc fun h=>hb 4 DP DP h.symm,Yc fun h=>hb 5 DP DP h.symm,Yc fun h=>hb 6 DP DP h.symm,Yc fun h=>hb 7 DP DP h.symm,Yc fun h=>hb 8 DP DP h.symm]
theorem kindW_h (w:DT):Holds prog 44 [pS w] (.p (pI (kindW w))) []:=by
 refine qo (ts:=[2]) func44 DG rfl rfl rfl ?_;refine KH ?_;refine uZ [0,3] [] ?_;refine qG (fun m st=>∃k:Int,1<=k/\k<=9/\(m:Int)=9-k/\(∀j:Int,1<=j->j<k->actC j≠w)/\st=⟨13,[(0,.p (pS w)),(3,.p (pI k))],[]⟩) 8 ⟨1,by omega,by omega,by omega,fun j h1 h2=>by omega,rfl⟩ ?_;rintro m st ⟨k,hk1,hk9,hm,hb,rfl⟩;refine uA ?_;by_cases hlt:k<=8
 · rw[Yz hlt];refine uC (fun hc=>?_) (fun hc=>?_);rotate_left
   · cases hc
   refine Li ?_;refine uK (act_h k) ?_;refine Ko ?_;rw[beqB];by_cases hw:actC k=w
   · rw[Yz hw];refine uC (fun hc=>?_) (fun hc=>?_);rotate_left
     · cases hc
     refine Kp ?_;exact qZ rfl (kindW_at ⟨hk1,hlt⟩ hb hw).symm
   · rw[YB hw];refine uC (fun hc=>?_) (fun hc=>?_)
     · cases hc
     refine Kw ?_;refine⟨m-1,_,by omega,qj [0,3] [] rfl rfl,k+1,by omega,by omega,by omega,fun j h1 h2=>?_,?_⟩
     · by_cases h3:j=k
       · rw[h3];exact hw
       · exact hb j h1 DP
     · rw[show IntKind.i64.wrap (k+1)=k+1 from YD _ DP];rfl
 · rw[YB hlt];refine uC (fun hc=>?_) (fun hc=>?_)
   · cases hc
   refine K3 ?_;exact qZ rfl (kindW_no fun j h1 h2=>hb j h1 DP).symm
end
section
open Go.RowKit Go.Shelf
def laysWB_ren:Go.Shelf.Ren:=⟨fun|167=>197|240=>249|276=>286|n=>n,fun|70=>286|5=>5|75=>184|0=>0|72=>288|37=>100|4=>4|164=>374|80=>202|9=>9|n=>n,fun|n=>n⟩
theorem laysWB:Go.Proofs.Lays.n167 prog laysWB_ren:={
 mixed:=by kernel_rfl
 f167:=func197.trans (congrArg some DG)
 f240:=func249.trans (congrArg some DG)
 f276:=func286.trans (congrArg some DG)
 t0:=underlying0
 a0:=isAgg0
 z0:=sizeOf0
 v0:=zeroValue0
 t4:=underlying4
 a4:=isAgg4
 z4:=sizeOf4
 v4:=zeroValue4
 t5:=underlying5
 a5:=isAgg5
 z5:=sizeOf5
 v5:=zeroValue5
 t9:=underlying9
 a9:=isAgg9
 z9:=sizeOf9
 v9:=zeroValue9
 t20:=underlying20
 a20:=isAgg20
 z20:=sizeOf20
 v20:=zeroValue20
 t37:=underlying100
 a37:=isAgg100
 z37:=sizeOf100
 v37:=zeroValue100
 t70:=underlying286
 a70:=isAgg286
 z70:=sizeOf286
 v70:=zeroValue286
 t72:=underlying288
 a72:=isAgg288
 z72:=sizeOf288
 v72:=zeroValue288
 t75:=underlying184
 a75:=isAgg184
 z75:=sizeOf184
 v75:=zeroValue184
 t164:=underlying374
 a164:=isAgg374
 z164:=sizeOf374
 v164:=zeroValue374
}
theorem extWB:Builder.Extra prog laysWB_ren:={
 sizeBuilder:=by kernel_rfl
 liesBuilder:=by kernel_rfl
 t5:=underlying5
 a5:=isAgg5
 z5:=sizeOf5
 v5:=zeroValue5
 infoByte:=by kernel_rfl
 cellsByte:=by kernel_rfl
 sizeByte:=by kernel_rfl
 neB5:=by decide
}
def laysWS_ren:Go.Shelf.Ren:=⟨fun|166=>198|240=>249|276=>286|n=>n,fun|70=>286|9=>9|3=>3|75=>184|0=>0|72=>288|37=>100|4=>4|164=>374|80=>202|5=>5|n=>n,fun|n=>n⟩
theorem laysWS:Go.Proofs.Lays.n166 prog laysWS_ren:={
 mixed:=by kernel_rfl
 f166:=func198.trans (congrArg some DG)
 f240:=func249.trans (congrArg some DG)
 f276:=func286.trans (congrArg some DG)
 t0:=underlying0
 a0:=isAgg0
 z0:=sizeOf0
 v0:=zeroValue0
 t3:=underlying3
 a3:=isAgg3
 z3:=sizeOf3
 v3:=zeroValue3
 t4:=underlying4
 a4:=isAgg4
 z4:=sizeOf4
 v4:=zeroValue4
 t9:=underlying9
 a9:=isAgg9
 z9:=sizeOf9
 v9:=zeroValue9
 t20:=underlying20
 a20:=isAgg20
 z20:=sizeOf20
 v20:=zeroValue20
 t37:=underlying100
 a37:=isAgg100
 z37:=sizeOf100
 v37:=zeroValue100
 t70:=underlying286
 a70:=isAgg286
 z70:=sizeOf286
 v70:=zeroValue286
 t72:=underlying288
 a72:=isAgg288
 z72:=sizeOf288
 v72:=zeroValue288
 t75:=underlying184
 a75:=isAgg184
 z75:=sizeOf184
 v75:=zeroValue184
 t164:=underlying374
 a164:=isAgg374
 z164:=sizeOf374
 v164:=zeroValue374
}
theorem extWS:Builder.Extra prog laysWS_ren:={
 sizeBuilder:=by kernel_rfl
 liesBuilder:=by kernel_rfl
 t5:=underlying5
 a5:=isAgg5
 z5:=sizeOf5
 v5:=zeroValue5
 infoByte:=by kernel_rfl
 cellsByte:=by kernel_rfl
 sizeByte:=by kernel_rfl
 neB5:=by decide
}
def laysBS_ren:Go.Shelf.Ren:=⟨fun|169=>199|n=>n,fun|70=>286|9=>9|0=>0|72=>288|37=>100|127=>334|3=>3|5=>5|n=>n,fun|n=>n⟩
theorem laysBS:Go.Proofs.Lays.n169 prog laysBS_ren:={
 mixed:=by kernel_rfl
 f169:=func199.trans (congrArg some DG)
 t0:=underlying0
 a0:=isAgg0
 z0:=sizeOf0
 v0:=zeroValue0
 t3:=underlying3
 a3:=isAgg3
 z3:=sizeOf3
 v3:=zeroValue3
 t9:=underlying9
 a9:=isAgg9
 z9:=sizeOf9
 v9:=zeroValue9
 t37:=underlying100
 a37:=isAgg100
 z37:=sizeOf100
 v37:=zeroValue100
 t70:=underlying286
 a70:=isAgg286
 z70:=sizeOf286
 v70:=zeroValue286
 t72:=underlying288
 a72:=isAgg288
 z72:=sizeOf288
 v72:=zeroValue288
 t127:=underlying334
 a127:=isAgg334
 z127:=sizeOf334
 v127:=zeroValue334
}
theorem extBS:Builder.Extra prog laysBS_ren:={
 sizeBuilder:=by kernel_rfl
 liesBuilder:=by kernel_rfl
 t5:=underlying5
 a5:=isAgg5
 z5:=sizeOf5
 v5:=zeroValue5
 infoByte:=by kernel_rfl
 cellsByte:=by kernel_rfl
 sizeByte:=by kernel_rfl
 neB5:=by decide
}
theorem qbp (B b:Nat) (bs:List Value) (c:Int) (w:World) (h:Lib.IsBuilder 288 5 B b bs w) (hlen:bs.length+1<=140737488355328) (hBw:B<=w.heap.size):
 Calls prog 197 #[.pointer (some ⟨b,0,none⟩),.int .u8 c] w fun e w'=>e=.returned .nilIface/\(Lib.BuilderAt 288 5 B b (.pointer (some ⟨b,0,none⟩)) (bs++[.int .u8 c]) w'/\Below B w w'):=
 Any.Builder_WriteByte laysWB extWB B b bs c w h hlen hBw
theorem writeString_any (B b:Nat) (bs:List Value) (s:DT) (w:World) (h:Lib.IsBuilder 288 5 B b bs w) (hlen:bs.length+s.size<=140737488355328) (hBw:B<=w.heap.size):
 Calls prog 198 #[.pointer (some ⟨b,0,none⟩),.string s] w fun e w'=>e=.returned (.tuple #[.int .i64 s.size,.nilIface])/\(Lib.BuilderAt 288 5 B b (.pointer (some ⟨b,0,none⟩)) (bs++Lib.strCells s) w'/\Below B w w'):=
 Any.Builder_WriteString laysWS extWS B b bs s w h hlen hBw
theorem builderText_any (B b:Nat) (l:List UInt8) (w:World) (h:Lib.IsBuilder 288 5 B b (Lib.byteCells l) w) (hBw:B<=w.heap.size):
 Calls prog 199 #[.pointer (some ⟨b,0,none⟩)] w fun e w'=>e=.returned (.string ⟨l.toArray⟩)/\Below B w w':=
 Any.Builder_String_any laysBS extBS B b l w h hBw
end
section
def decF:Nat->Nat->List UInt8
 |0,_=>[]
 |f+1,u=>bif Nat.blt u 10 then [UInt8.ofNat (48+u)]else decF f (u/10)++[UInt8.ofNat (48+u%10)]
def qbd (n:Int):List UInt8:=match n with
 | .ofNat u=>decF 20 u
 | .negSucc u=>45::decF 20 (u+1)
def hexD (n:Nat):UInt8:=if n<10 then UInt8.ofNat (48+n)else UInt8.ofNat (87+n)
def oddB (c:Nat):Bool:=decide (c<32)||decide (126<c)||decide (c=34)||decide (c=92)
def qB (c:UInt8):List UInt8:=if oddB c.toNat then [92,hexD (c.toNat/16),hexD (c.toNat%16)]else [c]
def quoteL (s:DT):List UInt8:=34::s.data.toList.flatMap qB++[34]
end
section
open Go.RowKit
attribute [local go_sem] wY jA
attribute [local go_sem low] jz zZ
theorem qB_len (c:UInt8):(qB c).length<=3:=by unfold qB;split<;>simp
theorem flat_qB:∀l:List UInt8,(l.flatMap qB).length<=3*l.length
 |[]=>Yk _
 |c::l=>by
  have h1:=flat_qB l;have h2:=qB_len c;simp only[YW,Ya,Yg];omega
theorem q_len (s:DT) (k:Nat) (hs:s.size<=1000000):(Lib.byteCells (34::(s.data.toList.take k).flatMap qB)).length<=3000001:=by
 have h1:=flat_qB (s.data.toList.take k);have h2:(s.data.toList.take k).length<=s.size:=by rw[Yd];exact Xj (Nat.min_le_right _ _) DQ
 simp only[Lib.byteCells_length,Yg];omega
def hexS:DT:=⟨#[48,49,50,51,52,53,54,55,56,57,97,98,99,100,101,102]⟩
theorem hex_at:∀d:Nat,d<16->hexS.extract d (d+1)=⟨#[hexD d]⟩
 |0,_=>by decide|1,_=>by decide|2,_=>by decide|3,_=>by decide|4,_=>by decide|5,_=>by decide|6,_=>by decide|7,_=>by decide
 |8,_=>by decide|9,_=>by decide|10,_=>by decide|11,_=>by decide|12,_=>by decide|13,_=>by decide|14,_=>by decide|15,_=>by decide
 |n+16,h=>absurd h DP
theorem oct_cells {d f:Nat} (hd:d<16) (hf:f<16):Lib.strCells ((⟨#[92]⟩++hexS.extract d (d+1))++hexS.extract f (f+1))=Lib.byteCells [92,hexD d,hexD f]:=by
 rw[hex_at d hd,hex_at f hf];rfl
theorem oct_size {d f:Nat} (hd:d<16) (hf:f<16):((⟨#[92]⟩++hexS.extract d (d+1))++hexS.extract f (f+1)).size=3:=by
 rw[hex_at d hd,hex_at f hf];rfl
theorem q_step (s:DT) {k:Nat} (hk:k<s.size):Lib.byteCells (34::(s.data.toList.take (k+1)).flatMap qB)=Lib.byteCells (34::(s.data.toList.take k).flatMap qB)++Lib.byteCells (qB s[k]):=by
 have hk':k<s.data.toList.length:=by simpa using hk
 rw[Ym hk',List.flatMap_append];have e:s.data.toList[k]=s[k]:=by rw[Array.getElem_toList];rfl
 rw[e];simp[Lib.byteCells]
set_option maxHeartbeats 2000000 in
theorem quoted_any (s:DT) (w:World) (hs:s.size<=1000000):
 Calls prog 140 #[.string s] w fun e w'=>e=.returned (.string ⟨(quoteL s).toArray⟩)/\Below w.heap.size w w':=by
 have hfr:=Lib.fresh_isBuilder 288 5 w;go_enter func140,ntmps140
 go_wp2_with (go_at_call 197;refine(qbp w.heap.size w.heap.size [] 34 _ hfr DQ DQ).mono ?_;rintro e w1 ⟨rfl,hA,hB⟩)
 replace hA:=hide (show Lib.BuilderAt 288 5 w.heap.size w.heap.size (.pointer (some ⟨w.heap.size,0,none⟩)) (Lib.byteCells (34::(s.data.toList.take 0).flatMap qB)) w1 from hA)
 replace hB:Below w.heap.size w w1:=((Below.refl _ _).alloc (Yk _) _).trans hB
 clear hfr
 go_loopw [4,5,9] (fun _ _ i wr=>∃k:Nat,k<=s.size/\i=.int .i64 k/\Below w.heap.size w wr/\Hid (Lib.BuilderAt 288 5 w.heap.size w.heap.size (.pointer (some ⟨w.heap.size,0,none⟩)) (Lib.byteCells (34::(s.data.toList.take k).flatMap qB)) wr)) (fun _ _ i _=>s.size-(intOf i).toNat)
 case atStart=>exact⟨0,Yl _,rfl,hB,hA⟩
 case round=>
  clear hA hB
  obtain⟨k,hk,rfl,hB,hA⟩:=hrel;by_cases hlt:k<s.size
  · skip
    go_upto_region 6 with(fail)
    refine GC ?_
    repeat(refine qU ?_;intro K hK;go_big_quiet_op;go_big_quiet_on)
    refine zX ?_;intro us;refine Vy ?_;go_upto_region 7 with(fail)
    refine GC ?_
    repeat(refine qU ?_;intro K hK;go_big_quiet_op;go_big_quiet_on)
    refine zX ?_;intro us;refine Vy ?_;have hl:=q_len s k hs;have hsz:=hB.size;go_upto_region 8 with(go_at_call 197;refine(qbp _ _ _ _ _ (Or.inr hA.out) DP hsz).mono ?_;rintro e w2 ⟨rfl,hA2,hB2⟩)
    · rename_i h;have ho:oddB s[k].toNat=true:=by revert h;unfold oddB;simp;omega
      replace ho:=hide ho
      clear h
      obtain⟨c,hc⟩:∃c:Nat,c=s[k].toNat:=⟨_,rfl⟩;rw[<-hc];have hc2:c<256:=by rw[hc];exact UInt8.toNat_lt _
      obtain⟨d,hd⟩:∃d:Nat,d=c/16:=⟨_,rfl⟩;obtain⟨f,hf⟩:∃f:Nat,f=c%16:=⟨_,rfl⟩;have e1:(c:Int)/16=d:=by omega
      have e2:((d:Int)+1)%256=d+1:=by omega
      have e3:(d:Int)<=d+1:=by omega
      have e4:(d:Int)+1<=16:=by omega
      have e5:(0:Int)<=d:=by omega
      have e6:(c:Int)%16=f:=by omega
      have e7:((f:Int)+1)%256=f+1:=by omega
      have e8:(f:Int)+1<=16:=by omega
      replace hc:=hide hc
      replace hd:=hide hd
      replace hf:=hide hf
      have hd2:d<16:=by have:=hd.out;omega
      have hf2:f<16:=by have:=hf.out;omega
      have hw:w.heap.size<=wr.drew.heap.size:=by simp;omega
      refine wp_region_moveB (w.heap.size) [(0,true),(1,true),(2,true),(3,true),(4,true),(5,true),(6,true),(7,true),(8,true),(9,true),(10,true),(11,true),(12,true),(13,true),(14,false)] DG DG DG ?_
      repeat(first|(refine moveB_read DR DR DR ?_;intro K hK;go_big_quiet_op;go_big_quiet_on)|(refine moveB_skip DR DR ?_;simp only[Act.put,YQ,Y6,Xb]))
      refine moveB_act DR DR ?_;intro Q' hQ';go_wp2_with (fail)
      (refine(writeString_any _ _ _ _ _ (Or.inr hA.out.drew) (by have:=oct_size hd2 hf2;unfold hexS at this;rw[this];omega) hw).mono ?_;rintro e w2 ⟨rfl,hA2,hB2⟩)
      go_wp2
      refine hQ'.out _ _ ?_ ?_
      · exact(by repeat(first|exact Below.refl _ _|assumption|refine Below.alloc ?_ (by first|omega|(simp;omega)) _|refine Below.drew ?_|refine qI ?_|exact Below.mono DI DP))
      clear hQ' Q'
      repeat(first|(refine moveB_read DR DR DR ?_;intro K hK;go_big_quiet_op;go_big_quiet_on)|(refine moveB_skip DR DR ?_;simp only[Act.put,YQ,Y6,Xb]))
      refine moveB_done ?_;go_wp2
      go_roundw
      case rel=>
       refine⟨k+1,by omega,by go_num,hB.drew.trans hB2,hide ?_⟩;have e:=oct_cells hd2 hf2;unfold hexS at e;rw[e]at hA2;have e2:qB s[k]=[92,hexD d,hexD f]:=by unfold qB;rw[Yi ho.out,hd.out,hf.out,hc.out]
       rw[q_step s hlt,e2];exact hA2
      case measure=>simp[intOf];omega
    · rename_i h;have ho:oddB s[k].toNat=false:=by revert h;unfold oddB;simp;omega
      clear h
      go_roundw
      case rel=>
       refine⟨k+1,by omega,by go_num,hB.trans hB2,hide ?_⟩;have e2:qB s[k]=[s[k]]:=by unfold qB;rw[Yc (by rw[ho];simp)]
       rw[q_step s hlt,e2];exact hA2
      case measure=>simp[intOf];omega
  · obtain rfl:k=s.size:=by omega
    have hl:=q_len s s.size hs;have hsz:=hB.size;have e3:Lib.byteCells (34::(s.data.toList.take s.size).flatMap qB)++[Value.int .u8 34]=Lib.byteCells (quoteL s):=by
     rw[YN DQ];simp[Lib.byteCells,quoteL]
    go_wp2_with (first|(go_at_call 197;refine(qbp _ _ _ 34 _ (Or.inr hA.out) DP hsz).mono ?_;rintro e w2 ⟨rfl,hA2,hB2⟩;rw[e3]at hA2;have hsz2:=hB2.size;replace hA2:=hide hA2)|(go_at_call 199;refine(builderText_any _ _ (quoteL s) _ (Or.inr hA2.out) DP).mono ?_;rintro e w3 ⟨rfl,hB3⟩))
    go_ret
    exact⟨rfl,(hB.trans hB2).trans hB3⟩
end
section
open Go.RowKit Go.Shelf
def laysItoa_ren:Go.Shelf.Ren:=⟨fun|171=>79|243=>138|246=>195|283=>245|284=>246|285=>247|286=>248|129=>282|317=>281|318=>283|319=>284|320=>285|337=>306|338=>307|n=>n,fun|3=>3|9=>9|2=>2|4=>4|171=>329|0=>0|53=>97|37=>100|5=>5|173=>332|212=>371|51=>274|20=>20|213=>372|46=>210|232=>407|233=>408|n=>n,fun|17=>3|18=>4|19=>5|n=>n⟩
theorem laysItoa:Go.Proofs.LaysM.n171 prog laysItoa_ren:={
 mixed:=by kernel_rfl
 f129:=func282.trans (congrArg some DG)
 f171:=func79.trans (congrArg some DG)
 f243:=func138.trans (congrArg some DG)
 f246:=func195.trans (congrArg some DG)
 f283:=func245.trans (congrArg some DG)
 f284:=func246.trans (congrArg some DG)
 f285:=func247.trans (congrArg some DG)
 f286:=func248.trans (congrArg some DG)
 f317:=func281.trans (congrArg some DG)
 f318:=func283.trans (congrArg some DG)
 f319:=func284.trans (congrArg some DG)
 f320:=func285.trans (congrArg some DG)
 f337:=func306.trans (congrArg some DG)
 f338:=func307.trans (congrArg some DG)
 t0:=underlying0
 a0:=isAgg0
 z0:=sizeOf0
 v0:=zeroValue0
 t2:=underlying2
 a2:=isAgg2
 z2:=sizeOf2
 v2:=zeroValue2
 t3:=underlying3
 a3:=isAgg3
 z3:=sizeOf3
 v3:=zeroValue3
 t4:=underlying4
 a4:=isAgg4
 z4:=sizeOf4
 v4:=zeroValue4
 t5:=underlying5
 a5:=isAgg5
 z5:=sizeOf5
 v5:=zeroValue5
 t9:=underlying9
 a9:=isAgg9
 z9:=sizeOf9
 v9:=zeroValue9
 t20:=underlying20
 a20:=isAgg20
 z20:=sizeOf20
 v20:=zeroValue20
 t37:=underlying100
 a37:=isAgg100
 z37:=sizeOf100
 v37:=zeroValue100
 t46:=underlying210
 a46:=isAgg210
 z46:=sizeOf210
 v46:=zeroValue210
 t51:=underlying274
 a51:=isAgg274
 z51:=sizeOf274
 v51:=zeroValue274
 t53:=underlying97
 a53:=isAgg97
 z53:=sizeOf97
 v53:=zeroValue97
 t171:=underlying329
 a171:=isAgg329
 z171:=sizeOf329
 v171:=zeroValue329
 t173:=underlying332
 a173:=isAgg332
 z173:=sizeOf332
 v173:=zeroValue332
 t212:=underlying371
 a212:=isAgg371
 z212:=sizeOf371
 v212:=zeroValue371
 t213:=underlying372
 a213:=isAgg372
 z213:=sizeOf372
 t232:=underlying407
 a232:=isAgg407
 z232:=sizeOf407
 v232:=zeroValue407
 t233:=underlying408
 a233:=isAgg408
 z233:=sizeOf408
 v233:=zeroValue408
 g17:=by kernel_rfl
 g18:=by kernel_rfl
 g19:=by kernel_rfl
 i0:=by kernel_rfl
 i2:=by kernel_rfl
 i3:=by kernel_rfl
 i4:=by kernel_rfl
 i5:=by kernel_rfl
 i9:=by kernel_rfl
 i20:=by kernel_rfl
 i37:=by kernel_rfl
 i46:=by kernel_rfl
 i51:=by kernel_rfl
 i53:=by kernel_rfl
 i171:=by kernel_rfl
 i173:=by kernel_rfl
 i212:=by kernel_rfl
 i232:=by kernel_rfl
 i233:=by kernel_rfl
 m17:=by kernel_rfl
 m18:=by kernel_rfl
 m19:=by kernel_rfl
}
def laysIdx_ren:Go.Shelf.Ren:=⟨fun|137=>170|217=>232|266=>275|n=>n,fun|9=>9|5=>5|3=>3|n=>n,fun|n=>n⟩
theorem laysIdx:Go.Proofs.Lays.n137 prog laysIdx_ren:={
 mixed:=by kernel_rfl
 f137:=func170.trans (congrArg some DG)
 f217:=func232.trans (congrArg some DG)
 f266:=func275.trans (congrArg some DG)
 t3:=underlying3
 a3:=isAgg3
 z3:=sizeOf3
 v3:=zeroValue3
 t5:=underlying5
 a5:=isAgg5
 z5:=sizeOf5
 v5:=zeroValue5
 t9:=underlying9
 a9:=isAgg9
 z9:=sizeOf9
 v9:=zeroValue9
}
def laysAtoi_ren:Go.Shelf.Ren:=⟨fun|172=>93|244=>152|245=>153|247=>208|279=>209|280=>210|281=>211|282=>212|287=>258|316=>259|171=>79|205=>260|321=>289|322=>290|243=>138|246=>195|283=>245|284=>246|285=>247|286=>248|129=>282|317=>281|318=>283|319=>284|320=>285|337=>306|338=>307|n=>n,fun|9=>9|3=>3|75=>184|76=>185|4=>4|5=>5|167=>297|37=>100|0=>0|85=>298|2=>2|168=>300|53=>97|175=>340|46=>210|210=>343|127=>334|145=>382|143=>380|21=>21|171=>329|173=>332|212=>371|51=>274|20=>20|213=>372|232=>407|233=>408|80=>202|n=>n,fun|15=>1|16=>2|17=>3|18=>4|19=>5|n=>n⟩
theorem laysAtoi:Go.Proofs.LaysC.n172 prog laysAtoi_ren:={
 mixed:=by kernel_rfl
 f129:=func282.trans (congrArg some DG)
 f171:=func79.trans (congrArg some DG)
 f172:=func93.trans (congrArg some DG)
 f205:=func260.trans (congrArg some DG)
 f243:=func138.trans (congrArg some DG)
 f244:=func152.trans (congrArg some DG)
 f245:=func153.trans (congrArg some DG)
 f246:=func195.trans (congrArg some DG)
 f247:=func208.trans (congrArg some DG)
 f279:=func209.trans (congrArg some DG)
 f280:=func210.trans (congrArg some DG)
 f281:=func211.trans (congrArg some DG)
 f282:=func212.trans (congrArg some DG)
 f283:=func245.trans (congrArg some DG)
 f284:=func246.trans (congrArg some DG)
 f285:=func247.trans (congrArg some DG)
 f286:=func248.trans (congrArg some DG)
 f287:=func258.trans (congrArg some DG)
 f316:=func259.trans (congrArg some DG)
 f317:=func281.trans (congrArg some DG)
 f318:=func283.trans (congrArg some DG)
 f319:=func284.trans (congrArg some DG)
 f320:=func285.trans (congrArg some DG)
 f321:=func289.trans (congrArg some DG)
 f322:=func290.trans (congrArg some DG)
 f337:=func306.trans (congrArg some DG)
 f338:=func307.trans (congrArg some DG)
 t0:=underlying0
 a0:=isAgg0
 z0:=sizeOf0
 v0:=zeroValue0
 t2:=underlying2
 a2:=isAgg2
 z2:=sizeOf2
 v2:=zeroValue2
 t3:=underlying3
 a3:=isAgg3
 z3:=sizeOf3
 v3:=zeroValue3
 t4:=underlying4
 a4:=isAgg4
 z4:=sizeOf4
 v4:=zeroValue4
 t5:=underlying5
 a5:=isAgg5
 z5:=sizeOf5
 v5:=zeroValue5
 t9:=underlying9
 a9:=isAgg9
 z9:=sizeOf9
 v9:=zeroValue9
 t20:=underlying20
 a20:=isAgg20
 z20:=sizeOf20
 v20:=zeroValue20
 t21:=underlying21
 a21:=isAgg21
 z21:=sizeOf21
 v21:=zeroValue21
 t37:=underlying100
 a37:=isAgg100
 z37:=sizeOf100
 v37:=zeroValue100
 t46:=underlying210
 a46:=isAgg210
 z46:=sizeOf210
 v46:=zeroValue210
 t51:=underlying274
 a51:=isAgg274
 z51:=sizeOf274
 v51:=zeroValue274
 t53:=underlying97
 a53:=isAgg97
 z53:=sizeOf97
 v53:=zeroValue97
 t75:=underlying184
 a75:=isAgg184
 z75:=sizeOf184
 v75:=zeroValue184
 t76:=underlying185
 a76:=isAgg185
 z76:=sizeOf185
 v76:=zeroValue185
 t85:=underlying298
 a85:=isAgg298
 z85:=sizeOf298
 v85:=zeroValue298
 t127:=underlying334
 a127:=isAgg334
 z127:=sizeOf334
 v127:=zeroValue334
 t143:=underlying380
 a143:=isAgg380
 z143:=sizeOf380
 v143:=zeroValue380
 t145:=underlying382
 a145:=isAgg382
 z145:=sizeOf382
 v145:=zeroValue382
 t167:=underlying297
 a167:=isAgg297
 z167:=sizeOf297
 v167:=zeroValue297
 t168:=underlying300
 a168:=isAgg300
 z168:=sizeOf300
 v168:=zeroValue300
 t171:=underlying329
 a171:=isAgg329
 z171:=sizeOf329
 v171:=zeroValue329
 t173:=underlying332
 a173:=isAgg332
 z173:=sizeOf332
 v173:=zeroValue332
 t175:=underlying340
 a175:=isAgg340
 z175:=sizeOf340
 v175:=zeroValue340
 t210:=underlying343
 a210:=isAgg343
 z210:=sizeOf343
 v210:=zeroValue343
 t212:=underlying371
 a212:=isAgg371
 z212:=sizeOf371
 v212:=zeroValue371
 t213:=underlying372
 a213:=isAgg372
 z213:=sizeOf372
 t232:=underlying407
 a232:=isAgg407
 z232:=sizeOf407
 v232:=zeroValue407
 t233:=underlying408
 a233:=isAgg408
 z233:=sizeOf408
 v233:=zeroValue408
 g15:=by kernel_rfl
 g16:=by kernel_rfl
 g17:=by kernel_rfl
 g18:=by kernel_rfl
 g19:=by kernel_rfl
 t80:=underlying202
 a80:=isAgg202
 z80:=sizeOf202
 v80:=zeroValue202
 i0:=by kernel_rfl
 i2:=by kernel_rfl
 i3:=by kernel_rfl
 i4:=by kernel_rfl
 i5:=by kernel_rfl
 i9:=by kernel_rfl
 i20:=by kernel_rfl
 i21:=by kernel_rfl
 i37:=by kernel_rfl
 i46:=by kernel_rfl
 i51:=by kernel_rfl
 i53:=by kernel_rfl
 i75:=by kernel_rfl
 i76:=by kernel_rfl
 i80:=by kernel_rfl
 i85:=by kernel_rfl
 i127:=by kernel_rfl
 i143:=by kernel_rfl
 i145:=by kernel_rfl
 i167:=by kernel_rfl
 i168:=by kernel_rfl
 i171:=by kernel_rfl
 i173:=by kernel_rfl
 i175:=by kernel_rfl
 i210:=by kernel_rfl
 i212:=by kernel_rfl
 i232:=by kernel_rfl
 i233:=by kernel_rfl
 m15:=by kernel_rfl
 m16:=by kernel_rfl
 m17:=by kernel_rfl
 m18:=by kernel_rfl
 m19:=by kernel_rfl
 c0:=by kernel_rfl
 c2:=by kernel_rfl
 c3:=by kernel_rfl
 c4:=by kernel_rfl
 c5:=by kernel_rfl
 c9:=by kernel_rfl
 c20:=by kernel_rfl
 c21:=by kernel_rfl
 c37:=by kernel_rfl
 c46:=by kernel_rfl
 c51:=by kernel_rfl
 c53:=by kernel_rfl
 c75:=by kernel_rfl
 c76:=by kernel_rfl
 c80:=by kernel_rfl
 c85:=by kernel_rfl
 c127:=by kernel_rfl
 c143:=by kernel_rfl
 c145:=by kernel_rfl
 c167:=by kernel_rfl
 c168:=by kernel_rfl
 c171:=by kernel_rfl
 c173:=by kernel_rfl
 c175:=by kernel_rfl
 c210:=by kernel_rfl
 c212:=by kernel_rfl
 c213:=by kernel_rfl
 c232:=by kernel_rfl
 c233:=by kernel_rfl
}
theorem decF_eq:∀(f u:Nat),u<10^f->0<f->decF f u=Lib.decDigits u
 |f+1,u,h,_=>by
  rw[decF,Lib.decDigits];by_cases hu:u<10
  · rw[show Nat.blt u 10=true from by simpa [Nat.blt,YJ]using hu,dif_pos hu];rfl
  · rw[show Nat.blt u 10=false from by cases hb:Nat.blt u 10 with|false=>rfl|true=>exact absurd (by simpa [Nat.blt,YJ]using hb) hu,dif_neg hu,cond_false];have hf:0<f:=by
     rcases Nat.eq_zero_or_pos f with h0|h0
     · subst h0;exact absurd DA hu
     · exact h0
    rw[decF_eq f (u/10) (by rw[Nat.pow_succ]at h;omega) hf]
theorem itoaF_eq (n:Int) (h:-9223372036854775808<=n/\n<=9223372036854775807):qbd n=Lib.itoa n:=by
 unfold qbd Lib.itoa;cases n with
 |ofNat u=>
  have:u<10^20:=by have:=h.2;simp only[Int.ofNat_eq_natCast]at this;omega
  rw[Yc DQ];exact decF_eq 20 u this DO
 |negSucc u=>
  have:u+1<10^20:=by have:=h.1;simp only[Int.negSucc_eq]at this;omega
  rw[Yi (Int.negSucc_lt_zero u)];exact congrArg _ (decF_eq 20 (u+1) this DO)
theorem itoa_h (n:Int) (h:-9223372036854775808<=n/\n<=9223372036854775807):Holds prog 79 [.v (.int .i64 n)] (.p (.v (.string ⟨⟨qbd n⟩⟩))) []:=
 .of_callsG func79 DG rfl (fun w vs hg hl hr=>by
  have hv:∃u,vs=[u]:=by
   match vs,hl with
   |[u],_=>exact⟨u,rfl⟩
  obtain⟨u,rfl⟩:=hv;have h1:=jn (hr 0 _ u rfl rfl) rfl;subst h1;have htab:Lib.TabIs prog w "internal/strconv.uint64pow10" .u64 Lib.pow10Tab:=by
   obtain⟨ty,m,hb⟩:=hg 3 _ rfl;unfold Lib.TabIs World.var?;rw[show prog.globalNamed "internal/strconv.uint64pow10"=some 3 from by kernel_rfl];simp only[Option.bind_some,hb];rfl
  refine(Any.strconv_Itoa laysItoa n h.1 h.2 w htab).mono fun e w' ⟨h1,k,os,h2⟩=>⟨?_,?_⟩
  · rw[h1,<-itoaF_eq n h];rfl
  · subst h2;refine⟨rfl,rfl,rfl,by simp[Sort.grow],fun b hb=>?_⟩;show(_++os)[b]?=_
    rw[Array.getElem?_append_left (by exact hb)];rfl) rfl fun w=>.p (.v rfl)
theorem indexByte_h (s:DT) (c:Int):Holds prog 170 [.v (.string s),.v (.int .u8 c)] (.p (.v (.int .i64 (Lib.indexByte s.data.toList c.toNat.toUInt8)))) []:=
 .of_callsG func170 DG rfl (fun w vs hg hl hr=>by
  have hv:∃u v,vs=[u,v]:=by
   match vs,hl with
   |[u,v],_=>exact⟨u,v,rfl⟩
  obtain⟨u,v,rfl⟩:=hv;have h1:=jn (hr 0 _ u rfl rfl) rfl;have h2:=jn (hr 1 _ v rfl rfl) rfl;subst h1 h2;exact(Any.strings_IndexByte laysIdx s c w).mono fun e w' ⟨h1,h2⟩=>⟨h1,h2▸Below.refl _ _⟩) rfl fun w=>.p (.v rfl)
theorem atoi_h (s:DT) (hs:s.size<=9223372036854775806) (v:Int) (h:Lib.atoiAll s.data.toList=.ok v):Holds prog 93 [.v (.string s)] (.tup [.p (.v (.int .i64 v)),.p (.v .nilIface)]) []:=
 .of_callsG func93 DG rfl (fun w vs hg hl hr=>by
  have hv:∃u,vs=[u]:=by
   match vs,hl with
   |[u],_=>exact⟨u,rfl⟩
  obtain⟨u,rfl⟩:=hv;have h1:=jn (hr 0 _ u rfl rfl) rfl;subst h1;refine(Any.strconv_Atoi_ok laysAtoi s hs v h w).mono fun e w' ⟨h1,h2⟩=>⟨h1,?_⟩
  rcases h2 with rfl|⟨t,rfl⟩
  · exact Below.refl _ _
  · exact Lib.bytesWorld_below _ _ _) rfl fun w=>.tup (us:=[.int .i64 v,.nilIface]) rfl fun i s u hs hu=>by
    match i,hs,hu with
    |0,hs,hu=>cases hs;cases hu;exact .p (.v rfl)
    |1,hs,hu=>cases hs;cases hu;exact .p (.v rfl)
end
section
open Go.RowKit
def quoteB (s:DT):DT:=⟨(quoteL s).toArray⟩
def textS (v:Val):DT:=
 if !v.right then⟨#[]⟩
 else if v.kind=1 then(if v.n=1 then⟨#[116,114,117,101]⟩else⟨#[102,97,108,115,101]⟩)
 else if v.kind=4 then⟨#[64]⟩++⟨⟨qbd v.n⟩⟩
 else if v.kind=5 then⟨#[35]⟩++v.s
 else if v.kind=3 then quoteB v.s
 else⟨⟨qbd v.n⟩⟩
theorem decF_len:∀f u:Nat,(decF f u).length<=f
 |0,_=>Yk _
 |f+1,u=>by
  rw[decF];cases Nat.blt u 10 with
  |true=>simp
  |false=>
   have:=decF_len f (u/10);simp;omega
theorem itoaF_len (n:Int):(qbd n).length<=21:=by
 unfold qbd;cases n with
 |ofNat u=>exact Xj (decF_len 20 u) DP
 |negSucc u=>
  have:=decF_len 20 (u+1);simp only[Yg];omega
theorem quoted_h (s:DT) (hs:s.size<=1000000):Holds prog 140 [pS s] (.p (pS (quoteB s))) []:=
 .of_calls func140 DG rfl (fun w vs hl hr=>by
  obtain⟨u,rfl⟩:=one_arg hl;have h:=jn (hr 0 _ u rfl rfl) rfl;subst h;exact quoted_any s w hs) rfl fun w=>.p (.v rfl)
theorem fmtBool1_h (b:Bool):Holds prog 196 [pB b] (.p (pS (if b then⟨#[116,114,117,101]⟩else⟨#[102,97,108,115,101]⟩))) []:=by
 cases b with
 |true=>
  rw[Yi rfl];refine qo (ts:=[2]) func196 DG rfl rfl rfl ?_;refine Kr ?_;refine uC (fun h=>?_) (fun h=>?_)
  · exact KI
  · cases h
 |false=>
  rw[Yc DQ];refine qo (ts:=[2]) func196 DG rfl rfl rfl ?_;refine Kr ?_;refine uC (fun h=>?_) (fun h=>?_)
  · cases h
  · refine KA ?_;exact Vf
theorem fmtBool_h (b:Bool):Holds prog 139 [pB b] (.p (pS (if b then⟨#[116,114,117,101]⟩else⟨#[102,97,108,115,101]⟩))) []:=by
 refine qo (ts:=[2]) func139 DG rfl rfl rfl ?_;refine Kq ?_;refine uK (fmtBool1_h b) ?_;exact Lv
theorem right_size {v:Val} (h:v.right=true) (hk:v.kind=3):v.s.size<=64:=by
 unfold Val.right at h;rw[Yc DP,Yc DP,Yi hk]at h;simp at h;exact h.2
theorem text_h (v:Val) (hv:v.Fit):Holds prog 80 [.agg v.pv] (.p (pS (textS v))) []:=by
 have hvs:=hv.s;have hn:=hv.n;unfold reachBytes at hvs;cases hr:v.right with
 |false=>
  have e:textS v=⟨#[]⟩:=by unfold textS;rw[hr];rfl
  rw[e];refine qo (ts:=[2]) func80 DG rfl rfl rfl ?_;refine Kq ?_;refine uK (wA v hv.s) ?_;rw[hr];refine Ko ?_;refine uC (fun hc=>?_) (fun hc=>?_)
  · exact KI
  · cases hc
 |true=>
  unfold textS;rw[hr];simp only[Bool.not_true,YC,if_false];refine qo (ts:=[2]) func80 DG rfl rfl rfl ?_;refine Kq ?_;refine uK (wA v hv.s) ?_;rw[hr];refine Ko ?_;refine uC (fun hc=>?_) (fun hc=>?_)
  · cases hc
  refine Kw ?_;refine Kz ?_;refine uC (fun h1=>?_) (fun h1=>?_)
  · have e1:v.kind=1:=by simpa using h1
    rw[Yi e1];refine uR ?_;refine uK (fmtBool_h (v.n==1)) ?_;refine KD ?_;have e2:(if(v.n==1)=true then(⟨#[116,114,117,101]⟩:DT)else⟨#[102,97,108,115,101]⟩)=if v.n=1 then⟨#[116,114,117,101]⟩else⟨#[102,97,108,115,101]⟩:=by
     by_cases h:v.n=1<;>simp[h]
    rw[<-e2];exact Vf
  · have n1:¬v.kind=1:=by simpa using h1
    rw[Yc n1];refine uA ?_;refine uC (fun h4=>?_) (fun h4=>?_)
    · have e1:v.kind=4:=by simpa using h4
      rw[Yi e1];refine uR ?_;refine uK (itoa_h v.n ⟨hn.1,hn.2⟩) ?_;have hl:((⟨⟨qbd v.n⟩⟩:DT)).size<=21:=itoaF_len v.n;refine qm qc rfl rfl (by rw[show(⟨#[64]⟩:DT).size=1 from rfl];unfold IntKind.max;simp[IntKind.signed,IntKind.bits];omega) rfl ?_;exact Lo
    · have n4:¬v.kind=4:=by simpa using h4
      rw[Yc n4];refine uA ?_;refine uC (fun h5=>?_) (fun h5=>?_)
      · have e1:v.kind=5:=by simpa using h5
        rw[Yi e1];refine uR ?_;refine qm qc rfl rfl (by rw[show(⟨#[35]⟩:DT).size=1 from rfl];unfold IntKind.max;simp[IntKind.signed,IntKind.bits];omega) rfl ?_;exact Lo
      · have n5:¬v.kind=5:=by simpa using h5
        rw[Yc n5];refine uA ?_;refine uC (fun h3=>?_) (fun h3=>?_)
        · have e1:v.kind=3:=by simpa using h3
          rw[Yi e1];have hq:=right_size hr e1;refine uR ?_;refine uK (quoted_h v.s DP) ?_;exact Lv
        · have n3:¬v.kind=3:=by simpa using h3
          rw[Yc n3];refine Kv ?_;refine uK (itoa_h v.n ⟨hn.1,hn.2⟩) ?_;exact Lv
end
section
def cutW:Bs->Bs×Bs
 |[]=>([],[])
 |c::r=>if c=32 then([],r)else(c::(cutW r).1,(cutW r).2)
def tokV (t:Tok):Option Val:=
 if t.kind=2 then some ⟨2,t.n,bs t.s⟩else if t.kind=3 then some ⟨4,t.n,bs t.s⟩else if t.kind=4 then some ⟨5,t.n,bs t.s⟩else if t.kind=5 then some ⟨3,t.n,bs t.s⟩
 else if t.kind=1 then(if t.s=wTrue then some ⟨1,1,e0⟩else if t.s=wFalse then some ⟨1,0,e0⟩else none)else none
def litW (b:Bs):Option Val:=match lexL b with
 | .error _=>none
 | .ok l=>if l.length=2 then(match l[0]? with|some t=>tokV t|none=>none)else none
def numW (b:Bs):Int:=match b with
 |[]=>0
 |c::r=>if 9<b.length\/c=48 then 0 else if b.all za then(decV b:Int)else 0
def kindO (k:Int) (o:Opn) (s:Bs):Option Opn:=
 if k=1 then some {o with case_:=bs s}
 else if k=2\/k=6 then some {o with case_:=bs (cutW s).1,field:=bs (cutW s).2}
 else if k=3 then(match litW (cutW (cutW s).2).2 with
  |some v=>some {o with case_:=bs (cutW s).1,field:=bs (cutW (cutW s).2).1,val:=v}
  |none=>none)
 else if k=4 then some {o with case_:=bs (cutW s).1,to_:=bs (cutW s).2}
 else if k=5\/k=8 then some {o with rev:=numW s}
 else if k=7 then some {o with text:=bs s}
 else some o
def glsW (s:Bs):Bool×Bs×Bs:=match s with
 |33::r=>(true,(cutW r).1,(cutW r).2)
 |_=>(false,[],s)
def mkO (subj:Bs) (g:Bool) (reason:Bs) (k:Int):Opn:=⟨k,bs subj,e0,e0,e0,⟨0,0,e0⟩,0,e0,bs reason,g⟩
def rawW (s:Bs):Option Opn:=
 kindO (kindW (bs (cutW (glsW (cutW s).2).2.2).1)) (mkO (cutW s).1 (glsW (cutW s).2).1 (glsW (cutW s).2).2.1 (kindW (bs (cutW (glsW (cutW s).2).2.2).1))) (cutW (glsW (cutW s).2).2.2).2
def qaa (s:Bs):Option Opn:=match rawW s with
 |some o=>if wm o then some o else none
 |none=>none
def wDenied:DT:=⟨#[100,101,110,105,101,100,32]⟩
def wError:DT:=⟨#[101,114,114,111,114,32]⟩
def wAt:DT:=⟨#[32,97,116,32]⟩
def wHidden:DT:=⟨#[104,105,100,100,101,110]⟩
def wOk:DT:=⟨#[111,107]⟩
def wOkB:DT:=⟨#[111,107,32]⟩
def wWhat:DT:=⟨#[119,104,97,116]⟩
def itoaB (n:Int):DT:=⟨⟨qbd n⟩⟩
def ansW (r:Rpl):DT:=
 if r.err=12/\r.mark≠(2,0)then wDenied++mkN r.mark
 else if r.err≠0/\0<r.at_ then wError++itoaB r.err++wAt++itoaB r.at_
 else if r.err≠0 then wError++itoaB r.err
 else if r.glass then jw
 else if r.hidden then wHidden
 else if emV r.val then wOk else wOkB++textS r.val
end
section
def putV (v:Val):Bs:=putN v.kind++(if v.kind=3\/v.kind=5 then putN (v.s.size:Int)++v.s.data.toList else putN v.n)
end
section
def crcB (s:Nat):Nat:=if s%2=1 then(s/2) ^^^ 3988292384 else s/2
def crcC (s:Nat) (c:UInt8):Nat:=crcB (crcB (crcB (crcB (crcB (crcB (crcB (crcB (s ^^^ c.toNat))))))))
def sumW (b:Bs):Nat:=4294967295 ^^^ b.foldl crcC 4294967295
def chC (h:Nat) (c:Nat):Nat:=((h ^^^ c)*1099511628211)%18446744073709551616
def leB:Nat->Nat->List Nat
 |0,_=>[]
 |n+1,h=>h%256::leB n (h/256)
def basN:Nat:=14695981039346656037
def chainW (h:Nat) (b:Bs):Nat:=b.foldl (fun s c=>chC s c.toNat) ((leB 8 h).foldl chC basN)
def leW (n h:Nat):Bs:=(leB n h).map fun x=>UInt8.ofNat x
def putT (s:DT):Bs:=putN (s.size:Int)++s.data.toList
def truthV (b:Bool):Val:=⟨1,if b then 1 else 0,e0⟩
def putO (o:Opn):Bs:=putN o.kind++putT o.subj++putT o.case_++putT o.field++putT o.to_++putV o.val++putN o.rev++putT o.text++putT o.reason++putV (truthV o.glass)
def recW (h:Nat) (o:Opn):Bs:=leW 8 h++putO o
def jF (p:Bs):Bs:=leW 4 p.length++(leW 4 (sumW p)++p)
structure Eng where
 sto:Sto
 log:List Dcd
 recs:List Bs
 chain:Nat
 disk:Bs
 quota:Int
def errR (e:Int):Rpl:=⟨e,(0,0),false,noV,false,0⟩
def doE (x:Eng) (o:Opn):Eng×Rpl:=
 let g:=gdC x.sto o
 if g.2.2.2≠0 then(x,g.2.1)
 else
  let p:=recW x.chain o
  if x.quota-x.disk.length<((jF p).length:Int)then(x,errR 8)
  else({x with sto:=g.1,log:=x.log++[g.2.2.1],recs:=x.recs++[p],chain:=chainW x.chain p,disk:=x.disk++jF p},g.2.1)
def zy (x:Eng) (q:Bs):Eng×DT:=match qaa q with
 |none=>(x,wWhat)
 |some o=>((doE x o).1,ansW (doE x o).2)
def leastB:Bs:=[112,111,108,105,99,121,32,111,112,101,110,32,112,101,114,109,105,116,117,110,108,101,115,115,32,123,32,125]
def newS:Sto:=⟨0,[],[],[],[],(zk leastB).1,0⟩
def newE (n:Int):Eng:=⟨newS,[],[],0,[],n⟩
end
section
open Go.RowKit
def dkS (q:Int) (b:Bs) (s:Int):List SV:=[.p (pI q),.p (bP b),.p (pI s),.p (pI 0),.p (pB false)]
theorem free_h (q:Int) (b:Bs) (s:Int):HoldsW prog 86 [.ptr 1000000 0] [(1000000,.cells (dkS q b s))] (.p (pI (IntKind.i64.wrap (q-(b.length:Int))))) [(1000000,.cells (dkS q b s))]:=by
 have lb:=zY b;refine qE (ts:=[2]) func86 DG rfl rfl rfl ?_;refine uA ?_;refine uD [] [1,3,5,7,9,11,13,15,17,19,21] ?_;rw[lb];refine qT ?_;refine uQ ?_;exact Vj
theorem burn_h (q:Int) (b:Bs) (s:Int):HoldsW prog 88 [.ptr 1000000 0] [(1000000,.cells (dkS q b s))] (.p (pB false)) [(1000000,.cells (dkS q b s))]:=by
 refine qE (ts:=[2]) func88 DG rfl rfl rfl ?_;refine Kr ?_;refine uC (fun hc=>?_) (fun hc=>?_)
 · cases hc
 refine KA ?_;exact Vj
theorem sync_h (q:Int) (b:Bs) (s:Int):HoldsW prog 115 [.ptr 1000000 0] [(1000000,.cells (dkS q b s))] (.p (pI 0)) [(1000000,.cells (dkS q b (b.length:Int)))]:=by
 have lb:=zY b;refine qE (ts:=[2]) func115 DG rfl rfl rfl ?_;refine Kq ?_;refine uW [(1000000,1000000)] (burn_h q b s) ?_;refine Ko ?_;refine uC (fun hc=>?_) (fun hc=>?_)
 · cases hc
 refine Kv ?_;rw[lb];refine qe ?_;exact Lf
theorem dappend_no (q:Int) (b p:Bs) (s:Int) (hq:0<=q/\q<=10000000) (hb:b.length<=10000000) (hp:p.length<=1000000) (h:q-(b.length:Int)<(p.length:Int)):
 HoldsW prog 39 [.ptr 1000000 0,.p (bP p)] [(1000000,.cells (dkS q b s))] (.p (pI 8)) [(1000000,.cells (dkS q b s))]:=by
 have lp:=zY p;have hw:IntKind.i64.wrap (q-(b.length:Int))=q-b.length:=YD _ DP;refine qE (ts:=[4]) func39 DG rfl rfl rfl ?_;refine Kr ?_;refine uC (fun hc=>?_) (fun hc=>?_)
 · cases hc
 refine Kv ?_;rw[lp];refine uW [(1000000,1000000)] (free_h q b s) ?_;rw[hw];refine uS ?_;rw[show decide ((p.length:Int)>q-(b.length:Int))=true by rw[Yf];omega];refine qe ?_;refine uC (fun hc=>?_) (fun hc=>?_);rotate_left
 · cases hc
 exact Lf
theorem dappend_h (q:Int) (b p:Bs) (s:Int) (hq:0<=q/\q<=10000000) (hb:b.length<=5000000) (hp:p.length<=1000000) (h:¬q-(b.length:Int)<(p.length:Int)):
 HoldsW prog 39 [.ptr 1000000 0,.p (bP p)] [(1000000,.cells (dkS q b s))] (.p (pI 0)) [(1000000,.cells (dkS q (b++p) s))]:=by
 have lp:=zY p;have hw:IntKind.i64.wrap (q-(b.length:Int))=q-b.length:=YD _ DP;have HC:=concat_h [b,p] DQ DE;rw[show([b,p]:List Bs).flatten=b++p by simp]at HC;refine qE (ts:=[4]) func39 DG rfl rfl rfl ?_;refine Kr ?_;refine uC (fun hc=>?_) (fun hc=>?_)
 · cases hc
 refine Kv ?_;rw[lp];refine uW [(1000000,1000000)] (free_h q b s) ?_;rw[hw];refine uS ?_;rw[show decide ((p.length:Int)>q-(b.length:Int))=false by rw[Yh];omega];refine qe ?_;refine uC (fun hc=>?_) (fun hc=>?_)
 · cases hc
 refine Kv ?_;refine swt_wk (qu (k:=20) rfl) ?_;refine uO HC ?_;refine Kt ?_;refine uW [(1000000,1000000)] (burn_h q (b++p) s) ?_;refine Ko ?_;refine uC (fun hc=>?_) (fun hc=>?_)
 · cases hc
 refine KA ?_;exact Vj
end
section
theorem ofNat32 (u:Nat) (h:u<4294967296):(BitVec.ofInt IntKind.u32.bits (u:Int)).toNat=u:=by
 show(BitVec.ofInt 32 (u:Int)).toNat=u;rw[BitVec.toNat_ofInt];omega
theorem u32_nat {u:Nat} (h:u<4294967296):IntKind.u32.wrap (u:Int)=(u:Int):=by
 simp[IntKind.wrap,IntKind.bits,IntKind.signed];omega
theorem xor_lt64 {u c:Nat} (hu:u<18446744073709551616) (hc:c<18446744073709551616):u ^^^ c<18446744073709551616:=Nat.xor_lt_two_pow (n:=64) hu hc
theorem xor_lt32 {u c:Nat} (hu:u<4294967296) (hc:c<4294967296):u ^^^ c<4294967296:=Nat.xor_lt_two_pow (n:=32) hu hc
theorem xor64 {u c:Nat} (hu:u<18446744073709551616) (hc:c<18446744073709551616):IntKind.u64.wrap ((BitVec.ofInt IntKind.u64.bits (u:Int) ^^^ BitVec.ofInt IntKind.u64.bits (c:Int)).toNat:Int)=((u ^^^ c:Nat):Int):=by
 rw[BitVec.toNat_xor,ofNat64 u hu,ofNat64 c hc];exact u64_nat (xor_lt64 hu hc)
theorem xor32 {u c:Nat} (hu:u<4294967296) (hc:c<4294967296):IntKind.u32.wrap ((BitVec.ofInt IntKind.u32.bits (u:Int) ^^^ BitVec.ofInt IntKind.u32.bits (c:Int)).toNat:Int)=((u ^^^ c:Nat):Int):=by
 rw[BitVec.toNat_xor,ofNat32 u hu,ofNat32 c hc];exact u32_nat (xor_lt32 hu hc)
theorem and255 {u:Nat} (h:u<18446744073709551616):IntKind.u64.wrap ((BitVec.ofInt IntKind.u64.bits (u:Int) &&& BitVec.ofInt IntKind.u64.bits 255).toNat:Int)=((u%256:Nat):Int):=by
 rw[BitVec.toNat_and,ofNat64 u h,show(BitVec.ofInt IntKind.u64.bits 255).toNat=2^8-1 from by decide,Nat.and_two_pow_sub_one_eq_mod];exact u64_nat DP
theorem and1_32 {u:Nat} (h:u<4294967296):IntKind.u32.wrap ((BitVec.ofInt IntKind.u32.bits (u:Int) &&& BitVec.ofInt IntKind.u32.bits 1).toNat:Int)=((u%2:Nat):Int):=by
 rw[BitVec.toNat_and,ofNat32 u h,show(BitVec.ofInt IntKind.u32.bits 1).toNat=2^1-1 from by decide,Nat.and_two_pow_sub_one_eq_mod];exact u32_nat DP
theorem mul64 {u c:Nat}:IntKind.u64.wrap ((u:Int)*(c:Int))=((u*c%18446744073709551616:Nat):Int):=by
 rw[<-Int.natCast_mul];simp[IntKind.wrap,IntKind.bits,IntKind.signed]
theorem u8_nat (u:Nat):IntKind.u8.wrap (u:Int)=((u%256:Nat):Int):=by
 simp[IntKind.wrap,IntKind.bits,IntKind.signed]
end
section
open Go.RowKit
abbrev pW32 (n:Nat):PV:=.v (.int .u32 (n:Int))
abbrev pW64 (n:Nat):PV:=.v (.int .u64 (n:Int))
theorem shr32_1 (x:Nat):(x:Int).fdiv (2^(min (1:Int).toNat IntKind.u32.bits))=((x/2:Nat):Int):=by
 rw[show((2:Int)^(min (1:Int).toNat IntKind.u32.bits))=2 from by decide,Int.fdiv_eq_ediv_of_nonneg _ DP];omega
theorem shr32_8 (x:Nat):(x:Int).fdiv (2^(min (8:Int).toNat IntKind.u32.bits))=((x/256:Nat):Int):=by
 rw[show((2:Int)^(min (8:Int).toNat IntKind.u32.bits))=256 from by decide,Int.fdiv_eq_ediv_of_nonneg _ DP];omega
theorem shr32_16 (x:Nat):(x:Int).fdiv (2^(min (16:Int).toNat IntKind.u32.bits))=((x/65536:Nat):Int):=by
 rw[show((2:Int)^(min (16:Int).toNat IntKind.u32.bits))=65536 from by decide,Int.fdiv_eq_ediv_of_nonneg _ DP];omega
theorem shr32_24 (x:Nat):(x:Int).fdiv (2^(min (24:Int).toNat IntKind.u32.bits))=((x/16777216:Nat):Int):=by
 rw[show((2:Int)^(min (24:Int).toNat IntKind.u32.bits))=16777216 from by decide,Int.fdiv_eq_ediv_of_nonneg _ DP];omega
theorem shr64_8 (x:Nat):(x:Int).fdiv (2^(min (8:Int).toNat IntKind.u64.bits))=((x/256:Nat):Int):=by
 rw[show((2:Int)^(min (8:Int).toNat IntKind.u64.bits))=256 from by decide,Int.fdiv_eq_ediv_of_nonneg _ DP];omega
theorem not32 {u:Nat} (h:u<4294967296):IntKind.u32.wrap ((BitVec.ofInt IntKind.u32.bits (if IntKind.u32.signed=true then-1 else IntKind.u32.max) ^^^ BitVec.ofInt IntKind.u32.bits (u:Int)).toNat:Int)=((4294967295 ^^^ u:Nat):Int):=by
 have e:(if IntKind.u32.signed=true then(-1:Int)else IntKind.u32.max)=((4294967295:Nat):Int):=by decide
 rw[e];exact xor32 DO h
theorem xorTurn {u:Nat} (h:u<4294967296):IntKind.u32.wrap ((BitVec.ofInt IntKind.u32.bits (u:Int) ^^^ BitVec.ofInt IntKind.u32.bits (3988292384:Int)).toNat:Int)=((u ^^^ 3988292384:Nat):Int):=xor32 h DO
def crcI:Nat->Nat->Nat
 |0,s=>s
 |i+1,s=>crcB (crcI i s)
theorem crcB_lt {s:Nat} (h:s<4294967296):crcB s<4294967296:=by
 unfold crcB;split
 · exact xor_lt32 DP DO
 · omega
theorem crcI_lt {s:Nat} (h:s<4294967296):∀i,crcI i s<4294967296
 |0=>h
 |i+1=>crcB_lt (crcI_lt h i)
theorem u8_lt (c:UInt8):c.toNat<256:=c.toNat_lt
theorem crcC_lt {s:Nat} (h:s<4294967296) (c:UInt8):crcC s c<4294967296:=crcI_lt (xor_lt32 h (by have:=u8_lt c;omega)) 8
theorem foldC_lt:∀(b:Bs) {s:Nat},s<4294967296->b.foldl crcC s<4294967296
 |[],_,h=>h
 |c::b,_,h=>foldC_lt b (crcC_lt h c)
theorem sumW_lt (b:Bs):sumW b<4294967296:=xor_lt32 DO (foldC_lt b DO)
theorem sum_h (b:Bs) (hn:b.length<=10000000):Holds prog 182 [bP b] (.p (pW32 (sumW b))) []:=by
 have lb:=zY b;refine qo (ts:=[2]) func182 DG rfl rfl rfl ?_;refine LN ?_;rw[lb];refine uB ?_;refine uZ [3,7,8,9] [] ?_;refine qG (fun m s=>∃(k x:Nat),k<=b.length/\m=b.length-k/\x=(b.take k).foldl crcC 4294967295/\s=⟨31,[(3,.p (pW32 x)),(7,.p (bP b)),(8,.p (pI (b.length:Int))),(9,.p (pI (k:Int)))],[]⟩) b.length ⟨0,4294967295,Yl _,rfl,rfl,rfl⟩ ?_;rintro m s ⟨k,x,hk,rfl,hx,rfl⟩;have hx32:x<4294967296:=by rw[hx];exact foldC_lt _ DO
 refine uA ?_;by_cases hlt:k<b.length
 · rw[show decide ((k:Int)<(b.length:Int))=true by rw[Yf];omega];refine uC (fun hc=>?_) (fun hc=>?_);rotate_left
   · cases hc
   refine Li ?_;refine qm qc rfl rfl (by rw[lb];omega) rfl ?_;rw[Int.toNat_natCast,bR_at hlt];refine Ko ?_;have hc8:=u8_lt b[k];refine uR ?_;rw[show IntKind.u32.wrap ((b[k].toNat:Nat):Int)=((b[k].toNat:Nat):Int)from u32_nat DP,xor32 hx32 DP];refine qe ?_;have hy32:x ^^^ b[k].toNat<4294967296:=xor_lt32 hx32 DP;have hy:(b.take (k+1)).foldl crcC 4294967295=crcI 8 (x ^^^ b[k].toNat):=by rw[Ym hlt,List.foldl_append,<-hx];rfl
   generalize x ^^^ b[k].toNat=y at*;refine KJ ?_;refine uZ [3,7,8,9,17] [] ?_;refine qG (fun m s=>∃i:Nat,i<=8/\m=8-i/\s=⟨31,[(3,.p (pW32 (crcI i y))),(7,.p (bP b)),(8,.p (pI (b.length:Int))),(9,.p (pI (k:Int))),(17,.p (pI (i:Int)))],[]⟩) 8 ⟨0,by omega,rfl,rfl⟩ ?_;rintro m s ⟨i,hi,rfl,rfl⟩;have hz:=crcI_lt hy32 i;have hz1:crcI (i+1) y=crcB (crcI i y):=rfl;obtain⟨z,hzz⟩:∃z,z=crcI i y:=⟨_,rfl⟩;rw[<-hzz]at hz hz1⊢;refine uA ?_;by_cases h8:i<8
   · rw[show decide ((i:Int)<8)=true by rw[Yf];omega];refine uC (fun hc=>?_) (fun hc=>?_);rotate_left
     · cases hc
     refine Li ?_;rw[and1_32 hz];refine K4 ?_;refine Vw ?_;rw[shr32_1];refine Ku ?_;by_cases ho:z%2=1
     · rw[show(((z%2:Nat):Int)==1)=true by rw[beq_iff_eq];omega];refine uC (fun hc=>?_) (fun hc=>?_);rotate_left
       · cases hc
       refine uR ?_;rw[xorTurn (show z/2<4294967296 by omega)];refine KF ?_;refine⟨_,_,?_,qj [3,7,8,9,17] [] rfl rfl,i+1,h8,rfl,by rw[qq h8 DP,hz1];unfold crcB;rw[Yi ho];rfl⟩;omega
     · rw[show(((z%2:Nat):Int)==1)=false by rw[beq_eq_false_iff_ne];omega];refine uC (fun hc=>?_) (fun hc=>?_)
       · cases hc
       refine Kw ?_;refine⟨_,_,?_,qj [3,7,8,9,17] [] rfl rfl,i+1,h8,rfl,by rw[qq h8 DP,hz1];unfold crcB;rw[Yc ho];rfl⟩;omega
   rw[show decide ((i:Int)<8)=false by rw[Yh];omega];refine uC (fun hc=>?_) (fun hc=>?_)
   · cases hc
   refine Ls ?_;have hi8:i=8:=by omega
   rw[hi8]at hzz;refine⟨_,_,?_,qj [3,7,8,9] [] rfl rfl,k+1,z,hlt,rfl,hzz.trans hy.symm,by rw[qq hlt DP];rfl⟩;omega
 rw[show decide ((k:Int)<(b.length:Int))=false by rw[Yh];omega];refine uC (fun hc=>?_) (fun hc=>?_)
 · cases hc
 refine qC ?_;have hkl:k=b.length:=by omega
 rw[hkl,Yu]at hx;refine uR ?_;rw[not32 hx32];refine KD ?_;refine⟨Or.inr rfl,_,_,[],Wk.refl _,rfl,?_,rfl,rfl⟩;unfold sumW;rw[<-hx];rfl
abbrev rowB (i:Nat) (l:Bs):List (Nat×Box):=[(i,.row 5 1 (bR l))]
theorem cloneB_h (l:Bs) (hn:l.length<=1000000):Holds prog 116 [bP l] (.row 0) (rowB 0 l):=by
 refine qo (ts:=[2]) func116 DG rfl rfl rfl ?_;refine Kq ?_;refine qy rfl (zP qc rfl rfl rfl rfl rfl rfl (fun b hb=>?_));refine qe ?_;refine uC (fun hc=>?_) (fun hc=>?_)
 · have hl:=hb hc;have hl':l=[]:=by simpa [bR]using hl
   subst hl';refine Kp ?_;exact⟨Or.inr rfl,_,_,[(0,0)],zw 2 0 5 1 rfl rfl,rfl,rfl,rfl,rfl⟩
 · refine Kv ?_;refine qy rfl (qp qc rfl rfl rfl rfl rfl rfl rfl rfl rfl rfl rfl rfl rfl rfl rfl rfl (by simp[reachBytes,zY];omega) (by simp[zY];omega) ?_);exact Lw
theorem zig_neg {n:Int} (h:n<0) (hr:R64 n):(18446744073709551616+2*n:Int)=((18446744073709551615-zig n:Nat):Int):=by
 have:=hr.1;unfold zig;rw[Yi h];omega
theorem zig_pos {n:Int} (h:¬n<0):(2*n:Int)=((zig n:Nat):Int):=by
 unfold zig;rw[Yc h];omega
def onP (x k u:Nat) (d:Bs):Prop:=d.length=k/\k<=9/\u*128^k<18446744073709551616/\putU 10 x=d++putU (10-k) u
theorem onP_0 {x:Nat} (h:x<18446744073709551616):onP x 0 x []:=⟨rfl,by omega,by omega,rfl⟩
theorem onP_more {x k u:Nat} {d:Bs} (h:onP x k u d) (hu:128<=u):onP x (k+1) (u/128) (d++[UInt8.ofNat (u%128+128)]):=by
 obtain⟨h1,h2,h3,h4⟩:=h;have hk:k<9:=by
  rcases Nat.lt_or_ge k 9 with hk|hk
  · exact hk
  · have:k=9:=by omega
    subst this;have e:(128:Nat)^9=9223372036854775808:=by decide
    rw[e]at h3;omega
 refine⟨by simp[h1],by omega,?_,?_⟩
 · have e:u/128*128^(k+1)=(u/128*128)*128^k:=by rw[Nat.pow_succ,Nat.mul_comm (128^k) 128,<-Nat.mul_assoc]
   rw[e];exact Nat.lt_of_le_of_lt (Xl _ (Nat.div_mul_le_self u 128)) h3
 · rw[h4,show 10-k=(10-(k+1))+1 by omega,putU,Yc DP];simp
theorem onP_last {x k u:Nat} {d:Bs} (h:onP x k u d) (hu:u<128):putU 10 x=d++[UInt8.ofNat u]:=by
 obtain⟨h1,h2,h3,h4⟩:=h;rw[h4,show 10-k=(9-k)+1 by omega,putU,Yi hu]
theorem onP_u {x k u:Nat} {d:Bs} (h:onP x k u d):u<18446744073709551616:=by
 obtain⟨h1,h2,h3,h4⟩:=h;exact Nat.lt_of_le_of_lt (Nat.le_mul_of_pos_right u (Nat.pow_pos DP)) h3
theorem u8_of {x:Nat} (h:x<256):((x:Nat):Int)=((UInt8.ofNat x).toNat:Int):=by
 rw[UInt8.toNat_ofNat'];omega
theorem bR_snoc (b d:Bs) (c:UInt8):bR (b++(d++[c]))=bR (b++d)++[[pU c]]:=by rw[<-List.append_assoc,bR_app (b++d)];rfl
theorem pnum_h (b:Bs) (hb:b.length<=200000) (n:Int) (hn:R64 n):Holds prog 177 [bP b,pI n] (.row 0) (rowB 0 (b++putN n)):=by
 have HC:=cloneB_h b DP;have hz:=zig_lt hn;obtain⟨x,hx⟩:∃x,x=zig n:=⟨_,rfl⟩;have eP:putN n=putU 10 x:=by rw[hx];rfl
 rw[eP];refine qo (ts:=[4]) func177 DG rfl rfl rfl ?_;refine Kq ?_;refine Vw ?_;rw[zig_u hn];refine Ku ?_;(repeat refine qA ?_)
 refine SW.mono (Q:=fun e s=>e=.normal/\Wk s ⟨32,[(0,.p (bP b)),(5,.p (.v (.int .u64 (x:Int))))],[]⟩) ?_ ?_
 · refine uC (fun hc=>?_) (fun hc=>?_)
   · have hneg:n<0:=YM hc;rw[Yi hneg,zig_neg hneg hn];refine uR ?_;rw[not_u64s DP,show 18446744073709551615-(18446744073709551615-zig n)=x by omega];refine Ko ?_;exact⟨rfl,qj [0,5] [] rfl rfl⟩
   · have hneg:¬n<0:=of_decide_eq_false hc;rw[Yc hneg,zig_pos hneg,<-hx];refine qh ?_;exact⟨rfl,qj [0,5] [] rfl rfl⟩
 rintro e s ⟨rfl,hw⟩;refine V3 ?_;refine uR ?_;refine uO HC ?_;refine Lx ?_;refine uZ [5,6] [(16000,0)] ?_;refine qG (fun m s=>∃(k u:Nat) (uu:Int) (d:Bs),m=10-k/\uu=u/\onP x k u d/\s=⟨32,[(5,.p (.v (.int .u64 uu))),(6,.row 0)],rowB 0 (b++d)⟩) 10 ⟨0,x,x,[],rfl,rfl,onP_0 DP,by rw[Y9];rfl⟩ ?_;rintro m s ⟨k,u,_,d,rfl,rfl,hO,rfl⟩;have hd:=hO.1;have hk9:=hO.2.1;have hu:=onP_u hO;refine uA ?_;by_cases h7:128<=u
 · rw[show decide ((u:Int)>=128)=true by simp;omega];refine uC (fun hq=>?_) (fun hq=>?_);rotate_left
   · cases hq
   refine Li ?_;rw[and127 hu,or128 (Nat.mod_lt _ DP),u8_in DP,u8_of (show u%128+128<256 by omega)];refine uS ?_;refine Ul ?_;refine Kt ?_;refine Vw ?_;rw[shr_7];refine Ko ?_;refine⟨_,_,?_,qj [5,6] [(26,0)] rfl rfl,k+1,u/128,_,d++[UInt8.ofNat (u%128+128)],rfl,rfl,onP_more hO h7,?_⟩;rotate_left
   · have e:=bR_snoc b d (UInt8.ofNat (u%128+128));unfold rowB;rw[e];rfl
   omega
 · rw[show decide ((u:Int)>=128)=false by simp;omega];refine uC (fun hq=>?_) (fun hq=>?_)
   · cases hq
   refine qC ?_;have hL:=onP_last hO DP;refine uR ?_;rw[u8_in DP,u8_of (show u<256 by omega)];refine uS ?_;refine Ul ?_;refine Ks ?_;unfold rowB;rw[hL,bR_snoc];exact uF [(31,0)]
theorem jl (n:Int):(putN n).length<=10:=putU_len 10 _
theorem ptext_h (b:Bs) (hb:b.length<=200000) (l:Bs) (hl:l.length<=100000):Holds prog 178 [bP b,pL l] (.row 0) (rowB 0 (b++putN (l.length:Int)++l)):=by
 have HN:=pnum_h b hb (l.length:Int) ⟨by omega,by omega⟩;have hp:=jl (l.length:Int);refine qo (ts:=[4]) func178 DG rfl rfl rfl ?_;refine Kq ?_;rw[show(⟨⟨l⟩⟩:DT).size=l.length from rfl];refine uO HN ?_;refine uS ?_;refine qy rfl (act_append_str qc rfl rfl rfl rfl rfl rfl rfl rfl rfl DG rfl rfl rfl rfl rfl (by simp only[zY,Ya];omega) ?_);refine Ks ?_;unfold rowB;rw[bR_app (b++putN (l.length:Int))];exact uF [(10,0)]
theorem textsD_h (k:Int):Holds prog 235 [pI k] (.p (pB (decide (k=3\/k=5)))) []:=by
 refine qo (ts:=[2]) func235 DG rfl rfl rfl ?_;refine Kq ?_;by_cases h3:k=3
 · rw[show(k==3)=true by simp[h3]];refine Ks ?_;exact zf rfl (by simp[h3])
 · rw[show(k==3)=false by simp[h3]];refine Ks ?_;exact zf rfl (by rw[YO];simp[h3])
theorem vput_h (b:Bs) (hb:b.length<=190000) (v:Val) (hv:v.Fit) (hs:v.s.size<=100000) (hk:R64 v.kind):Holds prog 179 [bP b,.agg v.pv] (.row 0) (rowB 0 (b++putV v)):=by
 have HN:=pnum_h b DP v.kind hk;have hp:=jl v.kind;have HT:=textsD_h v.kind;obtain⟨k,n,⟨⟨s⟩⟩⟩:=v;have H2:=ptext_h (b++putN k) (by rw[Ya];simp only at hp;omega) s hs;have H3:=pnum_h (b++putN k) (by rw[Ya];simp only at hp;omega) n ⟨hv.n.1,hv.n.2⟩;simp only at HN HT;refine qo (ts:=[4]) func179 DG rfl rfl rfl ?_;refine Kq ?_;refine uO HN ?_;refine Kt ?_;refine uK HT ?_;refine qe ?_;by_cases h:k=3\/k=5
 · have e:putV ⟨k,n,⟨⟨s⟩⟩⟩=putN k++(putN (s.length:Int)++s):=by unfold putV;rw[Yi h];rfl
   rw[e,show decide (k=3\/k=5)=true from Yz h,<-YU,<-YU];refine uC (fun hc=>?_) (fun hc=>?_);rotate_left
   · cases hc
   refine uR ?_;refine swt_wk (qu (k:=9000) rfl) ?_;refine uO H2 ?_;refine Ks ?_;exact uF [(16000,0)]
 · have e:putV ⟨k,n,⟨⟨s⟩⟩⟩=putN k++putN n:=by unfold putV;rw[Yc h]
   rw[e,show decide (k=3\/k=5)=false from YB h,<-YU];refine uC (fun hc=>?_) (fun hc=>?_)
   · cases hc
   refine Kv ?_;refine swt_wk (qu (k:=9000) rfl) ?_;refine uO H3 ?_;refine Ks ?_;exact uF [(20000,0)]
theorem leW4 (n:Nat):bR (leW 4 n)=[[pU (UInt8.ofNat (n%256))],[pU (UInt8.ofNat (n/256%256))],[pU (UInt8.ofNat (n/65536%256))],[pU (UInt8.ofNat (n/16777216%256))]]:=by
 have e1:n/256/256=n/65536:=by rw[Nat.div_div_eq_div_mul]
 have e2:n/65536/256=n/16777216:=by rw[Nat.div_div_eq_div_mul]
 simp only[leW,leB,Y2,List.map_nil,bR,e1,e2]
theorem u8_w (n:Nat):IntKind.u8.wrap (n:Int)=((UInt8.ofNat (n%256)).toNat:Int):=by rw[u8_nat,u8_of DP]
theorem four_h (n:Nat) (hn:n<4294967296):Holds prog 181 [pW32 n] (.p (bP (leW 4 n))) []:=by
 refine Vd ?_;show HoldsW _ _ [.p (pW32 n)] [] _ _;refine qE (ts:=[2]) func181 DG rfl rfl rfl ?_;refine Kq ?_;rw[u8_w];refine Vw ?_;rw[shr32_8];refine uS ?_;rw[u8_w];refine Vw ?_;rw[shr32_16];refine uS ?_;rw[u8_w];refine Vw ?_;rw[shr32_24];refine uS ?_;rw[u8_w];refine KD ?_;unfold bP;rw[leW4];exact⟨Or.inr rfl,_,_,[],qu (k:=14) rfl,rfl,rfl,rfl,rfl⟩
theorem qbj (n h:Nat):(leW n h).length=n:=by
 unfold leW;rw[Yb]
 induction n generalizing h with
 |zero=>rfl
 |succ n ih=>rw[leB,Yg,ih]
theorem frame_h (p:Bs) (hp:p.length<=1000000):Holds prog 114 [bP p] (.p (bP (jF p))) []:=by
 have lp:=zY p;have h1:=four_h p.length DP;have h2:=sum_h p DP;have h3:=four_h (sumW p) (sumW_lt p);have h4:=concat_h [leW 4 p.length,leW 4 (sumW p),p] DQ (by simp[qbj];omega);rw[show([leW 4 p.length,leW 4 (sumW p),p]:List Bs).flatten=jF p by simp[jF]]at h4;refine Vd ?_;show HoldsW _ _ [.p (bP p)] [] _ _;refine qE (ts:=[2]) func114 DG rfl rfl rfl ?_;refine Kq ?_;rw[lp,show IntKind.u32.wrap (p.length:Int)=(p.length:Int)from u32_nat DP];refine uO h1 ?_;refine uS ?_;refine uK h2 ?_;refine uS ?_;refine uO h3 ?_;refine swt_wk (qu (k:=11) rfl) ?_;refine uO h4 ?_;exact Lo
def recR (l:List Bs):List (List PV):=l.map fun r=>[bP r]
theorem recR_len (l:List Bs):(recR l).length=l.length:=List.length_map _
theorem down_h (q:Int) (b:Bs) (s:Int) (rs:List Bs):HoldsW prog 62 [.ptr 1000000 0] [(1000000,.cells [.ptr 1000001 0,.row 1000002,.p (pB false)]),(1000001,.cells (dkS q b s)),(1000002,.row 100 1 (recR rs))] (.p (pB false)) [(1000000,.cells [.ptr 1000001 0,.row 1000002,.p (pB false)]),(1000001,.cells (dkS q b s)),(1000002,.row 100 1 (recR rs))]:=by
 refine qE (ts:=[2]) func62 DG rfl rfl rfl ?_;refine KX ?_;exact MT
theorem frameW_len (p:Bs):(jF p).length=p.length+8:=by
 unfold jF;simp only[Ya,qbj];omega
theorem add_no (q:Int) (b:Bs) (s:Int) (rs:List Bs) (p:Bs) (hp:0<p.length/\p.length<=8192) (hq:0<=q/\q<=10000000) (hb:b.length<=5000000) (h:q-(b.length:Int)<((jF p).length:Int)):
 HoldsW prog 64 [.ptr 1000000 0,.p (bP p)] [(1000000,.cells [.ptr 1000001 0,.row 1000002,.p (pB false)]),(1000001,.cells (dkS q b s)),(1000002,.row 100 1 (recR rs))] (.p (pI 8)) [(1000000,.cells [.ptr 1000001 0,.row 1000002,.p (pB false)]),(1000001,.cells (dkS q b s)),(1000002,.row 100 1 (recR rs))]:=by
 have lp:=zY p;have lf:=frameW_len p;have HF:=frame_h p DP;refine qE (ts:=[4]) func64 DG rfl rfl rfl ?_;refine Kr ?_;refine uC (fun hc=>?_) (fun hc=>?_)
 · cases hc
 refine Kv ?_;rw[lp,show((p.length:Int)==0)=false by rw[beq_eq_false_iff_ne];omega];refine uS ?_;rw[lp,show decide ((p.length:Int)>8192)=false by rw[Yh];omega];refine qe ?_;refine uC (fun hc=>?_) (fun hc=>?_)
 · cases hc
 refine qh ?_;refine uD [1000001] [1,3,5,7,9,10,12,15] ?_;refine uo HF ?_;refine uT ?_;refine uw [(1000001,1000000)] (dappend_no q b (jF p) s hq DP DP h) ?_;refine KG ?_;refine uA ?_;refine uC (fun hc=>?_) (fun hc=>?_);rotate_left
 · cases hc
 refine Kp ?_;exact MT
theorem add_h (q:Int) (b:Bs) (s:Int) (rs:List Bs) (hr:rs.length<=100000) (p:Bs) (hp:0<p.length/\p.length<=8192) (hq:0<=q/\q<=10000000) (hb:b.length<=5000000) (h:¬q-(b.length:Int)<((jF p).length:Int)):
 HoldsW prog 64 [.ptr 1000000 0,.p (bP p)] [(1000000,.cells [.ptr 1000001 0,.row 1000002,.p (pB false)]),(1000001,.cells (dkS q b s)),(1000002,.row 100 1 (recR rs))] (.p (pI 0)) [(1000000,.cells [.ptr 1000001 0,.row 0,.p (pB false)]),(1000001,.cells (dkS q (b++jF p) ((b++jF p).length:Int))),(0,.row 100 1 (recR (rs++[p])))]:=by
 have HC:=cloneB_h p DP;have lr:=recR_len rs;have lp:=zY p;have lf:=frameW_len p;have HF:=frame_h p DP;refine qE (ts:=[4]) func64 DG rfl rfl rfl ?_;refine Kr ?_;refine uC (fun hc=>?_) (fun hc=>?_)
 · cases hc
 refine Kv ?_;rw[lp,show((p.length:Int)==0)=false by rw[beq_eq_false_iff_ne];omega];refine uS ?_;rw[lp,show decide ((p.length:Int)>8192)=false by rw[Yh];omega];refine qe ?_;refine uC (fun hc=>?_) (fun hc=>?_)
 · cases hc
 refine qh ?_;refine uD [1000001] [1,3,5,7,9,10,12,15] ?_;refine uo HF ?_;refine uT ?_;refine uw [(1000001,1000000)] (dappend_h q b (jF p) s hq DP DP h) ?_;refine KG ?_;refine uA ?_;refine uC (fun hc=>?_) (fun hc=>?_)
 · cases hc
 refine Kw ?_;refine uC (fun hc=>?_) (fun hc=>?_);rotate_left
 · cases hc
 refine uR ?_;refine uW [(1000001,1000000)] (sync_h q (b++jF p) s) ?_;refine Ku ?_;refine uC (fun hc=>?_) (fun hc=>?_)
 · cases hc
 refine qh ?_;refine Ry ?_;refine qi (i:=0) (K:=[1000002]) DG DG rfl rfl (qf qc rfl De) rfl ?_;refine qi (i:=1) (K:=[1000002]) DG DG rfl rfl (qf qc rfl De) rfl ?_;refine qi (i:=2) (K:=[1000002]) DG DG rfl rfl (qf qc rfl De) rfl ?_;refine qi (i:=3) (K:=[1000002]) DG DG rfl rfl (qf qc rfl De) rfl ?_;refine qi (i:=4) (K:=[1000002]) DG DG rfl rfl (qf qc rfl De) rfl ?_;refine qi (i:=5) (K:=[1000002]) DG DG rfl rfl (qf qc rfl De) rfl ?_;refine G9 ?_;refine qd rfl rfl rfl (qt rfl rfl rfl rfl (HC.row_sl) rfl rfl rfl ?_);refine Gx ?_;refine Xy ?_;refine Un ?_;refine qd rfl rfl rfl (qp qc rfl rfl rfl rfl rfl rfl rfl rfl rfl rfl rfl rfl rfl rfl rfl rfl (by rw[lr];show _+1<=_;unfold reachBytes;omega) (by rw[lr];show(_+1)*24<=_;omega) ?_);refine Rz ?_;refine qi (i:=10) (K:=[1000000]) DG DG rfl rfl (qf qc rfl De) rfl ?_;refine UX ?_;refine Lz ?_;refine SW.wk (qj [1] [(1000000,1000000),(1000001,1000001),(48,48)] rfl rfl) ?_;refine ?fk13_100;rotate_left;refine Kp ?_;unfold recR;rw[Yr];exact uF [(1000000,1000000),(1000001,1000001),(48,0)]
theorem chC_lt (h c:Nat):chC h c<18446744073709551616:=Nat.mod_lt _ DO
theorem basis_lt:basN<18446744073709551616:=by decide
theorem bas_v:Value.int .u64 (14695981039346656037:Int)=.int .u64 ((basN:Nat):Int):=rfl
theorem foldH_lt:∀(l:List Nat) {s:Nat},s<18446744073709551616->l.foldl chC s<18446744073709551616
 |[],_,h=>h
 |c::l,_,_=>foldH_lt l (chC_lt _ c)
theorem foldB_lt:∀(b:Bs) {s:Nat},s<18446744073709551616->b.foldl (fun s (c:UInt8)=>chC s c.toNat) s<18446744073709551616
 |[],_,h=>h
 |c::b,_,_=>foldB_lt b (chC_lt _ c.toNat)
theorem chainW_lt (h:Nat) (b:Bs):chainW h b<18446744073709551616:=foldB_lt b (foldH_lt _ basis_lt)
theorem leB_snoc:∀(n h:Nat),leB (n+1) h=leB n h++[h/256^n%256]
 |0,h=>by simp[leB]
 |n+1,h=>by
  rw[leB,leB_snoc n (h/256),leB,Y5,Nat.div_div_eq_div_mul,Nat.pow_succ,Nat.mul_comm 256]
theorem mulP {u:Nat}:IntKind.u64.wrap ((u:Int)*1099511628211)=((u*1099511628211%18446744073709551616:Nat):Int):=mul64 (u:=u) (c:=1099511628211)
theorem mulC {x c:Nat}:IntKind.u64.wrap (((x ^^^ c:Nat):Int)*1099511628211)=((chC x c:Nat):Int):=mulP
theorem chain_h (h:Nat) (hh:h<18446744073709551616) (b:Bs) (hn:b.length<=10000000):Holds prog 117 [pW64 h,bP b] (.p (pW64 (chainW h b))) []:=by
 have lb:=zY b;have hBl:=basis_lt;unfold chainW;refine qo (ts:=[4]) func117 DG rfl rfl rfl ?_;refine Kr ?_;rw[bas_v];generalize hB:basN=B at*;refine KJ ?_;refine uZ [0,1,5,8] [] ?_;refine qG (fun m s=>∃(i x:Nat),i<=8/\m=8-i/\x=(leB i h).foldl chC B/\s=⟨31,[(0,.p (pW64 (h/256^i))),(1,.p (bP b)),(5,.p (pW64 x)),(8,.p (pI (i:Int)))],[]⟩) 8 ⟨0,B,by omega,rfl,rfl,by rw[Nat.pow_zero,Nat.div_one];rfl⟩ ?_;rintro m s ⟨i,x,hi,rfl,hx,rfl⟩;have hx64:x<18446744073709551616:=by rw[hx];exact foldH_lt _ hBl
 have hd:h/256^i<18446744073709551616:=Nat.lt_of_le_of_lt (Nat.div_le_self _ _) hh;refine uA ?_;by_cases h8:i<8
 · rw[show decide ((i:Int)<8)=true by rw[Yf];omega];refine uC (fun hc=>?_) (fun hc=>?_);rotate_left
   · cases hc
   refine Li ?_;rw[and255 hd,xor64 hx64 (show h/256^i%256<18446744073709551616 by omega),mulC];refine K4 ?_;refine Vw ?_;rw[shr64_8];refine Ku ?_;refine⟨_,_,?_,qj [0,1,5,8] [] rfl rfl,i+1,chC x (h/256^i%256),h8,rfl,by rw[leB_snoc,List.foldl_append,<-hx,List.foldl_cons,List.foldl_nil],by rw[qq h8 DP,Nat.pow_succ,<-Nat.div_div_eq_div_mul];rfl⟩;omega
 rw[show decide ((i:Int)<8)=false by rw[Yh];omega];refine uC (fun hc=>?_) (fun hc=>?_)
 · cases hc
 refine qC ?_;have hi8:i=8:=by omega
 rw[hi8]at hx;refine uA ?_;rw[lb];refine uB ?_;refine uZ [5,18,19,20] [] ?_;refine qG (fun m s=>∃(k y:Nat),k<=b.length/\m=b.length-k/\y=(b.take k).foldl (fun s (c:UInt8)=>chC s c.toNat) x/\s=⟨31,[(5,.p (pW64 y)),(18,.p (bP b)),(19,.p (pI (b.length:Int))),(20,.p (pI (k:Int)))],[]⟩) b.length ⟨0,x,Yl _,rfl,rfl,rfl⟩ ?_;rintro m s ⟨k,y,hk,rfl,hy,rfl⟩;have hy64:y<18446744073709551616:=by rw[hy];exact foldB_lt _ hx64
 refine uA ?_;by_cases hlt:k<b.length
 · rw[show decide ((k:Int)<(b.length:Int))=true by rw[Yf];omega];refine uC (fun hc=>?_) (fun hc=>?_);rotate_left
   · cases hc
   refine Li ?_;refine qm qc rfl rfl (by rw[lb];omega) rfl ?_;rw[Int.toNat_natCast,bR_at hlt];refine Ko ?_;have hc8:=u8_lt b[k];refine uR ?_;rw[show IntKind.u64.wrap ((b[k].toNat:Nat):Int)=((b[k].toNat:Nat):Int)from u64_nat DP,xor64 hy64 DP,mulC];refine KF ?_;refine⟨_,_,?_,qj [5,18,19,20] [] rfl rfl,k+1,chC y b[k].toNat,hlt,rfl,by rw[Ym hlt,List.foldl_append,<-hy,List.foldl_cons,List.foldl_nil],by rw[qq hlt DP];rfl⟩;omega
 rw[show decide ((k:Int)<(b.length:Int))=false by rw[Yh];omega];refine uC (fun hc=>?_) (fun hc=>?_)
 · cases hc
 refine qC ?_;have hkl:k=b.length:=by omega
 rw[hkl,Yu]at hy;refine Kp ?_;refine⟨Or.inr rfl,_,_,[],Wk.refl _,rfl,?_,rfl,rfl⟩;rw[<-hx,<-hy];rfl
def enS (s:Sto) (l:SV) (c:Nat):List SV:=[.ptr 1000001 0,.p (pI s.tick),.p (wc s.cases),.p (jX s.revs),.p (qan s.ntcs),.p (zi s.roles),.p (pS s.pol.id),.p (pB s.pol.set),.p (pI s.pol.alg),.p (tgtP s.pol.target),.p (.sl 5 (s.pol.rules.map zo)),.p (.sl 7 (s.pol.kids.map polP)),.p (zh s.pol.obls),.p (pI s.ver),l,.p (pW64 c)]
def engO (x:Eng) (l r:Nat):List (Nat×Box):=[(1000000,.cells (enS x.sto (.row l) x.chain)),(1000001,.cells [.ptr 1000002 0,.row r,.p (pB false)]),(1000002,.cells (dkS x.quota x.disk (x.disk.length:Int))),(l,.row 80 16 (x.log.map Dcd.pv)),(r,.row 100 1 (recR x.recs))]
theorem goes_h (x:Eng) (hx:x.chain<18446744073709551616) (hl:x.log.length<=100000) (s:Sto) (d:Dcd) (p:Bs) (hp:p.length<=1000000):
 HoldsW prog 65 [.ptr 1000000 0,.p (.agg s.pv),.p (.agg d.pv),.p (bP p)] (engO x 1000003 1000004) (.tup []) (engO {x with sto:=s,log:=x.log++[d],chain:=chainW x.chain p} 0 1000004):=by
 have HC:=chain_h x.chain hx p DP;have ll:(x.log.map Dcd.pv).length=x.log.length:=Yb _;unfold engO;rw[Yr];refine qE (ts:=[]) func65 DG rfl rfl rfl ?_;refine Kr ?_;(repeat refine qA ?_);refine qD 11 rfl DG ?_
 refine qi (i:=0) (K:=[1000003]) DG DG rfl rfl (qf qc rfl De) rfl ?_;refine qi (i:=1) (K:=[1000003]) DG DG rfl rfl (qf qc rfl De) rfl ?_;refine qi (i:=2) (K:=[1000003]) DG DG rfl rfl (qf qc rfl De) rfl ?_;refine qi (i:=3) (K:=[1000003]) DG DG rfl rfl (qf qc rfl De) rfl ?_;refine qi (i:=4) (K:=[1000003]) DG DG rfl rfl (qf qc rfl De) rfl ?_;refine qi (i:=5) (K:=[1000003]) DG DG rfl rfl (qf qc rfl De) rfl ?_;refine G9 ?_;refine Xy ?_;refine Gx ?_;refine qd rfl rfl rfl (qp qc rfl rfl rfl rfl rfl rfl rfl rfl rfl rfl rfl rfl rfl rfl rfl rfl (by rw[ll];show _+1<=_;unfold reachBytes;omega) (by rw[ll];show(_+1)*208<=_;omega) ?_);refine qi (i:=8) (K:=[1000000]) DG DG rfl rfl (qf qc rfl De) rfl ?_;refine Rz ?_;refine K6 ?_;refine XH ?_;refine SW.wk (qj [0,3] [(1000000,1000000),(1000001,1000001),(1000002,1000002),(1000004,1000004),(19,19)] rfl rfl) ?_;refine ?fk2_25;rotate_left;refine uR ?_;refine uK HC ?_;refine Ko ?_;exact⟨Or.inl rfl,_,_,[(1000000,1000000),(1000001,1000001),(1000002,1000002),(19,0),(1000004,1000004)],Wk.refl _,rfl,rfl,rfl,rfl⟩
end
section
open Go.RowKit Go.Shelf
def laysSIdx_ren:Go.Shelf.Ren:=⟨fun|219=>207|217=>232|225=>255|224=>256|267=>257|266=>275|314=>288|n=>n,fun|9=>9|3=>3|4=>4|5=>5|46=>210|146=>377|51=>274|n=>n,fun|1=>0|n=>n⟩
theorem laysSIdx:Go.Proofs.Lays.n219 prog laysSIdx_ren:={
 mixed:=by kernel_rfl
 f217:=func232.trans (congrArg some DG)
 f219:=func207.trans (congrArg some DG)
 f224:=func256.trans (congrArg some DG)
 f225:=func255.trans (congrArg some DG)
 f266:=func275.trans (congrArg some DG)
 f267:=func257.trans (congrArg some DG)
 f314:=func288.trans (congrArg some DG)
 t3:=underlying3
 a3:=isAgg3
 z3:=sizeOf3
 v3:=zeroValue3
 t4:=underlying4
 a4:=isAgg4
 z4:=sizeOf4
 v4:=zeroValue4
 t5:=underlying5
 a5:=isAgg5
 z5:=sizeOf5
 v5:=zeroValue5
 t9:=underlying9
 a9:=isAgg9
 z9:=sizeOf9
 v9:=zeroValue9
 t46:=underlying210
 a46:=isAgg210
 z46:=sizeOf210
 v46:=zeroValue210
 t51:=underlying274
 a51:=isAgg274
 z51:=sizeOf274
 v51:=zeroValue274
 t146:=underlying377
 a146:=isAgg377
 z146:=sizeOf377
 v146:=zeroValue377
 g1:=by kernel_rfl
}
theorem slIndex_h (s:DT) (c:UInt8):Holds prog 207 [.v (.string s),.v (.string ⟨#[c]⟩)] (.p (.v (.int .i64 (Lib.indexByte s.data.toList c)))) []:=
 .of_callsG func207 DG rfl (fun w vs hg hl hr=>by
  have hv:∃u v,vs=[u,v]:=by
   match vs,hl with
   |[u,v],_=>exact⟨u,v,rfl⟩
  obtain⟨u,v,rfl⟩:=hv;have h1:=jn (hr 0 _ u rfl rfl) rfl;have h2:=jn (hr 1 _ v rfl rfl) rfl;subst h1 h2;exact(Any.stringslite_Index_one laysSIdx s c w).mono fun e w' ⟨h1,h2⟩=>⟨h1,h2▸Below.refl _ _⟩) rfl fun w=>.p (.v rfl)
end
section
def decA (n:Nat) (l:Bs):Nat:=l.foldl (fun n c=>10*n+(c.toNat-48)) n
theorem decA_ge:∀(l:Bs) (n:Nat),n<=decA n l
 |[],_=>Yk _
 |c::l,n=>by
  have h:=decA_ge l (10*n+(c.toNat-48));show n<=decA (10*n+(c.toNat-48)) l;omega
theorem isDigB_iff {c:UInt8}:za c=true↔48<=c.toNat/\c.toNat<=57:=by simp[za]
theorem parse_dig:∀(l:Bs) (n:Nat),(∀c∈l,za c=true)->n<18446744073709551616->Lib.parseUint10 n l=if decA n l<18446744073709551616 then .ok (decA n l)else .range
 |[],n,_,hn=>by
  show Lib.NumEnd.ok n=if n<18446744073709551616 then .ok n else .range
  rw[Yi hn]
 |c::l,n,hl,hn=>by
  have hc:=isDigB_iff.1 (hl c DQ);have hg:=decA_ge l (10*n+(c.toNat-48));have e:decA n (c::l)=decA (10*n+(c.toNat-48)) l:=rfl;have e2:n*10+(c.toNat-48)=10*n+(c.toNat-48):=by omega
  rw[Lib.parseUint10,Yi hc,e2,e];by_cases h1:1844674407370955162<=n
  · rw[Yi h1,Yc DP]
  · rw[Yc h1];by_cases h2:18446744073709551616<=10*n+(c.toNat-48)
    · rw[Yi h2,Yc DP]
    · rw[Yc h2];exact parse_dig l _ (fun c hc=>hl c (Y3 _ hc)) DP
theorem parseMag_dig {l:Bs} (h0:l≠[]) (hl:∀c∈l,za c=true):Lib.parseMag l=if decV l<18446744073709551616 then .ok (decV l)else .range:=by
 unfold Lib.parseMag;rw[Yc h0];exact parse_dig l 0 hl DP
theorem atoi_dig {l:Bs} (h0:l≠[]) (hl:∀c∈l,za c=true):Lib.atoiAll l=if decV l<9223372036854775808 then .ok (decV l:Int)else .range:=by
 obtain⟨c,r,rfl⟩:=List.exists_cons_of_ne_nil h0;have hc:=isDigB_iff.1 (hl c DQ);rw[Lib.atoiAll_plain c r DP DP,parseMag_dig h0 hl];generalize decV (c::r)=d;by_cases h2:d<18446744073709551616
 · rw[Yi h2];unfold Lib.signless;simp only;split<;>split<;>first|rfl|omega
 · rw[Yc h2,Yc DP];rfl
theorem atoi_neg {l:Bs} (h0:l≠[]) (hl:∀c∈l,za c=true):Lib.atoiAll (45::l)=if decV l<=9223372036854775808 then .ok (-(decV l:Int))else .range:=by
 rw[Lib.atoiAll_minus,parseMag_dig h0 hl];generalize decV l=d;by_cases h2:d<18446744073709551616
 · rw[Yi h2];unfold Lib.signed;simp only;split<;>split<;>first|rfl|omega
 · rw[Yc h2,Yc DP];rfl
def numR (neg:Bool) (l:Bs):Int×Nat:=match magL l with
 |none=>(0,0)
 |some (m,k)=>if neg then(if m<=9223372036854775808 then(-(m:Int),k)else(0,0))else if m<9223372036854775808 then((m:Int),k)else(0,0)
theorem ext_l (l:Bs) (a b:Nat):(⟨⟨l⟩⟩:DT).extract a b=⟨⟨(l.drop a).take (b-a)⟩⟩:=by
 have h:((⟨⟨l⟩⟩:DT).extract a b).data.toList=(l.drop a).take (b-a):=by
  rw[ByteArray.data_extract,Array.toList_extract,List.extract_eq_take_drop]
 rw[<-h]
theorem app_l (a b:Bs):(⟨⟨a⟩⟩:DT)++⟨⟨b⟩⟩=⟨⟨a++b⟩⟩:=by
 have h:((⟨⟨a⟩⟩:DT)++⟨⟨b⟩⟩).data.toList=a++b:=by
  rw[ByteArray.data_append];simp
 rw[<-h]
theorem all_self {p:UInt8->Bool}:∀l:Bs,(∀c∈l,p c=true)->l.takeWhile p=l
 |[],_=>rfl
 |c::l,h=>by rw[List.takeWhile_cons,Yi (h c DQ),all_self l fun c hc=>h c (Y3 _ hc)]
theorem takeWhile_at {p:UInt8->Bool} {l:Bs} {k:Nat} (hk:k<=l.length) (h:∀c∈l.take k,p c=true) (he:∀h:k<l.length,p l[k]=false):(l.takeWhile p).length=k:=by
 have e:l=l.take k++l.drop k:=(Xq k l).symm;rw[e,List.takeWhile_append];have e1:(l.take k).takeWhile p=l.take k:=all_self _ h;rw[e1,Yi rfl];have e2:(l.drop k).takeWhile p=[]:=by
  by_cases hl:k<l.length
  · rw[Xf hl,List.takeWhile_cons,he hl];rfl
  · rw[List.drop_of_length_le DP];rfl
 rw[e2,Y9,Yd];omega
end
section
open Go.RowKit
theorem cutW_ix:∀l:Bs,(Lib.indexByte l 32=-1/\cutW l=(l,[])/\l.contains 32=false)\/∃k:Nat,k<l.length/\Lib.indexByte l 32=k/\cutW l=(l.take k,l.drop (k+1))/\l.contains 32=true
 |[]=>.inl ⟨rfl,rfl,rfl⟩
 |c::r=>by
  rw[Lib.indexByte,cutW];by_cases hc:c=32
  · subst hc;exact .inr ⟨0,by simp,rfl,rfl,by simp⟩
  · have e:(c==32)=false:=by simpa using hc
    rw[e,Yc hc];rcases cutW_ix r with⟨h1,h2,h3⟩|⟨k,hk,h1,h2,h3⟩
    · rw[h1,h2];refine .inl ⟨rfl,rfl,?_⟩;simp only[List.contains_cons,h3,Bool.or_false,beq_eq_false_iff_ne];exact fun h=>hc h.symm
    · rw[h1,h2];refine .inr ⟨k+1,by simp;omega,?_,rfl,by simp only[List.contains_cons,h3,Bool.or_true]⟩;have:((k:Int)==-1)=false:=by rw[beq_eq_false_iff_ne];omega
      simp only[YC,if_false,this];omega
theorem jt (l:Bs):(cutW l).1.length<=l.length/\(cutW l).2.length<=l.length:=by
 rcases cutW_ix l with⟨_,h2,_⟩|⟨k,hk,_,h2,_⟩
 · rw[h2];exact⟨Yk _,Yl _⟩
 · rw[h2];simp only[Yd,Yo];omega
theorem extW_l (l:Bs) (a b:Nat):(⟨⟨l⟩⟩:DT).extract a b=⟨⟨(l.drop a).take (b-a)⟩⟩:=by
 have h:((⟨⟨l⟩⟩:DT).extract a b).data=(⟨⟨(l.drop a).take (b-a)⟩⟩:DT).data:=by
  rw[ByteArray.data_extract];simp[List.extract_eq_take_drop]
 cases hx:(⟨⟨l⟩⟩:DT).extract a b with
 |mk d=>rw[hx]at h;exact congrArg ByteArray.mk h
theorem extW_to (l:Bs) (b:Nat):(⟨⟨l⟩⟩:DT).extract 0 b=⟨⟨l.take b⟩⟩:=by rw[extW_l];rfl
theorem extW_from (l:Bs) (a b:Nat) (h:l.length<=b):(⟨⟨l⟩⟩:DT).extract a b=⟨⟨l.drop a⟩⟩:=by
 rw[extW_l,YN Ds]
theorem slCut_h (l:Bs) (hl:l.length<=1000000):Holds prog 151 [pL l,pS ⟨#[32]⟩] (.tup [.p (pL (cutW l).1),.p (pL (cutW l).2),.p (pB (l.contains 32))]) []:=by
 have HI:=slIndex_h ⟨⟨l⟩⟩ 32;rcases cutW_ix l with⟨h1,h2,h3⟩|⟨k,hk,h1,h2,h3⟩
 · have e:Lib.indexByte (⟨⟨l⟩⟩:DT).data.toList 32=-1:=h1;rw[e]at HI;rw[h2,h3];refine qo (ts:=[4,5,6]) func151 DG rfl rfl rfl ?_;refine Kq ?_;refine uK HI ?_;refine Ku ?_;refine uC (fun hc=>?_) (fun hc=>?_)
   · cases hc
   refine KA ?_;exact Vf
 · have e:Lib.indexByte (⟨⟨l⟩⟩:DT).data.toList 32=k:=h1;have ls:(⟨⟨l⟩⟩:DT).size=l.length:=rfl;have ew:IntKind.i64.wrap ((k:Int)+((1:Nat):Int))=k+1:=YD _ DP;rw[e]at HI;rw[h2,h3];refine qo (ts:=[4,5,6]) func151 DG rfl rfl rfl ?_;refine Kq ?_;refine uK HI ?_;refine Ku ?_;refine uC (fun hc=>?_) (fun hc=>?_)
   · refine uD [] [1,3,5,7,9,11,13,15,17,19,21,23] ?_;refine qJ qc rfl rfl rfl Dx rfl ?_;refine uT ?_;refine qJ qc rfl rfl rfl (by rw[ls,show(⟨#[32]⟩:DT).size=1 from rfl,ew];omega) rfl ?_;refine KG ?_;rw[show(⟨#[32]⟩:DT).size=1 from rfl,ew,ls,Int.toNat_natCast,show((k:Int)+1).toNat=k+1 by omega,show Int.toNat 0=0 from rfl,extW_to,Int.toNat_natCast,extW_from l (k+1) l.length (Yk _)];refine uQ ?_;exact Vf
   · cases hc
theorem strCut_h (l:Bs) (hl:l.length<=1000000):Holds prog 91 [pL l,pS ⟨#[32]⟩] (.tup [.p (pL (cutW l).1),.p (pL (cutW l).2),.p (pB (l.contains 32))]) []:=by
 have H:=slCut_h l hl;refine qo (ts:=[4,5,6]) func91 DG rfl rfl rfl ?_;refine LC ?_;exact Lo
theorem word_h (l:Bs) (hl:l.length<=1000000):Holds prog 42 [pL l] (.tup [.p (pL (cutW l).1),.p (pL (cutW l).2)]) []:=by
 have H:=strCut_h l hl;refine qo (ts:=[2,3]) func42 DG rfl rfl rfl ?_;refine LC ?_;refine Ko ?_;exact KI
theorem HoldsE.of_callsX {P:Program} {f:FuncId} {fn:Func} {args:List PV} {R:SV→Prop} (hf:P.funcs[f]?=some fn) (hname:(fn.name== "runtime.NumGoroutine")=false) (hb:fn.body.isNone=false)
 (h:∀(w:World) (vs:List Value),(∀g,ETab.contains g=true->∃ev ty m,w.heap[g]?=some (.cells #[ev] ty m)/\errV ev=true)->vs.length=args.length->(∀(i:Nat) (s:PV) (u:Value),args[i]?=some s->vs[i]?=some u->RelP (fun _=>True) w s u)->
  Calls P f vs.toArray w fun e w'=>∃r,R r/\flatS r=true/\e=.returned (valS r)/\Below w.heap.size w w'/\RelS (fun _=>True) (fun _=>none) w' r (valS r)):HoldsE P f args R:=by
 refine⟨⟨fn,hf,hname,hb⟩,fun w Sx vs hSx hl hrel=>?_⟩;refine(h w vs (fun g hg=>(hSx.2.2 g hg).2.2) hl fun i s u a b=>(hrel i s u a b).weak fun _ _ _=>trivial).mono fun e w' ⟨r,h1,h2,h3,h4,h5⟩=>⟨r,_,h1,h2,h3,h4,h5⟩
theorem atoi_range (s:DT) (hs:s.size<=1000000) (h:Lib.atoiAll s.data.toList=.range) (hE:ETab.contains (laysAtoi_ren.g 16)=true):HoldsE prog 93 [.v (.string s)] fun r=>∃u,errV u=true/\u≠.nilIface/\r=.tup [.p (pI (Lib.atoiSat s.data.toList)),.p (.v u)]:=
 .of_callsX func93 DG rfl (fun w vs hg hl hr=>by
  have hv:∃u,vs=[u]:=by
   match vs,hl with
   |[u],_=>exact⟨u,rfl⟩
  obtain⟨u,rfl⟩:=hv;have h1:=jn (hr 0 _ u rfl rfl) rfl;subst h1;obtain⟨ev,ty,m,h2,h3⟩:=hg _ hE;have hev:ev=.nilIface\/∃te pe,ev=.iface te pe:=by
   cases ev with
   |nilIface=>exact .inl rfl
   |iface t v=>exact .inr ⟨t,v,rfl⟩
   |_=>cases h3
  refine(Any.strconv_Atoi_range laysAtoi s DP h ev w (by unfold World.cell?;rw[h2];rfl) hev).mono fun e w' ⟨N,h1,h2,h3,h4⟩=>?_
  exact⟨_,⟨_,rfl,(fun e=>by cases e),rfl⟩,rfl,h1,h4,.tup (us:=[.int .i64 (Lib.atoiSat s.data.toList),.iface (laysAtoi_ren.t 168) (.pointer (some ⟨N,0,none⟩))]) rfl fun i s u hs hu=>by
   match i,hs,hu with
   |0,hs,hu=>cases hs;cases hu;exact .p (.v rfl)
   |1,hs,hu=>cases hs;cases hu;exact .p (.v rfl)⟩)
section
variable {P:Program} {T:TT} (hT:zm P T) {st:St}
include hT
theorem act_ifcmp {o:Oper} {t t':TypeId} {x:Operand} (ho:o.op=.binOp .neq t x (.const .nilIface) t') {ti:TyI} (ht:lk t T=some ti) (hte:ti.d=.ifc) {u:Value} (hx:evS st x=some (.p (.v u))) (hu:errV u=true)
 (hd:jW st o.dst=true) {Q:St->Prop} (h:∀b:Bool,(b=true↔u≠.nilIface)->Q (st.put o.dst (.p (.v (.bool b))))):ActOk P [] o st Q:=by
 intro w0 Sx γ a w QQ hI;have hun:=(hT t ti ht).und;rw[hte]at hun;simp only[jV]at hun;obtain⟨m,hun⟩:=hun;have hv:=(qK hI hx).v_inv;have hyv:a.eval (.const .nilIface)=.nilIface:=rfl;have hrun:∃b:Bool,(b=true↔u≠.nilIface)/\(execOp a.eval o).run P w=.ok (.value (.bool b)) w:=by
  cases u with
  |nilIface=>
   refine⟨false,by simp,?_⟩;refine LH ?_;have h1:(eqGuard .neq t x (.const .nilIface) .nilIface .nilIface).run P w=.ok () w:=by simp[eqGuard]
   rw[YG,h1];simp only[Ys];have hq:∀d,(Op.equalIn (d+1) t .nilIface .nilIface).run P w=.ok true w:=fun d=>by simp[Op.equalIn,run_underlying hun]
   simp[binOp,Op.equal,Op.maxDepth,hq 9999]
  |iface ty v=>
   refine⟨true,by simp,?_⟩;refine LH ?_;have h1:(eqGuard .neq t x (.const .nilIface) (.iface ty v) .nilIface).run P w=.ok () w:=by simp[eqGuard]
   rw[YG,h1];simp only[Ys];have hq:∀d,(Op.equalIn (d+1) t (.iface ty v) .nilIface).run P w=.ok false w:=fun d=>by simp[Op.equalIn,run_underlying hun]
   simp[binOp,Op.equal,Op.maxDepth,hq 9999]
  |_=>cases hu
 obtain⟨b,hb,hrun⟩:=hrun;unfold Oper.wp;rw[hrun,Oper.upon_value];exact⟨γ,_,h b hb,hI.put hd (.p (.v rfl)),⟨Yk _,fun _ _ _=>rfl⟩,fun K _ b _ hb=>by rw[qaE];exact hb⟩
end
theorem isDigit_h (c:UInt8):Holds prog 167 [pU c] (.p (pB (za c))) []:=by
 refine qo (ts:=[2]) func167 DG rfl rfl rfl ?_;refine Kq ?_;by_cases h1:48<=c.toNat
 · rw[show decide ((c.toNat:Int)>=48)=true by simp;omega];refine Ks ?_;refine VI ?_;unfold za;by_cases h2:c.toNat<=57<;>simp[h1,h2]<;>omega
 · rw[show decide ((c.toNat:Int)>=48)=false by simp;omega];refine Ks ?_;refine VI ?_;simp[za,h1]
theorem isWord_h (c:UInt8):Holds prog 229 [pU c] (.p (pB (ja c))) []:=by
 have H:=isDigit_h c;have e:∀b:Bool,za c=b->jE c=false->ja c=(b||decide (c.toNat=95)):=fun b hb hl=>by simp[ja,hb,hl]
 have hd:∀n:Nat,jE c=false->Holds prog 167 [pU c] (.p (pB (za c))) []:=fun _ _=>H
 have h95:decide ((c.toNat:Int)=95)=decide (c.toNat=95):=by
  by_cases h:c.toNat=95
  · simp[h]
  · rw[YB h,YB DP]
 refine qo (ts:=[2]) func229 DG rfl rfl rfl ?_;refine Kq ?_;by_cases h1:97<=c.toNat
 · refine M7 ?_;refine uS ?_;by_cases h2:c.toNat<=122
   · rw[show decide ((c.toNat:Int)<=122)=true by simp;omega];refine Ks ?_;exact zf rfl (by simp[ja,jE,h1,h2])
   · rw[show decide ((c.toNat:Int)<=122)=false by simp;omega];have hl:jE c=false:=by simp[jE,h2]
     refine uS ?_;refine uK H ?_;cases hg:za c
     · refine Ks ?_;refine VI ?_;rw[e false hg hl,<-h95];rfl
     · refine Ks ?_;exact zf rfl (by rw[e true hg hl];rfl)
 · refine M6 ?_;have hl:jE c=false:=by simp[jE,h1]
   refine uS ?_;refine uK H ?_;cases hg:za c
   · refine Ks ?_;refine VI ?_;rw[e false hg hl,<-h95];rfl
   · refine Ks ?_;exact zf rfl (by rw[e true hg hl];rfl)
theorem run_h (l:Bs) (hn:l.length<=1000000) (f:FuncId) (p:UInt8->Bool) (hF:∀c,Holds prog f ([pU c]++[]) (.p (pB (p c))) []):Holds prog 228 [pL l,.fn f []] (.p (pI (l.takeWhile p).length)) []:=by
 have ls:(⟨⟨l⟩⟩:DT).size=l.length:=rfl;refine qo (ts:=[4]) func228 DG rfl rfl rfl ?_;refine KH ?_;refine uZ [0,1,5] [] ?_;refine qG (fun m s=>∃(k:Nat) (kk:Int),k<=l.length/\m=l.length-k/\kk=k/\(∀c∈l.take k,p c=true)/\s=⟨20,[(0,.p (pL l)),(1,.p (.fn f [])),(5,.p (pI kk))],[]⟩) l.length ⟨0,0,Yl _,rfl,rfl,by simp,rfl⟩ ?_;rintro m s ⟨k,_,hk,rfl,rfl,ha,rfl⟩;refine uR ?_;rw[ls];by_cases hlt:k<l.length
 · rw[show decide ((k:Int)<(l.length:Int))=true by simp;omega];have H:=hF l[k];refine LP ?_;rw[jJ hlt];refine uS ?_;refine uK H ?_;refine qe ?_;cases hp:p l[k]with
   |false=>
    refine uC (fun hc=>?_) (fun hc=>?_)
    · cases hc
    · refine K3 ?_;exact qZ rfl (by rw[takeWhile_at hk ha fun _=>hp])
   |true=>
    refine uC (fun hc=>?_) (fun hc=>?_)
    · refine qh ?_;refine Kz ?_;refine⟨_,_,?_,qj [0,1,5] [] rfl rfl,k+1,_,hlt,rfl,qq hlt DP,?_,rfl⟩
      · omega
      · intro c hc;rw[Ym hlt,YL,YA]at hc;rcases hc with hc|rfl
        · exact ha c hc
        · exact hp
    · cases hc
 · rw[show decide ((k:Int)<(l.length:Int))=false by simp;omega];refine Ko ?_;refine uC (fun hc=>?_) (fun hc=>?_)
   · cases hc
   · refine K3 ?_;exact qZ rfl (by rw[takeWhile_at hk ha fun h=>absurd h hlt])
theorem take_tw (p:UInt8->Bool):∀l:Bs,l.take (l.takeWhile p).length=l.takeWhile p
 |[]=>rfl
 |c::l=>by
  rw[List.takeWhile_cons];split
  · rw[Yg,Y4,take_tw p l]
  · rfl
theorem okC_word {b:Bool} {x:UInt8} (h:okC b x.toNat=true):ja x=true:=by
 unfold okC at h;unfold ja jE za;cases b<;>simp only[Xm,Yp,Yf,beq_iff_eq,Bool.not_true,Bool.not_false,YC,false_and,or_false,true_and]at h⊢<;>omega
theorem word_okC {x:UInt8} (h:ja x=true):okC false x.toNat=true:=by
 unfold ja jE za at h;unfold okC;simp only[Xm,Yp,Yf,beq_iff_eq,Bool.not_false,true_and]at h⊢;omega
theorem let_okC {x:UInt8}:okC true x.toNat=jE x:=by
 unfold okC jE;simp
theorem nameS_l:∀l:Bs,qad ⟨⟨l⟩⟩=nameL l
 |[]=>by
  have e:decide (0<(⟨⟨[]⟩⟩:DT).size)=false:=rfl;unfold qad nameL;rw[e];simp
 |c::r=>by
  rw[YO];unfold qad nameL;simp only[Yp,Yf];have ls:(⟨⟨c::r⟩⟩:DT).size=r.length+1:=rfl;have get:∀(i:Nat) (h:i<(⟨⟨c::r⟩⟩:DT).size),(⟨⟨c::r⟩⟩:DT)[i]=(c::r)[i]'h:=fun i h=>rfl
  constructor
  · rintro⟨⟨h,_⟩,h3⟩;refine⟨⟨?_,?_⟩,h3⟩
    · have:=h 0 Dx;rw[get]at this;rw[<-let_okC];exact this
    · rw[YE];intro x hx;obtain⟨i,hi,rfl⟩:=List.getElem_of_mem hx;have:=h i hi;rw[get]at this;exact okC_word this
  · rintro⟨⟨h1,h2⟩,h3⟩;refine⟨⟨fun i hi=>?_,by rw[ls];omega⟩,h3⟩;rw[get];cases i with
    |zero=>rw[<-let_okC]at h1;exact h1
    |succ i=>exact word_okC (YE.1 h2 _ (Yn _))
def ji (l:Bs):Bs:=if nameL (wP l)then wP l else []
theorem name_l (l:Bs) (hn:l.length<=1000000):Holds prog 166 [pL l] (.p (pL (ji l))) []:=by
 have ls:(⟨⟨l⟩⟩:DT).size=l.length:=rfl;have HR:=run_h l hn 229 ja fun c=>isWord_h c
 have hw:=jm ja l;have HN:=name_h ⟨⟨wP l⟩⟩ (by show(wP l).length<=reachBytes;unfold reachBytes wP;omega);rw[nameS_l]at HN;refine qo (ts:=[2]) func166 DG rfl rfl rfl ?_;refine Kq ?_;refine uK HR ?_;refine XS ?_;rw[ext_l,show((l.drop (Int.toNat 0)).take ((Int.toNat ((l.takeWhile ja).length:Int))-(Int.toNat 0)))=wP l from take_tw ja l];refine Kt ?_;refine uK HN ?_;cases hq:nameL (wP l)with
 |false=>
  refine Ko ?_;refine uC (fun hc=>?_) (fun hc=>?_)
  · refine Kp ?_;exact fin_s rfl (by unfold ji;rw[hq];rfl)
  · cases hc
 |true=>
  refine Ko ?_;refine uC (fun hc=>?_) (fun hc=>?_)
  · cases hc
  · refine KA ?_;exact fin_s rfl (by unfold ji;rw[hq];rfl)
theorem digit_h (c:UInt8):Holds prog 274 [pU c] (.p (pI (match hexB c with|some n=>(n:Int)|none=>-1))) []:=by
 have H:=isDigit_h c;have hc:=UInt8.toNat_lt c;refine qo (ts:=[2]) func274 DG rfl rfl rfl ?_;refine uA ?_;refine Kx ?_;refine uK H ?_;cases hd:za c with
 |true=>
  have h1:=isDigB_iff.1 hd;have e:hexB c=some (c.toNat-48):=by unfold hexB;rw[Yi hd]
  refine Ko ?_;refine uC (fun hq=>?_) (fun hq=>?_)
  · refine uR ?_;rw[u8_in (n:=(c.toNat:Int)-48) DP];refine uS ?_;rw[show IntKind.i64.wrap ((c.toNat:Int)-48)=(c.toNat:Int)-48 from YD _ DP];refine Ks ?_;exact qZ rfl (by rw[e];simp only;omega)
  · cases hq
 |false=>
  refine Ko ?_;refine uC (fun hq=>?_) (fun hq=>?_)
  · cases hq
  · refine uR ?_;by_cases h1:97<=c.toNat
    · refine M7 ?_;refine uS ?_;by_cases h2:c.toNat<=102
      · rw[show decide ((c.toNat:Int)<=102)=true by simp;omega];have e:hexB c=some (c.toNat-87):=by unfold hexB;rw[Yc DB,Yi ⟨h1,h2⟩]
        refine Ko ?_;refine uC (fun h9=>?_) (fun h9=>?_)
        · refine uR ?_;rw[u8_in (n:=(c.toNat:Int)-97) DP];refine uS ?_;rw[show IntKind.i64.wrap ((c.toNat:Int)-97)=(c.toNat:Int)-97 from YD _ DP];refine uS ?_;rw[show IntKind.i64.wrap ((c.toNat:Int)-97+10)=(c.toNat:Int)-97+10 from YD _ DP];refine Ks ?_;exact qZ rfl (by rw[e];simp only;omega)
        · cases h9
      · rw[show decide ((c.toNat:Int)<=102)=false by simp;omega];have e:hexB c=none:=by unfold hexB;rw[Yc DB,Yc DP]
        refine Ko ?_;refine uC (fun h9=>?_) (fun h9=>?_)
        · cases h9
        · refine KA ?_;exact qZ rfl (by rw[e])
    · refine M6 ?_;have e:hexB c=none:=by unfold hexB;rw[Yc DB,Yc DP]
      refine Ko ?_;refine uC (fun h9=>?_) (fun h9=>?_)
      · cases h9
      · refine KA ?_;exact qZ rfl (by rw[e])
theorem plain_h (c:UInt8):Holds prog 230 [pU c] (.p (pB (jH c))) []:=by
 have hb:∀n:Nat,((c.toNat:Int)==(n:Int))=decide (c.toNat=n):=fun n=>by
  rw[YO];simp;omega
 refine qo (ts:=[2]) func230 DG rfl rfl rfl ?_;refine Kq ?_;by_cases h1:32<=c.toNat
 · rw[show decide ((c.toNat:Int)>=32)=true by simp;omega];refine uS ?_;by_cases h2:c.toNat<=126
   · rw[show decide ((c.toNat:Int)<=126)=true by simp;omega];refine uS ?_;by_cases h3:c.toNat=34
     · rw[show((c.toNat:Int)!=34)=false by simp;omega];refine Ks ?_;exact zf rfl (by simp[jH,h3])
     · rw[show((c.toNat:Int)!=34)=true by simp;omega];refine uS ?_;by_cases h4:c.toNat=92
       · rw[show((c.toNat:Int)!=92)=false by simp;omega];refine Ks ?_;exact zf rfl (by simp[jH,h4])
       · rw[show((c.toNat:Int)!=92)=true by simp;omega];refine Ks ?_;exact zf rfl (by simp[jH,h1,h2,h3,h4])
   · rw[show decide ((c.toNat:Int)<=126)=false by simp;omega];refine Ks ?_;exact zf rfl (by simp[jH,h2])
 · rw[show decide ((c.toNat:Int)>=32)=false by simp;omega];refine Ks ?_;exact zf rfl (by simp[jH,h1])
def oddR:Bs->UInt8×Bool
 |c::h::l::_=>if c.toNat=92 then(match hexB h,hexB l with
  |some a,some b=>(UInt8.ofNat (16*a+b),!jH (UInt8.ofNat (16*a+b)))
  |_,_=>(0,false))else(0,false)
 |_=>(0,false)
theorem hexB_lt {c:UInt8} {n:Nat} (h:hexB c=some n):n<16:=by
 unfold hexB at h;split at h
 · rename_i hd;have:=isDigB_iff.1 hd;cases h;omega
 · split at h
   · cases h;omega
   · cases h
theorem odd_h (l:Bs) (hn:l.length<=1000000):Holds prog 231 [pL l] (.tup [.p (pU (oddR l).1),.p (pB (oddR l).2)]) []:=by
 by_cases hl:l.length<3
 · have eR:oddR l=(0,false):=by
    match l,hl with
    |[],_=>rfl
    |[_],_=>rfl
    |[_,_],_=>rfl
    |_::_::_::_,hl=>simp at hl;omega
   have ls:(⟨⟨l⟩⟩:DT).size=l.length:=rfl;refine qo (ts:=[2,3]) func231 DG rfl rfl rfl ?_;refine Kq ?_;rw[ls,show decide ((l.length:Int)<3)=true by simp;omega];refine Ko ?_;refine uC (fun hc=>?_) (fun hc=>?_)
   · refine Kp ?_;exact Ke
   · cases hc
 · obtain⟨c,h,x,r,rfl⟩:∃c h x r,l=c::h::x::r:=by
    match l,hl with
    |[],hl=>simp at hl
    |[_],hl=>simp at hl
    |[_,_],hl=>simp at hl
    |c::h::x::r,_=>exact⟨c,h,x,r,rfl⟩
   have ls:(⟨⟨c::h::x::r⟩⟩:DT).size=r.length+3:=rfl;have b0:byteAt ⟨⟨c::h::x::r⟩⟩ (Int.toNat 0)=(c.toNat:Int):=rfl;have b1:byteAt ⟨⟨c::h::x::r⟩⟩ (Int.toNat 1)=(h.toNat:Int):=rfl;have b2:byteAt ⟨⟨c::h::x::r⟩⟩ (Int.toNat 2)=(x.toNat:Int):=rfl
   have eO:oddR (c::h::x::r)=if c.toNat=92 then(match hexB h,hexB x with
    |some a,some b=>(UInt8.ofNat (16*a+b),!jH (UInt8.ofNat (16*a+b)))
    |_,_=>(0,false))else(0,false):=rfl
   have Hh:=digit_h h;have Hx:=digit_h x;refine qo (ts:=[2,3]) func231 DG rfl rfl rfl ?_;refine Kq ?_;rw[ls,show decide (((r.length+3:Nat):Int)<3)=false by simp;omega];refine LP ?_;rw[b0];refine uS ?_;by_cases h92:c.toNat=92;rotate_left
   · have eR:oddR (c::h::x::r)=(0,false):=by rw[eO,Yc h92]
     rw[show((c.toNat:Int)!=92)=true by simp;omega];refine Ko ?_;refine uC (fun hc=>?_) (fun hc=>?_)
     · refine Kp ?_;exact Ke
     · cases hc
   rw[show((c.toNat:Int)!=92)=false by simp;omega];refine LP ?_;rw[b1];refine uS ?_;cases hh:hexB h with
   |none=>
    have eR:oddR (c::h::x::r)=(0,false):=by rw[eO,Yi h92];simp only[hh]
    rw[hh]at Hh;refine uK Hh ?_;refine Ko ?_;refine uC (fun hc=>?_) (fun hc=>?_)
    · refine Kp ?_;exact Ke
    · cases hc
   |some a=>
    rw[hh]at Hh;have ha:=hexB_lt hh;refine uK Hh ?_;rw[show decide ((a:Int)<0)=false by simp];refine LP ?_;rw[b2];refine uS ?_;cases hx:hexB x with
    |none=>
     have eR:oddR (c::h::x::r)=(0,false):=by rw[eO,Yi h92];simp only[hh,hx]
     rw[hx]at Hx;refine uK Hx ?_;refine Ko ?_;refine uC (fun hc=>?_) (fun hc=>?_)
     · refine Kp ?_;exact Ke
     · cases hc
    |some b=>
     rw[hx]at Hx;have hb:=hexB_lt hx;have eR:oddR (c::h::x::r)=(UInt8.ofNat (16*a+b),!jH (UInt8.ofNat (16*a+b))):=by rw[eO,Yi h92];simp only[hh,hx]
     obtain⟨q,hq⟩:∃q,q=UInt8.ofNat (16*a+b):=⟨_,rfl⟩;rw[<-hq]at eR;have hqn:q.toNat=16*a+b:=by rw[hq,UInt8.toNat_ofNat'];omega
     have HP:=plain_h q;refine uK Hx ?_;rw[show decide ((b:Int)<0)=false by simp];refine Ko ?_;refine uC (fun hc=>?_) (fun hc=>?_)
     · cases hc
     refine qh ?_;refine uD [] [1,3,9,11,4,7,12,15,17,19] ?_;refine qJ qc rfl rfl rfl Dx rfl ?_;rw[b1];refine uT ?_;refine qJ qc rfl rfl rfl Dx rfl ?_;rw[b2];refine uT ?_;refine uk Hh ?_;refine uT ?_;refine uk Hx ?_;refine uT ?_;rw[show IntKind.u8.wrap (IntKind.i64.wrap (IntKind.i64.wrap (16*(a:Int))+(b:Int)))=(q.toNat:Int)by
      rw[show IntKind.i64.wrap (16*(a:Int))=16*(a:Int)from YD _ DP,show IntKind.i64.wrap (16*(a:Int)+(b:Int))=16*(a:Int)+(b:Int)from YD _ DP,u8_in DP,hqn];omega]
     refine qT ?_;refine uR ?_;refine uK HP ?_;refine Ks ?_;exact Km
theorem bytesOf_map:∀b:Bs,bytesOf (b.map fun c=>[pU c])=some b
 |[]=>rfl
 |c::b=>by
  have h:byteOf [pU c]=some c:=by
   show some (UInt8.ofNat (c.toNat:Int).toNat)=some c;rw[Int.toNat_natCast,UInt8.ofNat_toNat]
  rw[Y2,bytesOf,h,bytesOf_map b]
section
variable {P:Program} {T:TT} (hT:zm P T) {st:St}
include hT
theorem act_text {o:Oper} {sT dT e:TypeId} {x:Operand} {j z:Nat} {e0:TypeId} {b:Bs} {s1 s2 d1 d2 e1 e2:Nat} {s3 d3 e3:List Value} {s4 d4 e4:Bool} (ho:o.op=.convert sT dT x) (hx:evS st x=some (.row j)) (hj:lk j st.own=some (.row e0 z (b.map fun c=>[pU c])))
 (hs:lk sT T=some ⟨s1,s2,.sl e,s3,s4⟩) (hd:lk dT T=some ⟨d1,d2,.str,d3,d4⟩) (he:lk e T=some ⟨e1,e2,.int .u8,e3,e4⟩) (hdst:jW st o.dst=true) {Q:St->Prop} (h:Q (st.put o.dst (.p (pL b)))):ActOk P [] o st Q:=by
 have hE:eConv T [] st sT dT (evS st x) some=some (.p (pL b)):=by
  rw[hx];unfold eConv eText;simp only[lkF_eq,hj,hs,hd,he,bytesOf_map,fList_eq];rfl
 obtain⟨s,h1,h2⟩:=eConv_ok hT ho hE;cases h2;exact ql h1 hdst h
end
def textR (l:Bs):Bs×Nat:=match wX (l.drop 1)with
 |some (t,k)=>if t.length<=64 then(t,k+1)else([],0)
 |none=>([],0)
theorem odd_yes {c:UInt8} {r:Bs} {q:UInt8} (h:oddR (c::r)=(q,true)) (h34:c.toNat≠34) (hp:jH c=false):wX (c::r)=(wX (r.drop 2)).map (fun p=>(q::p.1,p.2+3))/\2<=r.length:=by
 rw[qah,Yc h34,Yc (by rw[hp];simp)]
 match r,h with
 |[],h=>cases h
 |[_],h=>cases h
 |a::b::r,h=>
  unfold oddR at h;simp only at h;split at h
  · rename_i h92;rw[Yi h92];refine⟨?_,by simp⟩;unfold oddT;simp only;split at h
    · rename_i x y hx hy;rw[hx,hy];simp only[Yt]at h;obtain⟨rfl,h2⟩:=h;simp only[List.drop_succ_cons,List.drop_zero];rw[Yc Dl]
    · cases h
  · cases h
theorem odd_no {c:UInt8} {r:Bs} (h:(oddR (c::r)).2=false) (h34:c.toNat≠34) (hp:jH c=false):wX (c::r)=none:=by
 rw[qah,Yc h34,Yc (by rw[hp];simp)];split
 · rename_i h92
   match r,h with
   |[],h=>rfl
   |[_],h=>rfl
   |a::b::r,h=>
    unfold oddR at h;simp only[Yi h92]at h;unfold oddT;simp only;split at h
    · rename_i x y hx hy;rw[hx,hy];simp only;rw[Yi DA]
    · rename_i hn;split
      · rename_i x y hx hy;exact absurd hy (hn x y hx)
      · rfl
 · rfl
def Tok.pv (t:Tok):List PV:=[pI t.kind,pI (t.at_:Int),pI t.n,pL t.s]
theorem map_omap {α:Type} (f g:α->α) (x:Option α):(x.map f).map g=x.map fun p=>g (f p):=by cases x<;>rfl
theorem text_l (l:Bs) (hn:l.length<=100000):Holds prog 169 [pL l] (.tup [.p (pL (textR l).1),.p (pI (textR l).2)]) []:=by
 have ls:(⟨⟨l⟩⟩:DT).size=l.length:=rfl;refine qo (ts:=[2,3]) func169 DG rfl rfl rfl ?_;refine Lr ?_;refine SW.wk (zw 4 900 5 1 rfl rfl) ?_;refine uZ [0,4,5] [(900,0)] ?_;refine qG (fun m s=>∃(k:Nat) (kk:Int) (o:Bs),1<=k/\m=l.length+3-k/\k<=l.length+1/\kk=k/\o.length<=k/\wX (l.drop 1)=(wX (l.drop k)).map (fun p=>(o++p.1,p.2+(k-1)))/\s=⟨50,[(0,.p (pL l)),(4,.row 0),(5,.p (pI kk))],[(0,.row 5 1 (o.map fun c=>[pU c]))]⟩) (l.length+2) ⟨1,1,[],Yk _,rfl,by omega,rfl,Yl _,by cases wX (l.drop 1)<;>simp,rfl⟩ ?_;rintro m s ⟨k,_,o,hk1,rfl,hk,rfl,ho,hT,rfl⟩;refine uR ?_;rw[ls];by_cases hlt:k<l.length
 · rw[show decide ((k:Int)<(l.length:Int))=true by simp;omega];refine qe ?_;refine uC (fun hc=>?_) (fun hc=>?_);rotate_left
   · cases hc
   refine qh ?_;obtain⟨c,hcc⟩:∃c,c=l[k]:=⟨_,rfl⟩;have hdr:l.drop k=c::l.drop (k+1):=by rw[hcc];exact Xf hlt
   have HP:=plain_h c;refine Kx ?_;refine XS ?_;rw[jJ hlt,<-hcc];refine uS ?_;by_cases h34:c.toNat=34
   · rw[show((c.toNat:Int)==34)=true by simp;omega];have eT:wX (l.drop 1)=some (o,k):=by
      rw[hT,hdr,qah,Yi h34];simp;omega
     have eR:textR l=if o.length<=64 then(o,k+1)else([],0):=by unfold textR;rw[eT]
     refine qe ?_;refine uC (fun hq=>?_) (fun hq=>?_);rotate_left
     · cases hq
     refine uR ?_;rw[show((o.map fun c=>[pU c]).length:Int)=(o.length:Int)by simp];by_cases h64:o.length<=64
     · rw[show decide ((o.length:Int)>64)=false by simp;omega];rw[Yi h64]at eR;refine qe ?_;refine uC (fun hz=>?_) (fun hz=>?_)
       · cases hz
       refine Kv ?_;refine qy rfl (act_text qc rfl rfl rfl rfl rfl rfl rfl ?_);refine uS ?_;rw[qq hlt DP];refine KD ?_;exact Km
     · rw[show decide ((o.length:Int)>64)=true by simp;omega];rw[Yc h64]at eR;refine qe ?_;refine uC (fun hz=>?_) (fun hz=>?_)
       · refine Kp ?_;exact Gk
       · cases hz
   · rw[show((c.toNat:Int)==34)=false by simp;omega];refine qe ?_;refine uC (fun hq=>?_) (fun hq=>?_)
     · cases hq
     refine Kv ?_;refine XS ?_;rw[jJ hlt,<-hcc];refine uS ?_;refine uK HP ?_;cases hp:jH c with
     |true=>
      refine qe ?_;refine uC (fun hz=>?_) (fun hz=>?_);rotate_left
      · cases hz
      refine uR ?_;refine XS ?_;rw[jJ hlt,<-hcc];refine Lj ?_;refine Ku ?_;refine qC ?_;refine⟨_,_,?_,qj [0,4,5] [(32,0)] rfl rfl,k+1,_,o++[c],by omega,rfl,by omega,qq hlt DP,by simp;omega,?_,?_⟩
      · omega
      · rw[hT,hdr,qah,Yc h34,Yi hp,map_omap];congr 1;funext p;simp;omega
      · rw[Yr];rfl
     |false=>
      refine qe ?_;refine uC (fun hz=>?_) (fun hz=>?_)
      · cases hz
      refine qh ?_;have HO:=odd_h (l.drop k) DE;refine uR ?_;refine XS ?_;rw[ext_l,show(l.drop (Int.toNat (k:Int))).take (Int.toNat ((⟨⟨l⟩⟩:DT).size:Int)-Int.toNat (k:Int))=l.drop k from YN (by simp[ls])];refine uS ?_;refine uK HO ?_;cases hod:oddR (l.drop k)with
      |mk q b=>
       rw[hdr]at hod;cases b with
       |false=>
        refine Ku ?_;have eR:textR l=([],0):=by
         unfold textR;rw[hT,hdr,odd_no (by rw[hod]) h34 hp];rfl
        refine uC (fun hy=>?_) (fun hy=>?_)
        · refine Kp ?_;exact Gk
        · cases hy
       |true=>
        obtain⟨hT2,h2⟩:=odd_yes hod h34 hp;have hk3:k+3<=l.length:=by simp at h2;omega
        refine Ku ?_;refine uC (fun hy=>?_) (fun hy=>?_)
        · cases hy
        refine Kv ?_;refine XA ?_;refine Ku ?_;rw[show IntKind.i64.wrap ((k:Int)+3)=((k+3:Nat):Int)from YD _ DP];refine⟨_,_,?_,qj [0,4,5] [(47,0)] rfl rfl,k+3,_,o++[q],by omega,rfl,by omega,rfl,by simp;omega,?_,?_⟩
        · omega
        · rw[hT,hdr,hT2,map_omap,List.drop_drop];congr 1;funext p;simp;omega
        · rw[Yr];rfl
 · rw[show decide ((k:Int)<(l.length:Int))=false by simp;omega];have eR:textR l=([],0):=by
    unfold textR;rw[hT,List.drop_of_length_le DP];rfl
   refine qe ?_;refine uC (fun hc=>?_) (fun hc=>?_)
   · cases hc
   · refine K3 ?_;exact Gk
theorem tw_all {p:UInt8->Bool}:∀(l:Bs),∀c∈l.takeWhile p,p c=true
 |[],c,h=>by cases h
 |x::l,c,h=>by
  rw[List.takeWhile_cons]at h;split at h
  · rcases Y0.1 h with rfl|h
    · assumption
    · exact tw_all l c h
  · cases h
def sgn (neg:Bool):Bs:=bif neg then [45]else []
theorem number_l (neg:Bool) (l:Bs) (hn:l.length<=100000):Holds prog 168 [pL (sgn neg),pL l] (.tup [.p (pI (numR neg l).1),.p (pI (numR neg l).2)]) []:=by
 have ls:(⟨⟨l⟩⟩:DT).size=l.length:=rfl;have HR:=run_h l DP 167 za fun c=>isDigit_h c
 have hw:=jm za l;have htk:=take_tw za l;have hall:∀c∈l.takeWhile za,za c=true:=tw_all l;have hM:magL l=if(l.takeWhile za).length=0\/(1<(l.takeWhile za).length/\(l.head?.map (·.toNat))=some 48)then none else some (decV (l.takeWhile za),(l.takeWhile za).length):=rfl
 generalize l.takeWhile za=d at*;refine qo (ts:=[4,5]) func168 DG rfl rfl rfl ?_;refine Kq ?_;refine uK HR ?_;refine Kt ?_;by_cases h0:d.length=0
 · have eR:numR neg l=(0,0):=by unfold numR;rw[hM,Yi (.inl h0)]
   rw[show((d.length:Int)==0)=true by rw[beq_iff_eq];omega];refine Ko ?_;refine uC (fun hc=>?_) (fun hc=>?_)
   · refine Kp ?_;exact Gk
   · cases hc
 rw[show((d.length:Int)==0)=false by rw[beq_eq_false_iff_ne];omega];refine uS ?_;obtain⟨c,r,hcr⟩:∃c r,l=c::r:=by
  cases l with
  |nil=>
   rw[List.length_nil]at hw;omega
  |cons c r=>exact⟨c,r,rfl⟩
 have b0:byteAt ⟨⟨l⟩⟩ (Int.toNat 0)=(c.toNat:Int):=by subst hcr;rfl
 have hh:(l.head?.map (·.toNat))=some c.toNat:=by rw[hcr];rfl
 rw[hh]at hM;by_cases hb:1<d.length/\c.toNat=48
 · have eR:numR neg l=(0,0):=by unfold numR;rw[hM,Yi (.inr ⟨hb.1,by rw[hb.2]⟩)]
   rw[show decide ((d.length:Int)>1)=true by simp;omega];refine LP ?_;rw[b0];refine uS ?_;rw[show((c.toNat:Int)==48)=true by simp;omega];refine Ko ?_;refine uC (fun hc=>?_) (fun hc=>?_)
   · refine Kp ?_;exact Gk
   · cases hc
 have hM2:magL l=some (decV d,d.length):=by
  rw[hM,Yc];rintro(h|⟨h1,h2⟩)
  · exact h0 h
  · exact hb ⟨h1,by simpa using h2⟩
 have hne:d≠[]:=fun e=>h0 (by rw[e];rfl)
 have hsl:(sgn neg).length<=1:=by cases neg<;>simp[sgn]
 have hsz:(⟨⟨sgn neg++d⟩⟩:DT).size<=9223372036854775806:=by show(sgn neg++d).length<=_;rw[Ya];omega
 have hcat:(((⟨⟨sgn neg⟩⟩:DT).size+(⟨⟨d⟩⟩:DT).size:Nat):Int)<=IntKind.i64.max:=by
  have h1:(IntKind.i64.max:Int)=9223372036854775807:=rfl;have h2:(⟨⟨sgn neg⟩⟩:DT).size=(sgn neg).length:=rfl;have h3:(⟨⟨d⟩⟩:DT).size=d.length:=rfl;rw[h1,h2,h3];omega
 have hA:(∃v:Int,Lib.atoiAll (sgn neg++d)=.ok v/\numR neg l=(v,d.length))\/(Lib.atoiAll (sgn neg++d)=.range/\numR neg l=(0,0)):=by
  unfold numR;rw[hM2];cases neg with
  |true=>
   show(∃v:Int,Lib.atoiAll (45::d)=.ok v/\_)\/(Lib.atoiAll (45::d)=.range/\_);rw[atoi_neg hne hall];by_cases h:decV d<=9223372036854775808
   · exact .inl ⟨-(decV d:Int),by rw[Yi h],by simp only[if_true,Yi h]⟩
   · exact .inr ⟨by rw[Yc h],by simp only[if_true,Yc h]⟩
  |false=>
   show(∃v:Int,Lib.atoiAll d=.ok v/\_)\/(Lib.atoiAll d=.range/\_);rw[atoi_dig hne hall];by_cases h:decV d<9223372036854775808
   · exact .inl ⟨(decV d:Int),by rw[Yi h],by simp[h]⟩
   · exact .inr ⟨by rw[Yc h],by simp[h]⟩
 by_cases h1:1<d.length
 · have h48:c.toNat≠48:=fun e=>hb ⟨h1,e⟩
   rw[show decide ((d.length:Int)>1)=true by simp;omega];refine LP ?_;rw[b0];refine uS ?_;rw[show((c.toNat:Int)==48)=false by simp;omega];refine Ko ?_;refine uC (fun hc=>?_) (fun hc=>?_)
   · cases hc
   refine Kv ?_;refine XS ?_;rw[ext_l,show(l.drop (Int.toNat 0)).take (Int.toNat (d.length:Int)-Int.toNat 0)=d from htk];refine uS ?_;refine qm qc rfl rfl (hcat) rfl ?_;rw[app_l];refine uS ?_;rcases hA with⟨v,hv,eR⟩|⟨hv,eR⟩
   · refine uK (atoi_h ⟨⟨sgn neg++d⟩⟩ hsz v hv) ?_;refine Kt ?_;refine qy rfl (act_ifcmp qc rfl rfl rfl rfl rfl rfl (fun b hb=>?_));have hbf:b=false:=by
      cases b with
      |false=>rfl
      |true=>exact absurd rfl (hb.1 rfl)
     subst hbf;refine qe ?_;refine uC (fun hz=>?_) (fun hz=>?_)
     · cases hz
     refine KA ?_;exact Km
   · refine Gi ?_;rintro _ ⟨u,hu,hun,rfl⟩;refine Kt ?_;refine qy rfl (act_ifcmp qc rfl rfl rfl rfl hu rfl (fun b hb=>?_));have hbf:b=true:=hb.2 hun;subst hbf;refine qe ?_;refine uC (fun hz=>?_) (fun hz=>?_)
     · refine Kp ?_;exact Gk
     · cases hz
 · rw[show decide ((d.length:Int)>1)=false by simp;omega];refine Ko ?_;refine uC (fun hc=>?_) (fun hc=>?_)
   · cases hc
   refine Kv ?_;refine XS ?_;rw[ext_l,show(l.drop (Int.toNat 0)).take (Int.toNat (d.length:Int)-Int.toNat 0)=d from htk];refine uS ?_;refine qm qc rfl rfl (hcat) rfl ?_;rw[app_l];refine uS ?_;rcases hA with⟨v,hv,eR⟩|⟨hv,eR⟩
   · refine uK (atoi_h ⟨⟨sgn neg++d⟩⟩ hsz v hv) ?_;refine Kt ?_;refine qy rfl (act_ifcmp qc rfl rfl rfl rfl rfl rfl (fun b hb=>?_));have hbf:b=false:=by
      cases b with
      |false=>rfl
      |true=>exact absurd rfl (hb.1 rfl)
     subst hbf;refine qe ?_;refine uC (fun hz=>?_) (fun hz=>?_)
     · cases hz
     refine KA ?_;exact Km
   · refine Gi ?_;rintro _ ⟨u,hu,hun,rfl⟩;refine Kt ?_;refine qy rfl (act_ifcmp qc rfl rfl rfl rfl hu rfl (fun b hb=>?_));have hbf:b=true:=hb.2 hun;subst hbf;refine qe ?_;refine uC (fun hz=>?_) (fun hz=>?_)
     · refine Kp ?_;exact Gk
     · cases hz
end
section
theorem digU {n:Nat} (h:n<10):(UInt8.ofNat (48+n)).toNat=48+n:=by
 rw[UInt8.toNat_ofNat'];omega
theorem decV_snoc (l:Bs) (c:UInt8):decV (l++[c])=10*decV l+(c.toNat-48):=by
 unfold decV;rw[List.foldl_append];rfl
theorem decF_ok:∀(f u:Nat),u<10^f->0<f->(decF f u).all za=true/\decV (decF f u)=u/\1<=(decF f u).length/\(1<(decF f u).length->((decF f u).head?.map (·.toNat))≠some 48)/\(u≠0->((decF f u).head?.map (·.toNat))≠some 48)
 |f+1,u,h,_=>by
  rw[decF];by_cases hu:u<10
  · rw[show Nat.blt u 10=true by simpa [Nat.blt,YJ]using hu,cond_true];have e:=digU hu;refine⟨?_,?_,by simp,by simp,fun h0=>?_⟩
    · simp[za,e];omega
    · simp only[decV,List.foldl_cons,List.foldl_nil,e];omega
    · simp only[List.head?_cons,Option.map_some,e];intro h1;simp only[Ye]at h1;omega
  · rw[show Nat.blt u 10=false by cases hb:Nat.blt u 10 with|false=>rfl|true=>exact absurd (by simpa [Nat.blt,YJ]using hb) hu,cond_false];have hf:0<f:=by
     rcases Nat.eq_zero_or_pos f with h0|h0
     · subst h0;simp at h;omega
     · exact h0
    obtain⟨h1,h2,h3,h4,h5⟩:=decF_ok f (u/10) (by rw[Nat.pow_succ]at h;omega) hf;have e:=digU (Nat.mod_lt u (show 0<10 by omega));have hhead:(decF f (u/10)++[UInt8.ofNat (48+u%10)]).head?=(decF f (u/10)).head?:=by
     match hd:decF f (u/10),h3 with
     |x::r,_=>rfl
    refine⟨?_,?_,by simp,fun _=>?_,fun _=>?_⟩
    · rw[List.all_append,h1];simp[za,e];omega
    · rw[decV_snoc,h2,e];omega
    · rw[hhead];exact h5 DP
    · rw[hhead];exact h5 DP
theorem oddB_plain (c:UInt8):jH c=!oddB c.toNat:=by
 unfold jH oddB;rw[YO];simp only[Yp,Yf,Xo,Bool.or_eq_false_iff,Yh];omega
def writeT (k n:Int) (s:Bs):Bs:=
 if k=2 then qbd n else if k=3 then 64::qbd n else if k=4 then 35::s else if k=5 then 34::s.flatMap qB++[34]else s
theorem itoaF_neg {m:Nat} (h:m≠0):qbd (-(m:Int))=45::decF 20 m:=by
 obtain⟨u,rfl⟩:∃u,m=u+1:=⟨m-1,by omega⟩;have:-((u+1:Nat):Int)=Int.negSucc u:=by omega
 rw[this];rfl
theorem all_takeWhile {α:Type} (p:α->Bool):∀l:List α,(l.takeWhile p).all p=true
 |[]=>rfl
 |x::l=>by
  rw[List.takeWhile_cons];split
  · rename_i h;rw[List.all_cons,h,all_takeWhile p l];rfl
  · rfl
end
section
open Go.RowKit
structure BegT where
 k:Int
 v:Int
 s:Bs
 n:Nat
def begR:Bs->BegT
 |[]=>⟨0,0,[],0⟩
 |c::r=>
  if jE c then⟨1,0,ji (c::r),(ji (c::r)).length⟩
  else if za c then⟨2,(numR false (c::r)).1,[],(numR false (c::r)).2⟩
  else if c.toNat=45 then⟨2,(numR true r).1,[],if(numR true r).1=0 then 0 else(numR true r).2+1⟩
  else if c.toNat=64 then⟨3,(numR false r).1,[],if(numR false r).2=0\/1099511627776<(numR false r).1 then 0 else(numR false r).2+1⟩
  else if c.toNat=35 then⟨4,0,ji r,if ji r=[]then 0 else(ji r).length+1⟩
  else if c.toNat=34 then⟨5,0,(textR (c::r)).1,(textR (c::r)).2⟩
  else if markB c then⟨6,0,[c],1⟩else⟨0,0,[],0⟩
theorem numR_pos {l:Bs} {m k:Nat} (h:magL l=some (m,k)):1<=k:=(magL_len h).1
theorem beg_tok:∀l:Bs,tokL l=if(begR l).n=0 then none else some ⟨(begR l).k,(begR l).v,(begR l).s,(begR l).n⟩
 |[]=>rfl
 |c::r=>by
  rw[tokL,begR];split
  · rename_i hl;have hw:ja c=true:=by simp[ja,hl]
    have he:wP (c::r)=c::wP r:=by simp[wP,List.takeWhile_cons,hw]
    have ha:(wP (c::r)).all ja=true:=by rw[YE];exact tw_all _
    have hN:nameL (wP (c::r))=decide ((wP (c::r)).length<=16):=by
     unfold nameL;rw[ha,he];simp[hl]
    unfold ji;rw[hN];by_cases h:(wP (c::r)).length<=16
    · rw[Yi h,Yz h,Yi rfl,Yc];rw[he];simp
    · rw[Yc h,YB h];rfl
  · split
    · unfold numR;cases hm:magL (c::r)with
      |none=>rfl
      |some p=>
       obtain⟨m,k⟩:=p;have:=numR_pos hm;simp only[YC,if_false];by_cases h:m<9223372036854775808
       · rw[Yi h,Yi h,Yc (by simp only;omega)]
       · rw[Yc h,Yc h];rfl
    · split
      · unfold numR;cases hm:magL r with
        |none=>rfl
        |some p=>
         obtain⟨m,k⟩:=p;simp only[if_true];by_cases h:m<=9223372036854775808
         · rw[Yi h];by_cases h0:m=0
           · subst h0;rfl
           · rw[Yi ⟨h0,h⟩];simp only;rw[Yc (show¬(-(m:Int)=0)by omega),Yc DP]
         · rw[Yc h,Yc (fun h2=>h h2.2)];rfl
      · split
        · unfold numR;cases hm:magL r with
          |none=>rfl
          |some p=>
           obtain⟨m,k⟩:=p;have:=numR_pos hm;simp only[YC,if_false];by_cases h:m<9223372036854775808
           · rw[Yi h];simp only;by_cases h2:m<=1099511627776
             · rw[Yi h2,Yc (show¬(k=0\/1099511627776<(m:Int))by omega),Yc DP]
             · rw[Yc h2,Yi (show k=0\/1099511627776<(m:Int)by omega)];rfl
           · rw[Yc h,Yc DP];rfl
        · split
          · unfold ji;by_cases h:nameL (wP r)=true
            · rw[Yi h,Yi h];have hne:wP r≠[]:=fun e=>by rw[e]at h;cases h
              simp only;rw[Yc hne,Yc DP]
            · rw[Yc h,Yc h];rfl
          · split
            · unfold textR;simp only[List.drop_succ_cons,List.drop_zero];cases hm:wX r with
              |none=>rfl
              |some p=>
               obtain⟨t,k⟩:=p;simp only;by_cases h:t.length<=64
               · rw[Yi h,Yi h,Yc (by simp only;omega)]
               · rw[Yc h,Yc h];rfl
            · split<;>rfl
theorem idx_mark (c:UInt8):decide (Lib.indexByte [123,125,40,41,46,44,59,61,60,62,33] c>=0)=markB c:=by
 have h:∀n:_root_.Fin 256,decide (Lib.indexByte [123,125,40,41,46,44,59,61,60,62,33] (UInt8.ofFin n)>=0)=markB (UInt8.ofFin n):=by decide
 exact h c.toFin
theorem u8_back (c:UInt8):(c.toNat:Int).toNat.toUInt8=c:=by
 rw[Int.toNat_natCast];exact UInt8.ofNat_toNat
def begP (b:BegT):SV:=.tup [.p (.agg [pI b.k,pI 0,pI b.v,pL b.s]),.p (pI b.n)]
theorem numR_len (b:Bool) (l:Bs):(numR b l).2<=l.length:=by
 unfold numR;cases h:magL l with
 |none=>exact Yl _
 |some p=>
  obtain⟨m,k⟩:=p;have:=(magL_len h).2;simp only
  repeat' split
  all_goals(simp only;omega)
theorem nameR_len (l:Bs):(ji l).length<=l.length:=by
 have:=jm ja l;unfold ji wP;split
 · exact this
 · exact Yl _
theorem begins_l (c:UInt8) (r:Bs) (hn:(c::r).length<=100000):Holds prog 105 [pL (c::r)] (begP (begR (c::r))) []:=by
 have hc:=UInt8.toNat_lt c;have ls:(⟨⟨c::r⟩⟩:DT).size=r.length+1:=rfl;have b0:byteAt ⟨⟨c::r⟩⟩ (Int.toNat 0)=(c.toNat:Int):=rfl;have hr:r.length<=100000:=by simp at hn;omega
 have HD:=isDigit_h c;have hx:(⟨⟨c::r⟩⟩:DT).extract (Int.toNat 1) (Int.toNat (((⟨⟨c::r⟩⟩:DT).size:Nat):Int))=⟨⟨r⟩⟩:=by
  rw[ext_l,ls];congr 2;show(r.take _)=r;exact YN DQ
 have eB:begR (c::r)=if jE c then⟨1,0,ji (c::r),(ji (c::r)).length⟩
  else if za c then⟨2,(numR false (c::r)).1,[],(numR false (c::r)).2⟩
  else if c.toNat=45 then⟨2,(numR true r).1,[],if(numR true r).1=0 then 0 else(numR true r).2+1⟩
  else if c.toNat=64 then⟨3,(numR false r).1,[],if(numR false r).2=0\/1099511627776<(numR false r).1 then 0 else(numR false r).2+1⟩
  else if c.toNat=35 then⟨4,0,ji r,if ji r=[]then 0 else(ji r).length+1⟩
  else if c.toNat=34 then⟨5,0,(textR (c::r)).1,(textR (c::r)).2⟩
  else if markB c then⟨6,0,[c],1⟩else⟨0,0,[],0⟩:=rfl
 refine .ofW ?_;refine qz (T:=TTab) qc func105 DG rfl rfl rfl ?_;refine Kr ?_;refine Kq ?_;refine XS ?_;rw[b0];refine Ko ?_;refine Kx ?_;by_cases h1:97<=c.toNat
 · refine M7 ?_;refine uS ?_;by_cases h2:c.toNat<=122
   · rw[show decide ((c.toNat:Int)<=122)=true by simp;omega];have hl:jE c=true:=by simp[jE,h1,h2]
     have eR:begR (c::r)=⟨1,0,ji (c::r),(ji (c::r)).length⟩:=by rw[eB,Yi hl]
     refine Ko ?_;refine uC (fun h9=>?_) (fun h9=>?_);rotate_left
     · cases h9
     refine uR ?_;refine uK (name_l (c::r) DP) ?_;refine Ku ?_;exact Lm
   · rw[show decide ((c.toNat:Int)<=122)=false by simp;omega];have hl:jE c=false:=by simp[jE,h2]
     refine Ko ?_;refine uC (fun h9=>?_) (fun h9=>?_)
     · cases h9
     refine uR ?_;refine uK HD ?_;refine Ko ?_;cases hd:za c with
     |true=>
      refine uC (fun hq=>?_) (fun hq=>?_);rotate_left
      · cases hq
      have eR:begR (c::r)=⟨2,(numR false (c::r)).1,[],(numR false (c::r)).2⟩:=by rw[eB,Yc DC,Yi hd]
      refine Kq ?_;refine uK (number_l false (c::r) hn) ?_;refine KU ?_;exact Ll
     |false=>
      refine uC (fun hq=>?_) (fun hq=>?_)
      · cases hq
      refine uR ?_;by_cases h45:c.toNat=45
      · rw[show((c.toNat:Int)==45)=true by rw[beq_iff_eq];omega];refine qe ?_;refine uC (fun hz=>?_) (fun hz=>?_);rotate_left
        · cases hz
        have hnl:=numR_len true r;refine Kq ?_;refine XS ?_;rw[hx];refine uS ?_;refine uK (number_l true r hr) ?_;refine Kt ?_;by_cases h0:(numR true r).1=0
        · have eR:begR (c::r)=⟨2,(numR true r).1,[],0⟩:=by rw[eB,Yc DC,Yc DB,Yi h45,Yi h0]
          rw[show((numR true r).1==0)=true by rw[beq_iff_eq];exact h0];refine qe ?_;refine uC (fun hy=>?_) (fun hy=>?_)
          · exact Lm
          · cases hy
        · have eR:begR (c::r)=⟨2,(numR true r).1,[],(numR true r).2+1⟩:=by rw[eB,Yc DC,Yc DB,Yi h45,Yc h0]
          rw[show((numR true r).1==0)=false by rw[beq_eq_false_iff_ne];exact h0];refine qe ?_;refine uC (fun hy=>?_) (fun hy=>?_)
          · cases hy
          refine Kw ?_;refine R5 ?_;exact Lm
      rw[show((c.toNat:Int)==45)=false by rw[beq_eq_false_iff_ne];omega];refine qe ?_;refine uC (fun hz=>?_) (fun hz=>?_)
      · cases hz
      refine uR ?_;by_cases h64:c.toNat=64
      · rw[show((c.toNat:Int)==64)=true by rw[beq_iff_eq];omega];refine qe ?_;refine uC (fun hy=>?_) (fun hy=>?_);rotate_left
        · cases hy
        have hnl:=numR_len false r;refine Kq ?_;refine XS ?_;rw[hx];refine uS ?_;refine uK (number_l false r hr) ?_;refine Kt ?_;by_cases h0:(numR false r).2=0
        · have eR:begR (c::r)=⟨3,(numR false r).1,[],0⟩:=by rw[eB,Yc DC,Yc DB,Yc h45,Yi h64,Yi (.inl h0)]
          rw[show(((numR false r).2:Int)==0)=true by rw[beq_iff_eq];omega];refine Ko ?_;refine uC (fun hx1=>?_) (fun hx1=>?_)
          · exact Lm
          · cases hx1
        · rw[show(((numR false r).2:Int)==0)=false by rw[beq_eq_false_iff_ne];omega];refine uS ?_;by_cases hg:1099511627776<(numR false r).1
          · have eR:begR (c::r)=⟨3,(numR false r).1,[],0⟩:=by rw[eB,Yc DC,Yc DB,Yc h45,Yi h64,Yi (.inr hg)]
            rw[show decide ((numR false r).1>1099511627776)=true by simp;omega];refine Ko ?_;refine uC (fun hx1=>?_) (fun hx1=>?_)
            · exact Lm
            · cases hx1
          · have eR:begR (c::r)=⟨3,(numR false r).1,[],(numR false r).2+1⟩:=by rw[eB,Yc DC,Yc DB,Yc h45,Yi h64,Yc DP]
            rw[show decide ((numR false r).1>1099511627776)=false by simp;omega];refine Ko ?_;refine uC (fun hx1=>?_) (fun hx1=>?_)
            · cases hx1
            refine Kw ?_;refine Ri ?_;exact Lm
      rw[show((c.toNat:Int)==64)=false by rw[beq_eq_false_iff_ne];omega];refine qe ?_;refine uC (fun hy=>?_) (fun hy=>?_)
      · cases hy
      refine uR ?_;by_cases h35:c.toNat=35
      · rw[show((c.toNat:Int)==35)=true by rw[beq_iff_eq];omega];refine qe ?_;refine uC (fun hx1=>?_) (fun hx1=>?_);rotate_left
        · cases hx1
        have hnl:=nameR_len r;refine uR ?_;refine XS ?_;rw[hx];refine uS ?_;refine uK (name_l r DP) ?_;refine Kt ?_;by_cases h0:ji r=[]
        · have eR:begR (c::r)=⟨4,0,ji r,0⟩:=by rw[eB,Yc DC,Yc DB,Yc h45,Yc h64,Yi h35,Yi h0]
          refine Md ?_;refine qe ?_;refine uC (fun hw=>?_) (fun hw=>?_)
          · cases hw
          refine KA ?_;exact Ll
        · have eR:begR (c::r)=⟨4,0,ji r,(ji r).length+1⟩:=by rw[eB,Yc DC,Yc DB,Yc h45,Yc h64,Yi h35,Yc h0]
          rw[show(!((⟨⟨ji r⟩⟩:DT).toList==(⟨#[]⟩:DT).toList))=true by rw[jS];simp;intro e;exact h0 e];refine qe ?_;refine uC (fun hw=>?_) (fun hw=>?_);rotate_left
          · cases hw
          refine uA ?_;refine Uq ?_;exact Lm
      rw[show((c.toNat:Int)==35)=false by rw[beq_eq_false_iff_ne];omega];refine qe ?_;refine uC (fun hx1=>?_) (fun hx1=>?_)
      · cases hx1
      refine uR ?_;by_cases h34:c.toNat=34
      · have eR:begR (c::r)=⟨5,0,(textR (c::r)).1,(textR (c::r)).2⟩:=by rw[eB,Yc DC,Yc DB,Yc h45,Yc h64,Yc h35,Yi h34]
        rw[show((c.toNat:Int)==34)=true by rw[beq_iff_eq];omega];refine qe ?_;refine uC (fun hw=>?_) (fun hw=>?_);rotate_left
        · cases hw
        refine Kq ?_;refine uK (text_l (c::r) hn) ?_;refine KU ?_;exact Ll
      rw[show((c.toNat:Int)==34)=false by rw[beq_eq_false_iff_ne];omega];refine qe ?_;refine uC (fun hw=>?_) (fun hw=>?_)
      · cases hw
      have HI:=indexByte_h ⟨#[123,125,40,41,46,44,59,61,60,62,33]⟩ (c.toNat:Int);rw[u8_back]at HI;refine uR ?_;refine uK HI ?_;rw[idx_mark];cases hm:markB c with
      |true=>
       have eR:begR (c::r)=⟨6,0,[c],1⟩:=by rw[eB,Yc DC,Yc DB,Yc h45,Yc h64,Yc h35,Yc h34,Yi hm]
       refine Ko ?_;refine uC (fun hv=>?_) (fun hv=>?_);rotate_left
       · cases hv
       refine Uv ?_;refine Mo ?_;refine MK ?_;refine Mp ?_;refine qg 3 DG ?_;refine Xy ?_;refine Mq ?_;refine Vo ?_;refine Xy ?_;refine Mr ?_;refine XH ?_;refine SW.wk (qj [2,3,4,5] [(2,2),(4,4)] rfl rfl) ?_;refine ?fk30_390;rotate_left;refine Ra ?_;exact Lm
      |false=>
       have eR:begR (c::r)=⟨0,0,[],0⟩:=by rw[eB,Yc DC,Yc DB,Yc h45,Yc h64,Yc h35,Yc h34,Yc (by rw[hm];simp)]
       refine Ko ?_;refine uC (fun hv=>?_) (fun hv=>?_)
       · cases hv
       refine KA ?_;exact Ll
 · refine M6 ?_;have hl:jE c=false:=by simp[jE,h1]
   refine Ko ?_;refine uC (fun h9=>?_) (fun h9=>?_)
   · cases h9
   refine uR ?_;refine uK HD ?_;refine Ko ?_;cases hd:za c with
   |true=>
    refine uC (fun hq=>?_) (fun hq=>?_);rotate_left
    · cases hq
    have eR:begR (c::r)=⟨2,(numR false (c::r)).1,[],(numR false (c::r)).2⟩:=by rw[eB,Yc DC,Yi hd]
    refine Kq ?_;refine uK (number_l false (c::r) hn) ?_;refine KU ?_;exact Ll
   |false=>
    refine uC (fun hq=>?_) (fun hq=>?_)
    · cases hq
    refine uR ?_;by_cases h45:c.toNat=45
    · rw[show((c.toNat:Int)==45)=true by rw[beq_iff_eq];omega];refine qe ?_;refine uC (fun hz=>?_) (fun hz=>?_);rotate_left
      · cases hz
      have hnl:=numR_len true r;refine Kq ?_;refine XS ?_;rw[hx];refine uS ?_;refine uK (number_l true r hr) ?_;refine Kt ?_;by_cases h0:(numR true r).1=0
      · have eR:begR (c::r)=⟨2,(numR true r).1,[],0⟩:=by rw[eB,Yc DC,Yc DB,Yi h45,Yi h0]
        rw[show((numR true r).1==0)=true by rw[beq_iff_eq];exact h0];refine qe ?_;refine uC (fun hy=>?_) (fun hy=>?_)
        · exact Lm
        · cases hy
      · have eR:begR (c::r)=⟨2,(numR true r).1,[],(numR true r).2+1⟩:=by rw[eB,Yc DC,Yc DB,Yi h45,Yc h0]
        rw[show((numR true r).1==0)=false by rw[beq_eq_false_iff_ne];exact h0];refine qe ?_;refine uC (fun hy=>?_) (fun hy=>?_)
        · cases hy
        refine Kw ?_;refine R5 ?_;exact Lm
    rw[show((c.toNat:Int)==45)=false by rw[beq_eq_false_iff_ne];omega];refine qe ?_;refine uC (fun hz=>?_) (fun hz=>?_)
    · cases hz
    refine uR ?_;by_cases h64:c.toNat=64
    · rw[show((c.toNat:Int)==64)=true by rw[beq_iff_eq];omega];refine qe ?_;refine uC (fun hy=>?_) (fun hy=>?_);rotate_left
      · cases hy
      have hnl:=numR_len false r;refine Kq ?_;refine XS ?_;rw[hx];refine uS ?_;refine uK (number_l false r hr) ?_;refine Kt ?_;by_cases h0:(numR false r).2=0
      · have eR:begR (c::r)=⟨3,(numR false r).1,[],0⟩:=by rw[eB,Yc DC,Yc DB,Yc h45,Yi h64,Yi (.inl h0)]
        rw[show(((numR false r).2:Int)==0)=true by rw[beq_iff_eq];omega];refine Ko ?_;refine uC (fun hx1=>?_) (fun hx1=>?_)
        · exact Lm
        · cases hx1
      · rw[show(((numR false r).2:Int)==0)=false by rw[beq_eq_false_iff_ne];omega];refine uS ?_;by_cases hg:1099511627776<(numR false r).1
        · have eR:begR (c::r)=⟨3,(numR false r).1,[],0⟩:=by rw[eB,Yc DC,Yc DB,Yc h45,Yi h64,Yi (.inr hg)]
          rw[show decide ((numR false r).1>1099511627776)=true by simp;omega];refine Ko ?_;refine uC (fun hx1=>?_) (fun hx1=>?_)
          · exact Lm
          · cases hx1
        · have eR:begR (c::r)=⟨3,(numR false r).1,[],(numR false r).2+1⟩:=by rw[eB,Yc DC,Yc DB,Yc h45,Yi h64,Yc DP]
          rw[show decide ((numR false r).1>1099511627776)=false by simp;omega];refine Ko ?_;refine uC (fun hx1=>?_) (fun hx1=>?_)
          · cases hx1
          refine Kw ?_;refine Ri ?_;exact Lm
    rw[show((c.toNat:Int)==64)=false by rw[beq_eq_false_iff_ne];omega];refine qe ?_;refine uC (fun hy=>?_) (fun hy=>?_)
    · cases hy
    refine uR ?_;by_cases h35:c.toNat=35
    · rw[show((c.toNat:Int)==35)=true by rw[beq_iff_eq];omega];refine qe ?_;refine uC (fun hx1=>?_) (fun hx1=>?_);rotate_left
      · cases hx1
      have hnl:=nameR_len r;refine uR ?_;refine XS ?_;rw[hx];refine uS ?_;refine uK (name_l r DP) ?_;refine Kt ?_;by_cases h0:ji r=[]
      · have eR:begR (c::r)=⟨4,0,ji r,0⟩:=by rw[eB,Yc DC,Yc DB,Yc h45,Yc h64,Yi h35,Yi h0]
        refine Md ?_;refine qe ?_;refine uC (fun hw=>?_) (fun hw=>?_)
        · cases hw
        refine KA ?_;exact Ll
      · have eR:begR (c::r)=⟨4,0,ji r,(ji r).length+1⟩:=by rw[eB,Yc DC,Yc DB,Yc h45,Yc h64,Yi h35,Yc h0]
        rw[show(!((⟨⟨ji r⟩⟩:DT).toList==(⟨#[]⟩:DT).toList))=true by rw[jS];simp;intro e;exact h0 e];refine qe ?_;refine uC (fun hw=>?_) (fun hw=>?_);rotate_left
        · cases hw
        refine uA ?_;refine Uq ?_;exact Lm
    rw[show((c.toNat:Int)==35)=false by rw[beq_eq_false_iff_ne];omega];refine qe ?_;refine uC (fun hx1=>?_) (fun hx1=>?_)
    · cases hx1
    refine uR ?_;by_cases h34:c.toNat=34
    · have eR:begR (c::r)=⟨5,0,(textR (c::r)).1,(textR (c::r)).2⟩:=by rw[eB,Yc DC,Yc DB,Yc h45,Yc h64,Yc h35,Yi h34]
      rw[show((c.toNat:Int)==34)=true by rw[beq_iff_eq];omega];refine qe ?_;refine uC (fun hw=>?_) (fun hw=>?_);rotate_left
      · cases hw
      refine Kq ?_;refine uK (text_l (c::r) hn) ?_;refine KU ?_;exact Ll
    rw[show((c.toNat:Int)==34)=false by rw[beq_eq_false_iff_ne];omega];refine qe ?_;refine uC (fun hw=>?_) (fun hw=>?_)
    · cases hw
    have HI:=indexByte_h ⟨#[123,125,40,41,46,44,59,61,60,62,33]⟩ (c.toNat:Int);rw[u8_back]at HI;refine uR ?_;refine uK HI ?_;rw[idx_mark];cases hm:markB c with
    |true=>
     have eR:begR (c::r)=⟨6,0,[c],1⟩:=by rw[eB,Yc DC,Yc DB,Yc h45,Yc h64,Yc h35,Yc h34,Yi hm]
     refine Ko ?_;refine uC (fun hv=>?_) (fun hv=>?_);rotate_left
     · cases hv
     refine Uv ?_;refine Mo ?_;refine MK ?_;refine Mp ?_;refine qg 3 DG ?_;refine Xy ?_;refine Mq ?_;refine Vo ?_;refine Xy ?_;refine Mr ?_;refine XH ?_;refine SW.wk (qj [2,3,4,5] [(2,2),(4,4)] rfl rfl) ?_;refine ?fk30_626;rotate_left;refine Ra ?_;exact Lm
    |false=>
     have eR:begR (c::r)=⟨0,0,[],0⟩:=by rw[eB,Yc DC,Yc DB,Yc h45,Yc h64,Yc h35,Yc h34,Yc (by rw[hm];simp)]
     refine Ko ?_;refine uC (fun hv=>?_) (fun hv=>?_)
     · cases hv
     refine KA ?_;exact Ll
abbrev toksP (l:List Tok):PV:=.sl 4 (l.map Tok.pv)
def allR:Except Nat (List Tok)->SV
 | .ok _=>.tup [.row 0,.p (pI 0),.p (pI 0)]
 | .error e=>.tup [.p nilV,.p (pI 5),.p (pI e)]
def allO:Except Nat (List Tok)->List (Nat×Box)
 | .ok a=>[(0,.row 141 4 (a.map Tok.pv))]
 | .error _=>[]
def joinE (o:List Tok):Except Nat (List Tok)->Except Nat (List Tok)
 | .ok b=>.ok (o++b)
 | .error e=>.error e
theorem all_long (l:Bs) (hl:4096<l.length) (hn:l.length<=100000):Holds prog 57 [pL l] (.tup [.p nilV,.p (pI 6),.p (pI 4096)]) []:=by
 have ls:(⟨⟨l⟩⟩:DT).size=l.length:=rfl;refine qo (ts:=[2,3,4]) func57 DG rfl rfl rfl ?_;refine uA ?_;(repeat refine qA ?_);refine sw_scope 0 (fun _ _=>False) rfl ?_ (fun _ _ h=>h.elim)
 refine uR ?_;rw[ls,show decide ((l.length:Int)>4096)=true by simp;omega];refine qe ?_;refine uC (fun hc=>?_) (fun hc=>?_)
 · exact KI
 · cases hc
def stA (l:Bs) (k:Int) (n:Int) (o:List Tok) (a b c:Int) (d:Bs):St:=⟨52,[(0,.p (pL l)),(5,.row 0),(6,.ptr 6 0),(7,.p (pI k)),(8,.p (pI n))],[(6,.cells [.p (pI a),.p (pI b),.p (pI c),.p (pL d)]),(0,.row 141 4 (o.map Tok.pv))]⟩
def invA (l:Bs) (k:Nat) (o:List Tok):Prop:=k<=l.length/\o.length<=k/\lexL l=joinE o (lexF (l.length-k+1) k (l.drop k))
theorem all_l (l:Bs) (hl:l.length<=4096):Holds prog 57 [pL l] (allR (lexL l)) (allO (lexL l)):=by
 have ls:(⟨⟨l⟩⟩:DT).size=l.length:=rfl;refine qo (ts:=[2,3,4]) func57 DG rfl rfl rfl ?_;refine uA ?_;(repeat refine qA ?_);refine sw_scope 0 (fun m s=>∃(k:Nat) (o:List Tok) (n a b c:Int) (d:Bs),m=l.length-k/\invA l k o/\s=stA l k n o a b c d) rfl ?_ ?_
 · refine uR ?_;rw[ls,show decide ((l.length:Int)>4096)=false by simp;omega];refine qe ?_;refine uC (fun hc=>?_) (fun hc=>?_)
   · cases hc
   refine qh ?_;refine LN ?_;refine SW.wk (zw 5 900 141 4 rfl rfl) ?_;refine uZ [0,5,6,7,8] [(6,6),(900,0)] ?_;(repeat refine qA ?_);refine sw_label ?_
   change SW _ _ _ (stA l ((0:Nat):Int) 0 [] 0 0 0 []);obtain⟨S,hS⟩:∃S,S=stA l ((0:Nat):Int) 0 [] 0 0 0 []:=⟨_,rfl⟩;rw[<-hS];obtain⟨k,o,n,a,b,c,d,hi,hS2⟩:∃(k:Nat) (o:List Tok) (n a b c:Int) (d:Bs),invA l k o/\S=stA l k n o a b c d:=⟨0,[],0,0,0,0,[],⟨Yl _,Yl _,by unfold lexL;simp only[Nat.sub_zero,List.drop_zero];cases lexF (l.length+1) 0 l<;>rfl⟩,hS⟩;clear hS
   subst hS2;unfold stA;have hE:=hi.2.2;have ho:=hi.2.1;have hk:=hi.1;refine uR ?_;rw[ls];by_cases hend:k=l.length
   · have hfin:lexL l=.ok (o++[⟨7,k,0,[]⟩]):=by
      rw[hE,hend,List.drop_of_length_le (Yk _)];rfl
     rw[show((k:Int)==(l.length:Int))=true by rw[beq_iff_eq];omega];refine qe ?_;refine uC (fun hc=>?_) (fun hc=>?_);rotate_left
     · cases hc
     refine uR ?_;refine XA ?_;refine Ks ?_;refine Uw ?_;exact uF [(20,0)]
   have hlt:k<l.length:=by omega
   rw[show((k:Int)==(l.length:Int))=false by rw[beq_eq_false_iff_ne];omega];refine qe ?_;refine uC (fun hc=>?_) (fun hc=>?_)
   · cases hc
   refine qh ?_;obtain⟨ch,hch⟩:∃ch,ch=l[k]:=⟨_,rfl⟩;have hdr:l.drop k=ch::l.drop (k+1):=by rw[hch];exact Xf hlt
   have hst:lexF (l.length-k+1) k (l.drop k)=if blankB ch then lexF (l.length-k) (k+1) (l.drop (k+1))else match tokL (ch::l.drop (k+1))with
    |none=>.error k
    |some t=>match lexF (l.length-k) (k+t.len) ((ch::l.drop (k+1)).drop t.len)with
     | .ok b=>.ok (t.at_ k::b)
     | .error e=>.error e:=by rw[hdr];rfl
   have hbl:blankB ch=(decide (ch.toNat=32)||decide (ch.toNat=10)):=rfl;refine uR ?_;refine XS ?_;refine Er ?_;cases hb:blankB ch with
   |true=>
    rw[hb,Yi rfl]at hst;have hi2:invA l (k+1) o:=⟨hlt,by omega,by rw[hE,hst,show l.length-k=l.length-(k+1)+1 by omega]⟩;by_cases h32:ch.toNat=32
    · rw[show((ch.toNat:Int)==32)=true by rw[beq_iff_eq];omega];refine Ko ?_;refine uC (fun hq=>?_) (fun hq=>?_);rotate_left
      · cases hq
      refine uA ?_;rw[qq hlt DP];refine Uo ?_
      first
       |exact⟨rfl,_,_,qj [0,5,6,7,8] [(6,6),(0,0)] rfl rfl,k+1,o,n,_,_,_,_,rfl,hi2,rfl⟩
       |exact⟨rfl,_,_,DP,qj [0,5,6,7,8] [(6,6),(0,0)] rfl rfl,k+1,o,n,_,_,_,_,rfl,hi2,rfl⟩
    · have h10:ch.toNat=10:=by rw[hb]at hbl;simp[h32]at hbl;exact hbl
      refine Gu ?_;refine LP ?_;refine Er ?_;rw[show((ch.toNat:Int)==10)=true by rw[beq_iff_eq];omega];refine Ko ?_;refine uC (fun hq=>?_) (fun hq=>?_);rotate_left
      · cases hq
      refine uA ?_;rw[qq hlt DP];refine Uo ?_
      first
       |exact⟨rfl,_,_,qj [0,5,6,7,8] [(6,6),(0,0)] rfl rfl,k+1,o,n,_,_,_,_,rfl,hi2,rfl⟩
       |exact⟨rfl,_,_,DP,qj [0,5,6,7,8] [(6,6),(0,0)] rfl rfl,k+1,o,n,_,_,_,_,rfl,hi2,rfl⟩
   |false=>
    rw[hb,Yc DQ]at hst;rw[hb]at hbl;have hn2:ch.toNat≠32/\ch.toNat≠10:=by
     have:=hbl.symm;simp at this;exact this
    refine Gu ?_;refine LP ?_;refine Er ?_;rw[show((ch.toNat:Int)==10)=false by rw[beq_eq_false_iff_ne];omega];refine Ko ?_;refine uC (fun hq=>?_) (fun hq=>?_)
    · cases hq
    refine qh ?_;have HB:=begins_l ch (l.drop (k+1)) DE;have hBT:=beg_tok (ch::l.drop (k+1));generalize begR (ch::l.drop (k+1))=B at HB hBT;obtain⟨bk,bv,bs,bn⟩:=B;simp only at hBT;refine uR ?_;refine XS ?_;refine UD ?_;refine uS ?_;refine uK HB ?_;refine Kt ?_;by_cases h0:bn=0
    · rw[Yi h0]at hBT;rw[hBT]at hst;have hfin:lexL l=.error k:=by rw[hE,hst];rfl
      rw[show((bn:Int)==0)=true by rw[beq_iff_eq];omega];refine qe ?_;refine uC (fun hz=>?_) (fun hz=>?_)
      · refine Kp ?_;rw[hfin];exact Vf
      · cases hz
    rw[Yc h0]at hBT;have hlen:=qae hBT;simp only[Yg,Yo]at hlen;rw[hBT]at hst;simp only at hst;have hi2:invA l (k+bn) (o++[⟨bk,k,bv,bs⟩]):=by
     refine⟨by omega,by simp;omega,?_⟩;rw[hE,hst,<-hdr,List.drop_drop];refine Rf ?_;cases lexF (l.length-(k+bn)+1) (k+bn) (l.drop (k+bn))with
     |ok b=>show Except.ok (o++(_::b))=Except.ok ((o++[_])++b);rw[YU];rfl
     |error e=>rfl
    rw[show((bn:Int)==0)=false by rw[beq_eq_false_iff_ne];omega];refine qe ?_;refine uC (fun hz=>?_) (fun hz=>?_)
    · cases hz
    refine qh ?_;refine Kq ?_;refine XA ?_;refine Ku ?_;refine LL ?_;have eO:(o++[(⟨bk,k,bv,bs⟩:Tok)]).map Tok.pv=o.map Tok.pv++[[pI bk,pI (k:Int),pI bv,pL bs]]:=by rw[Yr];rfl
    change SW _ _ _ ⟨52,[(0,.p (pL l)),(5,.row 0),(6,.ptr 6 0),(7,.p (pI ((k+bn:Nat):Int))),(8,.p (pI (bn:Int)))],[(6,.cells [.p (pI bk),.p (pI (k:Int)),.p (pI bv),.p (pL bs)]),(0,.row 141 4 (o.map Tok.pv++[[pI bk,pI (k:Int),pI bv,pL bs]]))]⟩;rw[<-eO];refine Uo ?_
    first
     |exact⟨rfl,_,_,qj [0,5,6,7,8] [(6,6),(0,0)] rfl rfl,k+bn,o++[⟨bk,k,bv,bs⟩],(bn:Int),_,_,_,_,rfl,hi2,rfl⟩
     |exact⟨rfl,_,_,DP,qj [0,5,6,7,8] [(6,6),(0,0)] rfl rfl,k+bn,o++[⟨bk,k,bv,bs⟩],(bn:Int),_,_,_,_,rfl,hi2,rfl⟩
 · rintro m s ⟨k,o,n,a,b,c,d,rfl,hi,rfl⟩;unfold stA;refine qA ?_;refine qh ?_;have hE:=hi.2.2;have ho:=hi.2.1;have hk:=hi.1;refine uR ?_;rw[ls];by_cases hend:k=l.length
   · have hfin:lexL l=.ok (o++[⟨7,k,0,[]⟩]):=by
      rw[hE,hend,List.drop_of_length_le (Yk _)];rfl
     rw[show((k:Int)==(l.length:Int))=true by rw[beq_iff_eq];omega];refine qe ?_;refine uC (fun hc=>?_) (fun hc=>?_);rotate_left
     · cases hc
     refine uR ?_;refine XA ?_;refine Ks ?_;refine Uw ?_;exact uF [(20,0)]
   have hlt:k<l.length:=by omega
   rw[show((k:Int)==(l.length:Int))=false by rw[beq_eq_false_iff_ne];omega];refine qe ?_;refine uC (fun hc=>?_) (fun hc=>?_)
   · cases hc
   refine qh ?_;obtain⟨ch,hch⟩:∃ch,ch=l[k]:=⟨_,rfl⟩;have hdr:l.drop k=ch::l.drop (k+1):=by rw[hch];exact Xf hlt
   have hst:lexF (l.length-k+1) k (l.drop k)=if blankB ch then lexF (l.length-k) (k+1) (l.drop (k+1))else match tokL (ch::l.drop (k+1))with
    |none=>.error k
    |some t=>match lexF (l.length-k) (k+t.len) ((ch::l.drop (k+1)).drop t.len)with
     | .ok b=>.ok (t.at_ k::b)
     | .error e=>.error e:=by rw[hdr];rfl
   have hbl:blankB ch=(decide (ch.toNat=32)||decide (ch.toNat=10)):=rfl;refine uR ?_;refine XS ?_;refine Er ?_;cases hb:blankB ch with
   |true=>
    rw[hb,Yi rfl]at hst;have hi2:invA l (k+1) o:=⟨hlt,by omega,by rw[hE,hst,show l.length-k=l.length-(k+1)+1 by omega]⟩;by_cases h32:ch.toNat=32
    · rw[show((ch.toNat:Int)==32)=true by rw[beq_iff_eq];omega];refine Ko ?_;refine uC (fun hq=>?_) (fun hq=>?_);rotate_left
      · cases hq
      refine uA ?_;rw[qq hlt DP];refine Uo ?_
      first
       |exact⟨rfl,_,_,qj [0,5,6,7,8] [(6,6),(0,0)] rfl rfl,k+1,o,n,_,_,_,_,rfl,hi2,rfl⟩
       |exact⟨rfl,_,_,DP,qj [0,5,6,7,8] [(6,6),(0,0)] rfl rfl,k+1,o,n,_,_,_,_,rfl,hi2,rfl⟩
    · have h10:ch.toNat=10:=by rw[hb]at hbl;simp[h32]at hbl;exact hbl
      refine Gu ?_;refine LP ?_;refine Er ?_;rw[show((ch.toNat:Int)==10)=true by rw[beq_iff_eq];omega];refine Ko ?_;refine uC (fun hq=>?_) (fun hq=>?_);rotate_left
      · cases hq
      refine uA ?_;rw[qq hlt DP];refine Uo ?_
      first
       |exact⟨rfl,_,_,qj [0,5,6,7,8] [(6,6),(0,0)] rfl rfl,k+1,o,n,_,_,_,_,rfl,hi2,rfl⟩
       |exact⟨rfl,_,_,DP,qj [0,5,6,7,8] [(6,6),(0,0)] rfl rfl,k+1,o,n,_,_,_,_,rfl,hi2,rfl⟩
   |false=>
    rw[hb,Yc DQ]at hst;rw[hb]at hbl;have hn2:ch.toNat≠32/\ch.toNat≠10:=by
     have:=hbl.symm;simp at this;exact this
    refine Gu ?_;refine LP ?_;refine Er ?_;rw[show((ch.toNat:Int)==10)=false by rw[beq_eq_false_iff_ne];omega];refine Ko ?_;refine uC (fun hq=>?_) (fun hq=>?_)
    · cases hq
    refine qh ?_;have HB:=begins_l ch (l.drop (k+1)) DE;have hBT:=beg_tok (ch::l.drop (k+1));generalize begR (ch::l.drop (k+1))=B at HB hBT;obtain⟨bk,bv,bs,bn⟩:=B;simp only at hBT;refine uR ?_;refine XS ?_;refine UD ?_;refine uS ?_;refine uK HB ?_;refine Kt ?_;by_cases h0:bn=0
    · rw[Yi h0]at hBT;rw[hBT]at hst;have hfin:lexL l=.error k:=by rw[hE,hst];rfl
      rw[show((bn:Int)==0)=true by rw[beq_iff_eq];omega];refine qe ?_;refine uC (fun hz=>?_) (fun hz=>?_)
      · refine Kp ?_;rw[hfin];exact Vf
      · cases hz
    rw[Yc h0]at hBT;have hlen:=qae hBT;simp only[Yg,Yo]at hlen;rw[hBT]at hst;simp only at hst;have hi2:invA l (k+bn) (o++[⟨bk,k,bv,bs⟩]):=by
     refine⟨by omega,by simp;omega,?_⟩;rw[hE,hst,<-hdr,List.drop_drop];refine Rf ?_;cases lexF (l.length-(k+bn)+1) (k+bn) (l.drop (k+bn))with
     |ok b=>show Except.ok (o++(_::b))=Except.ok ((o++[_])++b);rw[YU];rfl
     |error e=>rfl
    rw[show((bn:Int)==0)=false by rw[beq_eq_false_iff_ne];omega];refine qe ?_;refine uC (fun hz=>?_) (fun hz=>?_)
    · cases hz
    refine qh ?_;refine Kq ?_;refine XA ?_;refine Ku ?_;refine LL ?_;have eO:(o++[(⟨bk,k,bv,bs⟩:Tok)]).map Tok.pv=o.map Tok.pv++[[pI bk,pI (k:Int),pI bv,pL bs]]:=by rw[Yr];rfl
    change SW _ _ _ ⟨52,[(0,.p (pL l)),(5,.row 0),(6,.ptr 6 0),(7,.p (pI ((k+bn:Nat):Int))),(8,.p (pI (bn:Int)))],[(6,.cells [.p (pI bk),.p (pI (k:Int)),.p (pI bv),.p (pL bs)]),(0,.row 141 4 (o.map Tok.pv++[[pI bk,pI (k:Int),pI bv,pL bs]]))]⟩;rw[<-eO];refine Uo ?_
    first
     |exact⟨rfl,_,_,qj [0,5,6,7,8] [(6,6),(0,0)] rfl rfl,k+bn,o++[⟨bk,k,bv,bs⟩],(bn:Int),_,_,_,_,rfl,hi2,rfl⟩
     |exact⟨rfl,_,_,DP,qj [0,5,6,7,8] [(6,6),(0,0)] rfl rfl,k+bn,o++[⟨bk,k,bv,bs⟩],(bn:Int),_,_,_,_,rfl,hi2,rfl⟩
end
end Go.Proofs.YtblgnefkgkchhaaGreatDoor
