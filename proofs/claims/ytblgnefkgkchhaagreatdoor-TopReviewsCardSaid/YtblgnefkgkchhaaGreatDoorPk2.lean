/- Part 2. -/
import Derived.Great.BuildSlice
import Derived.Deep.LoopGhost
import Derived.Test.YtblgnefkgkchhaaGreatDoorPk1
set_option linter.unusedSimpArgs false
set_option linter.unusedVariables false
namespace Go.Proofs.YtblgnefkgkchhaaGreatDoor
open Go.RowKit
def upd (γ:Nat->Value) (d:Nat) (g:Value) (i:Nat):Value:=if i=d then g else γ i
theorem RelS.live {ok:Nat->Prop} {H:Nat->Option Value} {w:World} {s:SV} {u:Value} {d:Nat} (hd:H d=none) (h:RelS ok H w s u):s.noRef d=true:=by
 have all:∀{cs:List SV} {us:List Value},us.length=cs.length->(∀(i:Nat) (s:SV) (u:Value),cs[i]?=some s->us[i]?=some u->s.noRef d=true)->noRefs d cs=true:=by
  intro cs
  induction cs with
  |nil=>intro us _ _;rfl
  |cons c cs ih=>
   intro us hl h;cases us with
   |nil=>simp at hl
   |cons u us=>
    simp only[noRefs,Yp];exact⟨h 0 c u rfl rfl,ih Dk fun i s u a b=>h (i+1) s u (by simpa using a) (by simpa using b)⟩
 induction h with
 |p h=>rfl
 |agg hl h ih=>exact all hl ih
 |tup hl h ih=>exact all hl ih
 |fn hl h ih=>exact all hl ih
 |junk=>rfl
 |@row i u h=>
  have:i≠d:=fun e=>by subst e;rw[hd]at h;cases h
  simp[SV.noRef,beq_no this]
 |@ptr i off b g h hb=>
  have:i≠d:=fun e=>by subst e;rw[hd]at h;cases h
  simp[SV.noRef,beq_no this]
 |@eptr i z idx off b g h hb=>
  have:i≠d:=fun e=>by subst e;rw[hd]at h;cases h
  simp[SV.noRef,beq_no this]
 |@view i z lo hi n c A A' h=>
  have:i≠d:=fun e=>by subst e;rw[hd]at h;cases h
  simp[SV.noRef,beq_no this]
theorem RelS.keep2 {ok ok':Nat->Prop} {H H':Nat->Option Value} {w w':World} (hsz:w.heap.size<=w'.heap.size) (hk:∀b,b<w.heap.size->ok b->w'.heap[b]?=w.heap[b]?/\ok' b) {s:SV} {u:Value}
 (h:RelS ok H w s u) (hH:∀i,s.noRef i=false->H' i=H i):RelS ok' H' w' s u:=by
 have h1:RelS (fun b=>ok b/\b<w.heap.size) H w s u:=by
  have all:∀{x:PV} {u:Value},RelP ok w x u->RelP (fun b=>ok b/\b<w.heap.size) w x u:=fun h=>h.weak fun b hb hok=>⟨hok,hb⟩
  clear hH hk
  induction h with
  |p h=>exact .p (all h)
  |agg hl h ih=>exact .agg hl ih
  |tup hl h ih=>exact .tup hl ih
  |fn hl h ih=>exact .fn hl ih
  |junk=>exact .junk
  |row h=>exact .row h
  |ptr h hb=>exact .ptr h hb
  |eptr h hb=>exact .eptr h hb
  |view h h1 h2 h3 h4=>exact .view h h1 h2 h3 h4
 exact h1.keep ⟨hsz,fun b hb hok=>(hk b hb hok.1).1⟩ (fun b _ hok=>(hk b hok.2 hok.1).2) hH
theorem RelP.keep2 {ok ok':Nat->Prop} {w w':World} (hsz:w.heap.size<=w'.heap.size) (hk:∀b,b<w.heap.size->ok b->w'.heap[b]?=w.heap[b]?/\ok' b) {s:PV} {u:Value} (h:RelP ok w s u):RelP ok' w' s u:=
 ((h.weak (ok':=fun b=>ok b/\b<w.heap.size) fun b hb hok=>⟨hok,hb⟩).keep ⟨hsz,fun b hb hok=>(hk b hb hok.1).1⟩).weak fun b _ hok=>(hk b hok.2 hok.1).2
section
variable {B:Base} {Sx:Nat->Prop} {γ:Nat->Value} {own:List (Nat×Box)} {w w':World}
theorem RowO.keep2 {R:RF (List PV)} (hR:Good R) {size:Nat} {ok ok':Nat->Prop} {base:Nat} {e:TypeId} {v:Value} {l:List (List PV)} (h:RowO R size ok w base e v l) (hsz:w.heap.size<=w'.heap.size)
 (hv:∀b,v.ownBlock=some b->w'.heap[b]?=w.heap[b]?) (hk:∀b,b<w.heap.size->ok b->some b≠v.ownBlock->w'.heap[b]?=w.heap[b]?/\ok' b):RowO R size ok' w' base e v l:=by
 obtain⟨css,h1,h2,h3⟩:=h;refine⟨css,⟨h1.1,?_⟩,h2,fun i a b=>?_⟩
 · rcases h1.2 with h|⟨g,cap,cur,hv',hb,hg,r⟩
   · exact Or.inl h
   · refine Or.inr ⟨g,cap,cur,hv',hb,?_,r⟩;rw[hv g (by rw[hv'];rfl)];exact hg
 · have h4:=hR.weak _ (fun b=>okR ok v b/\b<w.heap.size) _ _ _ (fun b hb hok=>⟨hok,hb⟩) (h3 i a b);have h5:=hR.keep _ w w' _ _ ⟨hsz,fun b hb hok=>(hk b hb hok.1.1 hok.1.2).1⟩ h4;exact hR.weak _ _ _ _ _ (fun b _ hok=>⟨(hk b hok.2 hok.1.1 hok.1.2).2,hok.1.2⟩) h5
inductive Box.Rel (F:SV->SV->Prop):Box->Box->Prop
 |row {e:TypeId} {z:Nat} {l:List (List PV)}:Box.Rel F (.row e z l) (.row e z l)
 |mp {es:List (Value×PV)}:Box.Rel F (.mp es) (.mp es)
 |cells {cs cs':List SV} (hl:cs'.length=cs.length) (h:∀(j:Nat) (s':SV),cs'[j]?=some s'->∃s,cs[j]?=some s/\F s s'):Box.Rel F (.cells cs) (.cells cs')
 |rws {e:TypeId} {z:Nat} {pre post:List (List PV)} {mid mid':List SV} (hp:∀x:PV,F (.p x) (.p x)) (hl:mid'.length=mid.length) (h:∀(j:Nat) (s':SV),mid'[j]?=some s'->∃s,mid[j]?=some s/\F s s'):Box.Rel F (.rws e z pre mid post) (.rws e z pre mid' post)
theorem rowF_p {l:List (List PV)} {j:Nat} {s:SV} (h:(rowF l)[j]?=some s):∃x,s=.p x:=by
 obtain⟨y,_,hy⟩:=List.mem_flatMap.1 (YI h);obtain⟨x,_,rfl⟩:=Y1.1 hy;exact⟨x,rfl⟩
theorem rwC_rel {F:SV->SV->Prop} {pre post:List (List PV)} {mid mid':List SV} (hp:∀x:PV,F (.p x) (.p x)) (hl:mid'.length=mid.length) (h:∀(j:Nat) (s':SV),mid'[j]?=some s'->∃s,mid[j]?=some s/\F s s') (j:Nat) (s':SV) (hs:(rwC pre mid' post)[j]?=some s'):∃s,(rwC pre mid post)[j]?=some s/\F s s':=by
 unfold rwC at hs⊢;by_cases h1:j<(rowF pre).length
 · rw[Yw h1]at hs⊢;obtain⟨x,rfl⟩:=rowF_p hs;exact⟨_,hs,hp x⟩
 · rw[Yy DP]at hs⊢;by_cases h2:j-(rowF pre).length<mid.length
   · rw[Yw DP]at hs⊢;exact h _ s' hs
   · rw[Yy DP]at hs⊢;rw[hl]at hs;obtain⟨x,rfl⟩:=rowF_p hs;exact⟨_,hs,hp x⟩
def Box.mapS (f:SV->SV):Box->Box
 | .row e z l=>.row e z l
 | .mp es=>.mp es
 | .cells cs=>.cells (cs.map f)
 | .rws e z pre mid post=>.rws e z pre (mid.map f) post
theorem Box.rel_map (f:SV->SV) (hf:∀x,f (.p x)=.p x) (bx:Box):Box.Rel (fun s s'=>s'=f s) bx (bx.mapS f):=by
 have key:∀(cs:List SV) (j:Nat) (s':SV),(cs.map f)[j]?=some s'->∃s,cs[j]?=some s/\s'=f s:=fun cs j s' h=>by
  rw[YH]at h;obtain⟨s0,h0,rfl⟩:=YP.1 h;exact⟨s0,h0,rfl⟩
 cases bx with
 |row=>exact .row
 |mp=>exact .mp
 |cells cs=>exact .cells DQ (key cs)
 |rws e z pre mid post=>exact .rws (fun x=>(hf x).symm) DQ (key mid)
theorem Box.rel_refl (bx:Box):Box.Rel (fun s s'=>s'=s) bx bx:=by
 cases bx with
 |row=>exact .row
 |mp=>exact .mp
 |cells cs=>exact .cells rfl fun j s h=>⟨s,h,rfl⟩
 |rws e z pre mid post=>exact .rws (fun x=>rfl) rfl fun j s h=>⟨s,h,rfl⟩
theorem BoxOk.keep {W W':Base} {Sx Sx':Nat->Prop} {γ γ':Nat->Value} {own own':List (Nat×Box)} {w w':World} {i i':Nat} {bx bx':Box} {F:SV->SV->Prop} (h:BoxOk W Sx γ own w i bx) (hm:Box.Rel F bx bx') (hγ:γ' i'=γ i) (hsz:w.heap.size<=w'.heap.size)
 (hblk:∀b,zg (γ i)=some b->w'.heap[b]?=w.heap[b]?/\¬W'.kp b) (hok:∀b,b<w.heap.size->okO Sx γ own b->w'.heap[b]?=w.heap[b]?/\okO Sx' γ' own' b)
 (hS:∀s u s',RelS (okO Sx γ own) (hp γ own) w s u->F s s'->RelS (okO Sx' γ' own') (hp γ' own') w' s' u):BoxOk W' Sx' γ' own' w' i' bx':=by
 have hb':∀b,b<w.heap.size->wE Sx γ own i b->zg (γ i)≠some b->w'.heap[b]?=w.heap[b]?/\wE Sx' γ' own' i' b:=fun b hb h1 hne=>by
  obtain⟨k1,k2⟩:=hok b hb ⟨h1.1,fun j bx hj hjb=>by
   by_cases e:j=i
   · subst e;exact hne hjb
   · exact h1.2 j bx hj e hjb⟩
  exact⟨k1,k2.1,fun j bx hj _=>k2.2 j bx hj⟩
 have hown:∀{n:Nat} {e:TypeId} {z:Nat} {xs:List Value},w.ownsRow 0 e z (γ i) n xs->(γ i).ownBlock=zg (γ i):=fun h=>by
  rcases h.2 with⟨hv,_⟩|⟨g,cap,cur,hv,_⟩<;>rw[hv]<;>rfl
 cases h with
 |row hr he hl hk=>
  cases hm;have hoi:(γ i).ownBlock=zg (γ i):=by obtain⟨css,h1,_⟩:=hr;exact hown h1
  refine .row ?_ he hl (fun b hb=>(hblk b (by rwa [hγ]at hb)).2);rw[hγ];exact hr.keep2 good_PV hsz (fun b hb=>(hblk b (by rw[<-hoi];exact hb)).1) fun b hb h1 hne=>hb' b hb h1 fun e=>hne (by rw[hoi,e])
 |cells hg hB hh hl hr h1=>
  cases hm with
  |cells g1 g2=>exact .cells (by rw[hγ];exact hg) (hblk _ DD).2 EE DP (fun j s u hs hu=>by
   obtain⟨s0,p1,p2⟩:=g2 j s hs;exact hS s0 u s (hr j s0 u p1 hu) p2) h1
 |mp hg hB hh hl hr=>
  cases hm;exact .mp (by rw[hγ];exact hg) (hblk _ DD).2 EE hl fun j x en hs hu=>⟨(hr j x en hs hu).1,(hr j x en hs hu).2.keep2 hsz hok⟩
 |@rws e z pre post mid css nm h1 hz hpp hn hmid hr hm' hk=>
  cases hm with
  |rws g0 g1 g2=>
   refine .rws (css:=css) (nm:=nm) ?_ hz hpp hn DP (fun j s u hs hu=>?_) hm' (fun b hb=>(hblk b (by rwa [hγ]at hb)).2)
   · rw[hγ];refine⟨h1.1,?_⟩;rcases h1.2 with h|⟨g,cap,cur,hv',hb,hg,r⟩
     · exact Or.inl h
     · exact Or.inr ⟨g,cap,cur,hv',hb,by rw[(hblk g (by rw[hv'];rfl)).1];exact hg,r⟩
   · obtain⟨s0,p1,p2⟩:=rwC_rel g0 g1 g2 j s hs;exact hS s0 u s (hr j s0 u p1 hu) p2
theorem HeapOk.add (h:HeapOk B Sx γ own w) (hw:Below w.heap.size w w') {d:Nat} {g:Value} {bx:Box} (hd:lk d own=none) (hdl:d<1000000) (hg:∀b,zg g=some b->w.heap.size<=b)
 (hbx:BoxOk B Sx (upd γ d g) ((d,bx)::own) w' d bx):HeapOk B Sx (upd γ d g) ((d,bx)::own) w'/\(∀b,b<w.heap.size->okO Sx γ own b->okO Sx (upd γ d g) ((d,bx)::own) b)/\
  (∀i,i≠d->hp (upd γ d g) ((d,bx)::own) i=hp γ own i)/\(∀K b,b<w.heap.size->vis K γ own b->vis K (upd γ d g) ((d,bx)::own) b):=by
 have lkc:∀i,lk i ((d,bx)::own)=if i=d then some bx else lk i own:=fun i=>qL i d bx own
 have hu:∀i,i≠d->upd γ d g i=γ i:=fun i hi=>Yc hi
 have hud:upd γ d g d=g:=Yi rfl;have okn:∀b,b<w.heap.size->okO Sx γ own b->okO Sx (upd γ d g) ((d,bx)::own) b:=fun b hb hok=>⟨hok.1,fun i by_ hi hbi=>by
  rw[lkc]at hi;by_cases e:i=d
  · subst e;rw[hud]at hbi;have:=hg b hbi;omega
  · rw[Yc e]at hi;rw[hu i e]at hbi;exact hok.2 i by_ hi hbi⟩
 have hpn:∀i,i≠d->hp (upd γ d g) ((d,bx)::own) i=hp γ own i:=fun i hi=>by unfold hp;rw[lkc,Yc hi,hu i hi]
 have hst:Stays B Sx (upd γ d g) ((d,bx)::own) w':=h.sx.keep hw.size fun i by_ hi=>by
  rw[lkc]at hi;by_cases e:i=d
  · exact Or.inl DP
  · rw[Yc e]at hi;exact Or.inr ⟨hu i e,by rw[hi];rfl⟩
 refine⟨⟨fun i by_ hi=>?_,fun i j bi bj b hi hj hbi hbj=>?_,hst⟩,okn,hpn,fun K b hb hv i by_ hi hK hbi=>?_⟩
 · rw[lkc]at hi;by_cases e:i=d
   · subst e;rw[Yi rfl]at hi;cases hi;exact hbx
   · rw[Yc e]at hi;exact(h.box i by_ hi).keep (Box.rel_refl _) (hu i e) hw.size (fun b hb=>⟨hw.block b (h.blk hi hb).2,(h.blk hi hb).1⟩) (fun b hb hok=>⟨hw.block b hb,okn b hb hok⟩) fun s u s' this es=>by
      subst es;refine this.keep2 hw.size (fun b hb hok=>⟨hw.block b hb,okn b hb hok⟩) fun k hk=>hpn k fun ek=>?_
      subst ek;rw[this.live (jO hd)]at hk;cases hk
 · rw[lkc]at hi hj;by_cases e:i=d
   · by_cases e2:j=d
     · rw[e,e2]
     · subst e;rw[Yc e2]at hj;rw[hud]at hbi;rw[hu j e2]at hbj;have:=hg b hbi;have:=(h.blk hj hbj).2;omega
   · rw[Yc e]at hi;rw[hu i e]at hbi;by_cases e2:j=d
     · subst e2;rw[hud]at hbj;have:=hg b hbj;have:=(h.blk hi hbi).2;omega
     · rw[Yc e2]at hj;rw[hu j e2]at hbj;exact h.inj i j _ _ b hi hj hbi hbj
 · rw[lkc]at hi;by_cases e:i=d
   · subst e;rw[hud]at hbi;have:=hg b hbi;omega
   · rw[Yc e]at hi;rw[hu i e]at hbi;exact hv i by_ hi hK hbi
end
def St.put (st:St) (dst:Option Tmp) (s:SV):St:=match dst with
 |some d=>{st with fr:=(d,s)::st.fr}
 |none=>st
def jW (st:St) (dst:Option Tmp):Bool:=match dst with
 |some d=>Nat.blt d st.n
 |none=>true
theorem Sim.put {w0:Base} {Sx:Nat->Prop} {γ:Nat->Value} {st:St} {a:Act} {w:World} (hI:Sim w0 Sx γ st a w) {dst:Option Tmp} {s:SV} {v:Value} (hd:jW st dst=true) (h:RelS (okO Sx γ st.own) (hp γ st.own) w s v):
 Sim w0 Sx γ (st.put dst s) (a.put dst v) w:=by
 cases dst with
 |none=>exact hI
 |some d=>
  have hlt:d<st.n:=by simpa [jW,Nat.blt,YJ]using hd
  refine⟨hI.below,⟨by rw[put_size];exact hI.size.1,hI.size.2⟩,by rw[put_defers];exact hI.defers,fun t s' ht=>?_,hI.heap⟩;have ht':(if t=d then some s else lk t st.fr)=some s':=by rw[<-qL];exact ht
  rw[put_getD];by_cases e:t=d
  · subst e;rw[Yi rfl]at ht';cases ht';rw[Yi ⟨rfl,by rw[hI.size.1];exact hlt⟩];exact h
  · rw[Yc e]at ht';rw[Yc (fun h=>e h.1.symm)];exact hI.fr t s' ht'
theorem wy {P:Program} {α:Type} {R:RF α} {size:Nat} (hR:Good R) {ok:Nat->Prop} {w:World} (t:TypeId) (ty:TypeId)
 (base:Nat) (e:TypeId) (i:TypeInfo) (z:Value) (bytes:Nat) (ht:P.underlying t=some (.slice e)) (hi:P.info? e=some i) (hz:i.zero=some z)
 (hsize:i.size=size) (hby:i.bytes=bytes) (hzs:z.cells.size=size) (hsz:0<size)
 (v:Value) (l:List α) (hown:RowO R size ok w base e v l)
 (A:Option Addr) (c:Nat) (l₂:List α) (hr:SlAt (fun w cs y=>(∀u∈cs,u.oneCell'=true)/\R (okR ok v) w cs y) size w A l₂)
 (h63:l.length+l₂.length<=maxLen) (hbytes:(l.length+l₂.length)*bytes<=140737488355328) (hbase:base<=w.heap.size) (hokn:ok w.heap.size):
 ∃v' w',(Builtin.append_ #[t,t] ty #[v,.slice A l₂.length c]).run P w=.ok v' w'/\RowO R size ok w' base e v' (l++l₂)/\w.grownBy w' v.ownBlock/\(v'.ownBlock=v.ownBlock\/v'.ownBlock=some w.heap.size):=by
 obtain⟨css,h1,h2,h3⟩:=hown;have hex:∀j:Nat,∃cs:Cel size,∀hj:j<l₂.length,R (okR ok v) w cs.val l₂[j]/\∀b o',A=some ⟨b,o',none⟩->CellsAt w b (o'+j*size) cs.val:=by
  intro j;by_cases hj:j<l₂.length
  · obtain⟨b,o',hA,_,hc⟩:=hr DP;obtain⟨cs,a1,a2,a3,a4⟩:=hc j hj;refine⟨⟨cs,a1,a3⟩,fun _=>⟨a4,fun b2 o2 hA2=>?_⟩⟩;have:=hA.symm.trans hA2;simp only[Ye,Addr.mk.injEq]at this;obtain⟨rfl,rfl,_⟩:=this;exact a2
  · exact⟨⟨List.replicate size .nilIface,by simp,fun u hu=>by rw[List.eq_of_mem_replicate hu];rfl⟩,fun h=>absurd h hj⟩
 obtain⟨f,hf⟩:=Classical.axiomOfChoice hex;let css₂:List (Cel size):=(List.range l₂.length).map f
 have hlen2:css₂.length=l₂.length:=by simp[css₂]
 have hget:∀j (h:j<css₂.length),css₂[j]=f j:=fun j h=>by simp[css₂]
 have hraw:SlAt (fun _ cs (y:Cel size)=>cs=y.val) size w A css₂:=fun hl=>by
  obtain⟨b,o',hA,hlt,_⟩:=hr DP;refine⟨b,o',hA,hlt,fun j hj=>⟨_,(f j).2.1,((hf j) DP).2 b o' hA,by rw[hget]⟩⟩
 have key:∃v' w',(Builtin.append_ #[t,t] ty #[v,.slice A css₂.length c]).run P w=.ok v' w'/\OwnF Subtype.val size w' base e v' (css++css₂)/\w.grownBy w' v.ownBlock/\(v'.ownBlock=v.ownBlock\/v'.ownBlock=some w.heap.size):=by
  rcases Nat.eq_zero_or_pos css₂.length with h0|hpos
  · have hn:css₂=[]:=Xi h0;rw[hn];rcases A with _|ad
    · exact⟨v,w,run_append_none w t ty e i ht hi base size v _ _ h1 c,by simpa [OwnF]using h1,World.grownBy.refl w _,Or.inl rfl⟩
    · obtain⟨v',w',hrun,g2,g3,_,g5⟩:=run_append_own_at (P:=P) w base t ty e i z size bytes ht hi hz hsize hby hzs hsz v _ _ h1 ad 0 c [] DQ DQ DQ DP (by rw[h2];exact Xj (Xl _ DP) hbytes) hbase;exact⟨v',w',hrun,by simpa [OwnF]using g2,g3,g5⟩
  · obtain⟨b,o',rfl,hlt,hc⟩:=hraw hpos;have hcells:∀j u,(css₂.flatMap Subtype.val)[j]?=some u->w.cell? ((⟨b,o',none⟩:Addr).add j)=some u:=by
     intro j u hj;have hjl:j<css₂.length*size:=by rw[<-zU (fun x:Cel size=>x.2.1) css₂];exact(Yq.1 hj).1
     have hi':j/size<css₂.length:=(Nat.div_lt_iff_lt_mul hsz).2 hjl;have hm:j%size<size:=Nat.mod_lt _ hsz;have hjj:j/size*size+j%size=j:=by rw[Nat.mul_comm];exact Nat.div_add_mod j size
     obtain⟨cs,_,hcs,rfl⟩:=hc (j/size) hi';have g1:=flat_get (fun x:Cel size=>x.2.1) css₂ (j/size) hi' (j%size) hm;rw[hjj,hj]at g1;have g2:=hcs (j%size) u g1.symm;have e1:(⟨b,o',none⟩:Addr).add j=⟨b,o'+j/size*size+j%size,none⟩:=by
      rw[Nat.add_assoc,hjj];unfold Addr.add;split
      · simp[*]
      · rfl
     rw[e1];exact g2
    obtain⟨v',w',hrun,g2,g3,_,g5⟩:=run_append_own_at (P:=P) w base t ty e i z size bytes ht hi hz hsize hby hzs hsz v _ _ h1 ⟨b,o',none⟩ css₂.length c (css₂.flatMap Subtype.val) (zU (fun x:Cel size=>x.2.1) css₂) hcells
     (fun u hu=>by obtain⟨x,_,hx⟩:=List.mem_flatMap.1 hu;exact x.2.2 u hx) DP (by rw[h2,hlen2];exact hbytes) hbase
    refine⟨v',w',hrun,?_,g3,g5⟩;unfold OwnF;rw[Ya,List.flatMap_append];exact g2
 obtain⟨v',w',hrun,g2,g3,g5⟩:=key;rw[hlen2]at hrun;have hlt:∀b,b<w.heap.size->okR ok v b->okR ok v b/\okR ok v' b:=fun b hb hk=>⟨hk,hk.1,by
  rcases g5 with g|g
  · rw[g];exact hk.2
  · rw[g];intro he;simp only[Ye]at he;omega⟩
 have hsame:SameOn (fun b=>okR ok v b/\okR ok v' b) w w':=⟨g3.size,fun b hb hk=>g3.block b hb hk.1.2⟩;have fin:∀cs x,R (okR ok v) w cs x->R (okR ok v') w' cs x:=fun cs x hx=>hR.weak _ _ _ _ _ (fun _ _ h=>h.2) (hR.keep _ _ _ _ _ hsame (hR.weak _ _ _ _ _ hlt hx))
 refine⟨v',w',hrun,⟨css++css₂,g2,by rw[Ya,Ya,h2,hlen2],fun j a1 a2=>?_⟩,g3,g5⟩;by_cases hj:j<css.length
 · rw[List.getElem_append_left hj,List.getElem_append_left DP];exact fin _ _ (h3 j hj DP)
 · have hj2:j-css.length<l₂.length:=by rw[Ya]at a2;omega
   rw[List.getElem_append_right DP,List.getElem_append_right DP,hget];have:=((hf (j-css.length)) hj2).1;simp only[h2]at this⊢;exact fin _ _ this
def ActOk (P:Program) (Ws:List Nat) (o:Oper) (st:St) (Q:St->Prop):Prop:=∀(w0:Base) (Sx:Nat->Prop) (γ:Nat->Value) (a:Act) (w:World) (QQ:Exit->Act->World->Prop),Sim w0 Sx γ st a w->
 o.wp P a w (fun a' w'=>∃γ' st',Q st'/\Sim w0 Sx γ' st' a' w'/\SameOn (vis Ws γ st.own) w w'/\∀K:List Nat,(∀i∈Ws,i∈K)->∀b,b<w.heap.size->vis K γ st.own b->vis K γ' st'.own b) QQ
theorem Sim.addBox {w0:Base} {Sx:Nat->Prop} {γ:Nat->Value} {st:St} {a:Act} {w w':World} (hI:Sim w0 Sx γ st a w) (hw:Below w.heap.size w w') {d:Nat} {g:Value} {bx:Box} (hd:lk d st.own=none) (hn:Nat.blt d st.n=true)
 (hg:∀b,zg g=some b->w.heap.size<=b) (hbx:BoxOk w0 Sx (upd γ d g) ((d,bx)::st.own) w' d bx) {s:SV} {v:Value}
 (hs:RelS (okO Sx (upd γ d g) ((d,bx)::st.own)) (hp (upd γ d g) ((d,bx)::st.own)) w' s v):
 Sim w0 Sx (upd γ d g) ⟨st.n,(d,s)::st.fr,(d,bx)::st.own⟩ (a.put (some d) v) w'/\SameOn (vis [] γ st.own) w w'/\∀K:List Nat,(∀i∈([]:List Nat),i∈K)->∀b,b<w.heap.size->vis K γ st.own b->vis K (upd γ d g) ((d,bx)::st.own) b:=by
 have hdl:d<1000000:=by have h5:=hI.size.2;have h6:d<st.n:=(by simpa [Nat.blt,YJ]using hn);omega
 obtain⟨h1,h2,h3,h4⟩:=hI.heap.add hw hd hdl hg hbx;have hI':Sim w0 Sx (upd γ d g) ⟨st.n,st.fr,(d,bx)::st.own⟩ a w':=by
  refine⟨hI.below.grow hI.heap.sx hw,hI.size,hI.defers,fun t s' ht=>?_,h1⟩;have hr:=hI.fr t s' ht;refine hr.keep2 hw.size (fun b hb hok=>⟨hw.block b hb,h2 b hb hok⟩) fun i hi=>h3 i fun e=>?_
  subst e;rw[hr.live (jO hd)]at hi;cases hi
 exact⟨hI'.put (dst:=some d) hn hs,⟨hw.size,fun b hb _=>hw.block b hb⟩,fun K _ b hb hv=>h4 K b hb hv⟩
section
variable {P:Program} {T:TT} (hT:zm P T) {st:St}
theorem act_new {w0:Base} {Sx:Nat->Prop} {γ:Nat->Value} {a:Act} {w:World} (hI:Sim w0 Sx γ st a w) {d:Nat} (hd:lk d st.own=none) (hn:Nat.blt d st.n=true) {cs:List SV} {us:List Value} {ty:TypeId} (hl:us.length=cs.length)
 (hr:∀(i:Nat) (s:SV) (v:Value),cs[i]?=some s->us[i]?=some v->RelS (okO Sx γ st.own) (hp γ st.own) w s v) (h1:cs.all oneS=true):
 ∃γ',Sim w0 Sx γ' ⟨st.n,(d,.ptr d 0)::st.fr,(d,.cells cs)::st.own⟩ (a.put (some d) (.pointer (some ⟨w.heap.size,0,none⟩))) (w.alloc (.cells us.toArray ty))/\SameOn (vis [] γ st.own) w (w.alloc (.cells us.toArray ty))/\
  ∀K:List Nat,(∀i∈([]:List Nat),i∈K)->∀b,b<w.heap.size->vis K γ st.own b->vis K γ' ((d,.cells cs)::st.own) b:=by
 have hw:Below w.heap.size w (w.alloc (.cells us.toArray ty)):=(Below.refl _ w).alloc (Yk _) _;refine⟨upd γ d (.pointer (some ⟨w.heap.size,0,none⟩)),hI.addBox hw hd hn (fun b hb=>by simp only[zg,Ye]at hb;omega) ?_ ?_⟩
 · refine .cells (us:=us) (ty:=ty) (b:=w.heap.size) (Yi rfl) (fun hk=>by have:=hI.heap.sx.lt _ hk;omega) (heap_alloc_new w _) hl (fun j s u hs hu=>?_) fun u hu=>?_
   · have h2:=hr j s u hs hu;refine h2.keep2 hw.size (fun b hb hok=>⟨hw.block b hb,hok.1,fun i by_ hi hbi=>?_⟩) fun i hi=>?_
     · have e:i≠d:=fun e=>by subst e;rw[h2.live (jO hd)]at hi;cases hi
       unfold hp;rw[qL,Yc e];simp only[upd,Yc e]
     · rw[qL]at hi;by_cases e:i=d
       · subst e;simp only[upd,if_true,zg,Ye]at hbi;omega
       · rw[Yc e]at hi;simp only[upd,Yc e]at hbi;exact hok.2 i by_ hi hbi
   · obtain⟨j,hj,rfl⟩:=List.mem_iff_getElem.1 hu;exact(hr j cs[j] us[j] (Yj DP) (Yj hj)).one hI.heap.one (YE.1 h1 _ (Yn _))
 · exact .ptr (g:=.pointer (some ⟨w.heap.size,0,none⟩)) EO rfl
theorem act_box {o:Oper} {e:TypeId} {x:Operand} (ho:o.op=.box e x) {d:Nat} (hdst:o.dst=some d) {s:SV} (hx:evS st x=some s) {cs:List SV} (hc:cellsOf s=some cs) (h1:cs.all oneS=true) (hd:lk d st.own=none) (hn:Nat.blt d st.n=true)
 {Q:St->Prop} (h:Q ⟨st.n,(d,.ptr d 0)::st.fr,(d,.cells cs)::st.own⟩):ActOk P [] o st Q:=by
 intro w0 Sx γ a w QQ hI;obtain⟨hl,hr⟩:=qaW hI.heap.one (qK hI hx) hc;obtain⟨γ',g1,g2,g3⟩:=act_new hI hd hn (us:=(a.eval x).cells.toList) (ty:=e) hl hr h1;unfold Oper.wp;have:(execOp a.eval o).run P w=.ok (.value (.pointer (some ⟨w.heap.size,0,none⟩))) (w.alloc (.cells (a.eval x).cells e)):=by
  simp[execOp,ho,Instr.box,newVar,newRow]
 refine R8 ?_;simp only[Xc]at g1 g2;exact⟨γ',_,h,g1,g2,g3⟩
include hT in
theorem act_alloc {o:Oper} {e:TypeId} (ho:o.op=.alloc e) {d:Nat} (hdst:o.dst=some d) {i:TyI} (hi:lk e T=some i) (hz:i.zero.all plain=true) (hd:lk d st.own=none) (hn:Nat.blt d st.n=true)
 {Q:St->Prop} (h:Q ⟨st.n,(d,.ptr d 0)::st.fr,(d,.cells (i.zero.map fun z=>.p (.v z)))::st.own⟩):ActOk P [] o st Q:=by
 intro w0 Sx γ a w QQ hI;obtain⟨info,zv,hinf,_,_,hzv,hzc⟩:=(hT e i hi).info;obtain⟨γ',g1,g2,g3⟩:=act_new hI hd hn (cs:=i.zero.map fun z=>.p (.v z)) (us:=i.zero) (ty:=e) DQ (fun j s v hs hv=>by
  rw[YH,hv]at hs;cases hs;exact .p (.v (YE.1 hz v (YI hv)))) (YE.2 fun s hs=>by obtain⟨z,_,rfl⟩:=Y1.1 hs;rfl)
 unfold Oper.wp;have:(execOp a.eval o).run P w=.ok (.value (.pointer (some ⟨w.heap.size,0,none⟩))) (w.alloc (.cells i.zero.toArray e)):=by
  simp[execOp,ho,Instr.alloc,newVar,newRow,zeroValue,typeInfo,hinf,hzv,<-hzc]
 refine R8 ?_;exact⟨γ',_,h,g1,g2,g3⟩
end
def cellsP:SV->Option (List PV)
 | .p (.agg ps)=>some ps
 | .p x=>some [x]
 |_=>none
theorem cellsP_ok {ok:Nat->Prop} {H:Nat->Option Value} {w:World} {s:SV} {u:Value} (h:RelS ok H w s u) {ps:List PV} (hc:cellsP s=some ps) (h1:ps.all oneP=true):rPV ok w u.cells.toList ps/\∀v∈u.cells.toList,v.oneCell'=true:=by
 have key:rPV ok w u.cells.toList ps:=by
  have lone:∀{x:PV},RelP ok w x u->oneP x=true->some [x]=some ps->rPV ok w u.cells.toList ps:=by
   intro x h h1' hc;cases hc;have h2:u.oneCell'=true:=by rw[h.one];exact h1'
   have:u.cells=#[u]:=by cases u<;>first|rfl|cases h2
   rw[this];refine⟨rfl,fun i s v a b=>?_⟩;cases i with
   |zero=>simp at a b;subst a;subst b;exact h
   |succ i=>simp at a
  cases h with
  |@p x u h=>
   cases x with
   |agg ps'=>
    simp only[cellsP,Ye]at hc;subst hc;cases h with
    |@agg _ us hl h=>exact⟨by simpa [Value.cells]using hl,by simpa [Value.cells]using h⟩
   |v x=>exact lone h rfl hc
   |sl _ _=>exact lone h rfl hc
   |rp _=>exact lone h rfl hc
   |fn _ _=>exact lone h rfl hc
  |_=>cases hc
 refine⟨key,fun v hv=>?_⟩;obtain⟨j,hj,rfl⟩:=List.mem_iff_getElem.1 hv;have hj':j<ps.length:=by rw[<-key.1];exact hj
 rw[(key.2 j ps[j] _ (Yj hj') (Yj hj)).one];exact YE.1 h1 _ (Yn _)
def jM:Nat->List (Nat×Operand)->Option (List Operand)
 |_,[]=>some []
 |k,(i,x)::r=>bif Nat.beq i k then(match jM (k+1) r with|some l=>some (x::l)|none=>none)else none
theorem seqParts_ok {a:Act}:∀{k:Nat} {ps:List (Nat×Operand)} {xs:List Operand},jM k ps=some xs->(ps.map fun(i,x)=>(i,a.eval x))=((xs.map a.eval).zipIdx k).map fun x=>(x.2,x.1)
 |k,[],xs,h=>by simp only[jM,Ye]at h;subst h;rfl
 |k,(i,x)::r,xs,h=>by
  unfold jM at h;cases hb:Nat.beq i k with
  |false=>rw[hb]at h;cases h
  |true=>
   rw[hb]at h;simp only[cond_true]at h;split at h
   · rename_i l hl;simp only[Ye]at h;subst h;have:=seqParts_ok (a:=a) hl;have e:i=k:=YK hb;subst e;simp only[Y2,List.zipIdx_cons];rw[this]
   · cases h
def bElems (st:St) (size:Nat):List Operand->Option (List (List PV))
 |[]=>some []
 |x::r=>match evS st x with
  |some s=>match cellsP s with
   |some ps=>bif Nat.beq ps.length size&&ps.all oneP then(match bElems st size r with|some l=>some (ps::l)|none=>none)else none
   |none=>none
  |none=>none
theorem bElems_ok {w0:Base} {Sx:Nat->Prop} {γ:Nat->Value} {st:St} {a:Act} {w:World} (hI:Sim w0 Sx γ st a w) {size:Nat}:∀{xs:List Operand} {l:List (List PV)},bElems st size xs=some l->
 l.length=xs.length/\(∀e∈l,e.length=size/\∀s∈e,oneP s=true)/\∃css:List (Cel size),css.length=l.length/\(∀(i:Nat) (h:i<css.length) (h2:i<xs.length),css[i].val=(a.eval xs[i]).cells.toList)/\
  ∀(i:Nat) (h:i<css.length) (h2:i<l.length),rPV (okO Sx γ st.own) w css[i].val l[i]
 |[],l,h=>by simp only[bElems,Ye]at h;subst h;exact⟨rfl,by simp,[],rfl,fun i h=>absurd h DQ,fun i h=>absurd h DQ⟩
 |x::r,l,h=>by
  unfold bElems at h;split at h
  · rename_i s hs;split at h
    · rename_i ps hps;cases hb:(Nat.beq ps.length size&&ps.all oneP)with
      |false=>rw[hb]at h;cases h
      |true=>
       rw[hb]at h;simp only[cond_true]at h;simp only[Yp]at hb;have hsz:ps.length=size:=YK hb.1;split at h
       · rename_i l' hl';simp only[Ye]at h;subst h;obtain⟨i1,i2,css,i3,i4,i5⟩:=bElems_ok hI hl';obtain⟨c1,c2⟩:=cellsP_ok (qK hI hs) hps hb.2;refine⟨by simp[i1],?_,⟨(a.eval x).cells.toList,by rw[c1.1,hsz],c2⟩::css,by simp[i3],fun i h h2=>?_,fun i h h2=>?_⟩
         · refine List.forall_mem_cons.2 ⟨⟨hsz,fun s hs=>YE.1 hb.2 s hs⟩,i2⟩
         · cases i with
           |zero=>rfl
           |succ i=>exact i4 i DA Dl
         · cases i with
           |zero=>exact c1
           |succ i=>exact i5 i DA Dl
       · cases h
    · cases h
  · cases h
section
variable {P:Program} {T:TT} (hT:zm P T) {st:St}
include hT
theorem build_run {t e:TypeId} {len:Nat} {parts:Array (Nat×Operand)} {ti ei:TyI} (ht:lk t T=some ti) (hte:ti.d=.sl e) (he:lk e T=some ei) (hsz:Nat.blt 0 ei.size=true) (hsmall:Nat.ble (len*ei.size) 16777216=true) {xs:List Operand} (hxs:jM 0 parts.toList=some xs) (hlen':xs.length=len)
 {a:Act} {w:World} {css:List (Cel ei.size)} (hcl:css.length=len) (i4:∀(i:Nat) (h:i<css.length) (h2:i<xs.length),css[i].val=(a.eval xs[i]).cells.toList):
 (Instr.buildSlice t len (parts.map fun(i,x)=>(i,a.eval x))).run P w=.ok (.slice (some ⟨w.heap.size,0,none⟩) len len) (w.alloc (.cells (css.flatMap Subtype.val).toArray e)):=by
 obtain⟨info,zv,hinf,hsize,_,hzv,hzc⟩:=(hT e ei he).info;have hu:=(hT t ti ht).und;rw[hte]at hu;simp only[jV]at hu;have hpos:0<ei.size:=by simpa [Nat.blt,YJ]using hsz
 have hsm:len*ei.size<=16777216:=Y8 hsmall;have hparts:(parts.map fun(i,x)=>(i,a.eval x)).toList=((xs.map a.eval).zipIdx 0).map fun x=>(x.2,x.1):=by rw[Array.toList_map];exact seqParts_ok hxs
 rcases Nat.eq_zero_or_pos len with h0|hlp
 · subst h0;have hc0:css=[]:=Xi hcl;have hx0:xs=[]:=Xi hlen';rw[hx0]at hparts;have hp0:(parts.map fun(i,x)=>(i,a.eval x))=#[]:=Xw.1 hparts;rw[hp0,hc0];simp[Instr.buildSlice,run_underlying hu,sizeOf,typeInfo,hinf,Instr.fill,newRow,show Array.range 0=#[]from rfl]
 · have hvs:∀v∈xs.map a.eval,v.cells.size=ei.size:=fun v hv=>by
    obtain⟨x,hx,rfl⟩:=Y1.1 hv;obtain⟨i,hi,rfl⟩:=List.mem_iff_getElem.1 hx;have:=i4 i DP hi;have h2:=css[i].2.1;rw[this,Yx]at h2;exact h2
   obtain⟨r,hr,hrs,hrk⟩:=Great.fill_dense hpos (xs.map a.eval) 0 ((Array.range (len*info.size)).map (zv.cells[·%zv.cells.size]!)) hvs (by simp[hlen',hsize])
   have hrun:=run_buildSlice (P:=P) w t e len (parts.map fun(i,x)=>(i,a.eval x)) r info zv hu hinf hzv (by rw[hsize];omega) (by rw[hsize];exact Nat.ne_of_gt (Nat.mul_pos hlp hpos)) (by rw[hsize];rw[hsize]at hr;rw[hparts];exact hr);rw[hrun];have hrl:r.size=len*ei.size:=by rw[hrs];simp[hsize]
   have:r=(css.flatMap Subtype.val).toArray:=by
    refine Array.ext (by rw[hrl,Xt,zU (fun x:Cel ei.size=>x.2.1),hcl]) fun k hk1 hk2=>?_
    have hk:k<len*ei.size:=by rw[<-hrl];exact hk1
    have hdiv:k/ei.size<css.length:=by rw[hcl];exact(Nat.div_lt_iff_lt_mul hpos).2 hk
    have hmod:k%ei.size<ei.size:=Nat.mod_lt _ hpos;have hjj:k/ei.size*ei.size+k%ei.size=k:=by rw[Nat.mul_comm];exact Nat.div_add_mod k ei.size
    have g1:=flat_get (fun x:Cel ei.size=>x.2.1) css (k/ei.size) hdiv (k%ei.size) hmod;rw[hjj]at g1;have g2:=hrk k;rw[Yi ⟨by omega,by simp[hlen'];exact hk⟩]at g2;have g3:(xs.map a.eval)[k/ei.size-0]?=some (a.eval (xs[k/ei.size]'DP)):=by simp[Yj (show k/ei.size<xs.length by omega)]
    rw[g3]at g2;simp only[Option.bind_some]at g2;rw[i4 _ hdiv DP]at g1;have g4:r[k]?=(css.flatMap Subtype.val)[k]?:=by rw[g2,g1,Array.getElem?_toList]
    have e1:r[k]?=some r[k]:=Array.getElem?_eq_getElem hk1
    have e2:(css.flatMap Subtype.val)[k]?=some ((css.flatMap Subtype.val)[k]'(by simpa using hk2)):=Yj (by simpa using hk2)
    rw[e1,e2]at g4;simpa using g4
   rw[this]
theorem zj {o:Oper} {t e:TypeId} {len:Nat} {parts:Array (Nat×Operand)} (ho:o.op=.buildSlice t len parts) {d:Nat} (hdst:o.dst=some d) {ti ei:TyI} (ht:lk t T=some ti) (hte:ti.d=.sl e) (he:lk e T=some ei)
 (hsz:Nat.blt 0 ei.size=true) (hsmall:Nat.ble (len*ei.size) 16777216=true) {xs:List Operand} (hxs:jM 0 parts.toList=some xs) (hlen:Nat.beq xs.length len=true) {l:List (List PV)} (hl:bElems st ei.size xs=some l)
 (hd:lk d st.own=none) (hn:Nat.blt d st.n=true) {Q:St->Prop} (h:Q ⟨st.n,(d,.row d)::st.fr,(d,.row e ei.size l)::st.own⟩):ActOk P [] o st Q:=by
 intro w0 Sx γ a w QQ hI;obtain⟨info,zv,hinf,hsize,_,hzv,hzc⟩:=(hT e ei he).info;have hu:=(hT t ti ht).und;rw[hte]at hu;simp only[jV]at hu;have hpos:0<ei.size:=by simpa [Nat.blt,YJ]using hsz
 have hlen':xs.length=len:=YK hlen;have hsm:len*ei.size<=16777216:=Y8 hsmall;obtain⟨i1,i2,css,i3,i4,i5⟩:=bElems_ok hI hl;have hcl:css.length=len:=by rw[i3,i1,hlen']
 have run:(Instr.buildSlice t len (parts.map fun(i,x)=>(i,a.eval x))).run P w=.ok (.slice (some ⟨w.heap.size,0,none⟩) len len) (w.alloc (.cells (css.flatMap Subtype.val).toArray e)):=build_run hT ht hte he hsz hsmall hxs hlen' hcl i4;have hw:Below w.heap.size w (w.alloc (.cells (css.flatMap Subtype.val).toArray e)):=(Below.refl _ w).alloc (Yk _) _;have hll:l.length=len:=by rw[i1,hlen']
 have hrow:BoxOk w0 Sx (upd γ d (.slice (some ⟨w.heap.size,0,none⟩) len len)) ((d,.row e ei.size l)::st.own) (w.alloc (.cells (css.flatMap Subtype.val).toArray e)) d (.row e ei.size l):=by
  have hlm:len<=16777216:=Xj (Nat.le_mul_of_pos_right len hpos) hsm;refine .row ?_ i2 (by rw[hll];unfold reachBytes;omega) (fun b hb hk=>by simp only[upd,if_true,zg,Ye]at hb;have:=hI.heap.sx.lt _ hk;omega);refine GL ?_;refine⟨css,⟨by rw[zU (fun x:Cel ei.size=>x.2.1)],Or.inr ⟨w.heap.size,len,_,by rw[hcl],Yl _,heap_alloc_new w _,by omega,by unfold maxLen;omega,by rw[Xt,zU (fun x:Cel ei.size=>x.2.1),hcl],?_⟩⟩,i3,fun i a1 a2=>?_⟩
  · show(css.flatMap Subtype.val).take (css.length*ei.size)=_;rw[<-zU (fun x:Cel ei.size=>x.2.1) css,Yu]
  · refine⟨(i5 i a1 a2).1,fun j s u hs hu=>?_⟩;refine((i5 i a1 a2).2 j s u hs hu).keep2 hw.size fun b hb hok=>⟨hw.block b hb,⟨hok.1,fun k bx hk hkd hkb=>?_⟩,?_⟩
    · rw[qL,Yc hkd]at hk;simp only[upd,Yc hkd]at hkb;exact hok.2 k bx hk hkb
    · simp only[Value.ownBlock,ne_eq,Ye];omega
 have key:=hI.addBox hw hd hn (s:=.row d) (v:=.slice (some ⟨w.heap.size,0,none⟩) len len) (fun b hb=>by simp only[zg,Ye]at hb;omega) hrow (.row EO);unfold Oper.wp;have:(execOp a.eval o).run P w=.ok (.value (.slice (some ⟨w.heap.size,0,none⟩) len len)) (w.alloc (.cells (css.flatMap Subtype.val).toArray e)):=by
  simp only[execOp,ho,YG,run,Ys];rfl
 refine R8 ?_;exact Ki
end
def setB (j:Nat) (bx:Box):List (Nat×Box)->List (Nat×Box)
 |[]=>[]
 |(k,b)::r=>bif Nat.beq j k then(k,bx)::r else(k,b)::setB j bx r
theorem lk_setB (j:Nat) (bx:Box) (i:Nat):∀own:List (Nat×Box),lk i (setB j bx own)=if i=j then(lk j own).map (fun _=>bx)else lk i own
 |[]=>by simp[setB,lk]
 |(k,b)::r=>by
  rw[setB];by_cases h:j=k
  · subst h;rw[wJ,cond_true,qL,qL,qL];by_cases e:i=j
    · simp[e]
    · simp[e]
  · rw[beq_no h,cond_false,qL,lk_setB j bx i r,qL,qL];by_cases e:i=j
    · subst e;simp[h]
    · simp[e]
theorem RelS.ptr_inv {ok:Nat->Prop} {H:Nat->Option Value} {w:World} {i o b:Nat} {u:Value} (h:RelS ok H w (.ptr i o) u) (hg:H i=some (.pointer (some ⟨b,0,none⟩))):u=.pointer (some ⟨b,o,none⟩):=by
 cases h with
 |ptr h hb=>rw[hg]at h;cases h;simp only[zg,Ye]at hb;subst hb;rfl
section
variable {P:Program} {T:TT} (hT:zm P T) {st:St}
include hT
theorem act_store {o:Oper} {t:TypeId} {ad x:Operand} (ho:o.op=.store t ad x) (hdst:o.dst=none) {ti:TyI} (ht:lk t T=some ti) {j off:Nat} (had:evS st ad=some (.ptr j off)) {cs:List SV} (hj:lk j st.own=some (.cells cs))
 {s:SV} (hx:evS st x=some s) {xs:List SV} (hxs:cellsOf s=some xs) (h1:xs.all oneS=true) (hlen:Nat.beq xs.length ti.size=true) (hfit:Nat.ble (off+xs.length) cs.length=true)
 {Q:St->Prop} (h:Q ⟨st.n,st.fr,setB j (.cells (cs.take off++xs++cs.drop (off+xs.length))) st.own⟩):ActOk P [j] o st Q:=by
 intro w0 Sx γ a w QQ hI;have hlen':xs.length=ti.size:=YK hlen;have hfit':off+xs.length<=cs.length:=Y8 hfit;cases hI.heap.box j _ hj with
 |@cells _ us ty b hg hB hh hl hr hone=>
 have hadv:=(qK hI had).ptr_inv (by rw[zb hj,hg]);obtain⟨c1,c2⟩:=qaW hI.heap.one (qK hI hx) hxs;generalize hvs:(a.eval x).cells.toList=vs at c1 c2;have hvl:vs.length=xs.length:=c1;have hv1:∀v∈vs,v.oneCell'=true:=fun v hv=>by
  obtain⟨i,hi,rfl⟩:=List.mem_iff_getElem.1 hv;exact(c2 i (xs[i]'DP) _ (Yj DP) (Yj hi)).one hI.heap.one (YE.1 h1 _ (Yn _))
 have hst:=run_storeCells_at P b off ty vs 0 us.toArray w hh DE hv1;simp only[Nat.add_zero]at hst;let us':=us.take off++vs++us.drop (off+vs.length)
 have run:(execOp a.eval o).run P w=.ok .skip (w.setRow b us'.toArray):=by
  have hsz:=(hT t ti ht).size w;have hcs:(a.eval x).cells.size=ti.size:=by rw[<-Yx,hvs,hvl,hlen']
  refine GE ?_;simp[hst,us']
 have hbl:b<w.heap.size:=lt_of_block hh;have hother:∀k,k≠b->(w.setRow b us'.toArray).heap[k]?=w.heap[k]?:=fun k hk=>setRow_other w b k _ hk
 have lk':∀i,lk i (setB j (.cells (cs.take off++xs++cs.drop (off+xs.length))) st.own)=if i=j then some (.cells (cs.take off++xs++cs.drop (off+xs.length)))else lk i st.own:=fun i=>by
  rw[lk_setB,hj];rfl
 have hsome:∀i,(lk i (setB j (.cells (cs.take off++xs++cs.drop (off+xs.length))) st.own)).isSome=(lk i st.own).isSome:=fun i=>by
  rw[lk'];split
  · rename_i e;subst e;rw[hj];rfl
  · rfl
 generalize hown':setB j (.cells (cs.take off++xs++cs.drop (off+xs.length))) st.own=own' at*;have hp':∀i,hp γ own' i=hp γ st.own i:=fun i=>by
  have:=hsome i;unfold hp;cases h2:lk i own'<;>cases h3:lk i st.own<;>rw[h2,h3]at this<;>first|rfl|cases this
 have okc:∀c,okO Sx γ own' c↔okO Sx γ st.own c:=fun c=>by
  refine and_congr Iff.rfl ⟨fun hk i bx hi=>?_,fun hk i bx hi=>?_⟩
  · have:=hsome i;rw[hi]at this;obtain⟨by_,h3⟩:=Yv.1 this;exact hk i by_ h3
  · have:=hsome i;rw[hi]at this;obtain⟨by_,h3⟩:=Yv.1 this.symm;exact hk i by_ h3
 have okb:∀i c,wE Sx γ own' i c↔wE Sx γ st.own i c:=fun i c=>by
  refine and_congr Iff.rfl ⟨fun hk k bx hi=>?_,fun hk k bx hi=>?_⟩
  · have:=hsome k;rw[hi]at this;obtain⟨by_,h3⟩:=Yv.1 this;exact hk k by_ h3
  · have:=hsome k;rw[hi]at this;obtain⟨by_,h3⟩:=Yv.1 this.symm;exact hk k by_ h3
 have hblk:zg (γ j)=some b:=by rw[hg];rfl
 have keepS:∀{s:SV} {u:Value},RelS (okO Sx γ st.own) (hp γ st.own) w s u->RelS (okO Sx γ own') (hp γ own') (w.setRow b us'.toArray) s u:=fun h=>by
  refine h.keep2 DQ (fun c hc hok=>⟨hother c fun e=>?_,(okc c).2 hok⟩) fun i _=>hp' i
  subst e;exact hok.2 j _ hj hblk
 unfold Oper.wp;rw[run,Oper.upon_skip,hdst];refine⟨γ,_,h,⟨?_,hI.size,hI.defers,fun t s ht=>keepS (hI.fr t s ht),⟨fun i bx hi=>?_,fun i k bi bk c hi hk hbi hbk=>?_,hI.heap.sx.keep DQ fun i bx hi=>Or.inr ⟨rfl,by rw[<-hsome i,hi];rfl⟩⟩⟩,⟨by simp,fun c hc hv=>hother c fun e=>?_⟩,fun K _ c hc hv i bx hi hK=>?_⟩
 · refine hI.below.step ⟨rfl,rfl,rfl,by simp,fun k hk=>absurd hk (Nat.not_lt_zero _)⟩ fun k hk=>hother k fun e=>by subst e;exact hB hk
 · rw[lk']at hi;by_cases e:i=j
   · subst e;rw[Yi rfl]at hi;cases hi;refine .cells (us:=us') (ty:=ty) (b:=b) hg hB (setRow_heap w b _ _ ty _ hh) (by simp[us',hvl,hl]) (fun k s u hs hu=>?_) fun u hu=>?_
     · -- a cell of the box
       have:RelS (okO Sx γ st.own) (hp γ st.own) w s u:=by
        have ln:(us.take off++vs).length=(cs.take off++xs).length:=by simp[hvl,hl]
        by_cases hk1:k<(cs.take off++xs).length
        · rw[Yw hk1]at hs;rw[Yw E8]at hu;have l2:(us.take off).length=(cs.take off).length:=by simp[hl]
          by_cases hk2:k<(cs.take off).length
          · rw[Yw hk2]at hs;rw[Yw E9]at hu;rw[Xv]at hs hu;split at hs
            · rename_i hlt;rw[Yi hlt]at hu;exact hr k s u hs hu
            · cases hs
          · rw[Yy DP]at hs;rw[Yy DP,l2]at hu;exact c2 _ s u hs hu
        · rw[Yy DP]at hs;rw[Yy DP,ln]at hu;rw[YV]at hs hu;rw[hvl]at hu;exact hr _ s u hs hu
       exact keepS this
     · simp only[us',YL]at hu;rcases hu with(hu|hu)|hu
       · exact hone u (Xd hu)
       · exact hv1 u hu
       · exact hone u (YX hu)
   · rw[Yc e]at hi;exact(hI.heap.box i bx hi).keep (Box.rel_refl _) rfl DQ (fun c hc=>⟨hother c fun ec=>by subst ec;exact e (hI.heap.inj i j _ _ c hi hj hc hblk),(hI.heap.blk hi hc).1⟩) (fun c hc hok=>⟨hother c fun ec=>by subst ec;exact hok.2 j _ hj hblk,(okc c).2 hok⟩) fun s u s' hs es=>by subst es;exact keepS hs
 · have h2:=hsome i;rw[hi]at h2;have h3:=hsome k;rw[hk]at h3;obtain⟨x1,h4⟩:=Yv.1 h2.symm;obtain⟨x2,h5⟩:=Yv.1 h3.symm;exact hI.heap.inj i k _ _ c h4 h5 hbi hbk
 · subst e;exact hv j _ hj DQ hblk
 · have h2:=hsome i;rw[hi]at h2;obtain⟨x1,h4⟩:=Yv.1 h2.symm;exact hv i x1 h4 hK
end
def kl (j:Nat) (s:SV):SV:=bif s.noRef j then s else .junk
def klB (j:Nat) (b:Box):Box:=b.mapS (kl j)
def killF (j:Nat) (fr:List (Nat×SV)):List (Nat×SV):=fr.map fun p=>(p.1,kl j p.2)
def killO (j:Nat) (own:List (Nat×Box)):List (Nat×Box):=(del j own).map fun p=>(p.1,klB j p.2)
theorem lk_map {α β:Type} (f:α->β) (t:Nat):∀l:List (Nat×α),lk t (l.map fun p=>(p.1,f p.2))=(lk t l).map f
 |[]=>rfl
 |(k,x)::l=>by
  rw[Y2,qL,qL,lk_map f t l];split<;>rfl
theorem lk_killF (j t:Nat) (fr:List (Nat×SV)):lk t (killF j fr)=(lk t fr).map (kl j):=lk_map _ _ _
theorem lk_killO (j i:Nat) (own:List (Nat×Box)):lk i (killO j own)=if i=j then none else(lk i own).map (klB j):=by
 unfold killO;rw[lk_map,lk_del];split<;>rfl
theorem RelS.kl {ok:Nat->Prop} {H:Nat->Option Value} {w:World} {s:SV} {u:Value} (j:Nat) (h:RelS ok H w s u):RelS ok H w (kl j s) u:=by
 unfold Proofs.YtblgnefkgkchhaaGreatDoor.kl;cases s.noRef j with
 |true=>exact h
 |false=>exact .junk
theorem noRef_kl (j:Nat) (s:SV):(kl j s).noRef j=true:=by
 unfold kl;cases h:s.noRef j with
 |true=>exact h
 |false=>rfl
theorem qaF {i j:Nat} {s:SV} (h:(kl j s).noRef i=false):s.noRef i=false/\kl j s=s:=by
 unfold kl at*;cases h2:s.noRef j with
 |true=>rw[h2]at h;exact⟨h,rfl⟩
 |false=>rw[h2]at h;cases h
def srcL (st:St) (esz:Nat) (j:Option Nat):SV->Option (List (List PV))
 | .p (.sl z l)=>bif Nat.beq z esz then some l else none
 | .p (.v (.slice none 0 0))=>some []
 | .row k=>match j with
   |some j=>bif Nat.beq k j then none else(match lk k st.own with
    |some (.row _ z l)=>bif Nat.beq z esz then some l else none
    |_=>none)
   |none=>match lk k st.own with
    |some (.row _ z l)=>bif Nat.beq z esz then some l else none
    |_=>none
 |_=>none
theorem row_slat {B:Base} {Sx:Nat->Prop} {γ:Nat->Value} {own:List (Nat×Box)} {w:World} (h:HeapOk B Sx γ own w) {k:Nat} {e:TypeId} {z:Nat} {l:List (List PV)} (hk:lk k own=some (.row e z l)):
 ∃A c,γ k=.slice A l.length c/\l.length<=c/\(l.length<=reachBytes/\c<=maxLen)/\(∀e∈l,e.length=z/\∀s∈e,oneP s=true)/\SlAt (fun w cs y=>(∀u∈cs,u.oneCell'=true)/\rPV (okO Sx γ own) w cs y) z w A l:=by
 cases h.box k _ hk with
 |row hr he hm=>
  obtain⟨A,c,hv,hlc,hcm⟩:=hr.shape;refine⟨A,c,hv,hlc,⟨hm,hcm⟩,he,?_⟩;obtain⟨css,h1,h2,h3⟩:=hr;have h1':OwnF Subtype.val z w 0 e (.slice A css.length c) css:=by rw[h2,<-hv];exact h1
  have hs:=OwnF.slat (R:=fun _ cs (y:Cel z)=>cs=y.val) (fun x=>x.2.1) h1' (fun x _=>rfl);intro hl;obtain⟨b,o,hA,hlt,hc⟩:=hs DP;refine⟨b,o,hA,hlt,fun i hi=>?_⟩;obtain⟨cs,a1,a2,rfl⟩:=hc i DP;refine⟨_,a1,a2,(css[i]'DP).2.2,?_⟩;refine good_PV.weak _ _ _ _ _ (fun c _ hok=>⟨hok.1.1,fun j bx hj hjc=>?_⟩) (h3 i DP hi);by_cases e:j=k
  · subst e;refine hok.2 ?_;rw[hv]at hjc⊢;rw[<-hjc];cases A<;>rfl
  · exact hok.1.2 j bx hj e hjc
theorem srcL_ok {w0:Base} {Sx:Nat->Prop} {γ:Nat->Value} {st:St} {a:Act} {w:World} (hI:Sim w0 Sx γ st a w) {esz:Nat} {j:Option Nat} {x:Operand} {s:SV} (hx:evS st x=some s) {l:List (List PV)} (h:srcL st esz j s=some l):
 ∃A c,a.eval x=.slice A l.length c/\l.length<=reachBytes/\(∀e∈l,e.length=esz/\∀s∈e,oneP s=true)/\SlAt (fun w cs y=>(∀u∈cs,u.oneCell'=true)/\rPV (okO Sx γ st.own) w cs y) esz w A l:=by
 have hv:=qK hI hx
 have rowc:∀{k:Nat},s=.row k->(match lk k st.own with
  |some (.row _ z l)=>bif Nat.beq z esz then some l else none
  |_=>none)=some l->∃A c,a.eval x=.slice A l.length c/\l.length<=reachBytes/\(∀e∈l,e.length=esz/\∀s∈e,oneP s=true)/\SlAt (fun w cs y=>(∀u∈cs,u.oneCell'=true)/\rPV (okO Sx γ st.own) w cs y) esz w A l:=by
  intro k hs h0;clear h
  subst hs;split at h0
  · rename_i e z l' hk;cases hz:Nat.beq z esz with
    |false=>rw[hz]at h0;cases h0
    |true=>
     rw[hz]at h0;simp only[cond_true,Ye]at h0;subst h0;have e1:z=esz:=YK hz;subst e1;obtain⟨A,c,g1,g2,g3,g4,g5⟩:=row_slat hI.heap hk;generalize a.eval x=u at hv⊢;cases hv with
     |row hg=>rw[zb hk]at hg;cases hg;exact⟨A,c,g1,g3.1,g4,g5⟩
  · cases h0
 unfold srcL at h;split at h
 · rename_i z l';cases hz:Nat.beq z esz with
   |false=>rw[hz]at h;cases h
   |true=>
    rw[hz]at h;simp only[cond_true,Ye]at h;subst h;have e1:z=esz:=YK hz;subst e1;obtain⟨A,c,g1,g2,g3,g4,g5⟩:=hv.p_inv.slat;refine⟨A,c,g1,g3.1,g4,fun hl=>?_⟩;obtain⟨b,o,hA,hok,hlt,hc⟩:=g5 hl;refine⟨b,o,hA,hlt,fun i hi=>?_⟩;obtain⟨cs,a1,a2,a3⟩:=hc i hi;refine⟨cs,a1,a2,fun u hu=>?_,a3⟩;obtain⟨m,hm,rfl⟩:=List.mem_iff_getElem.1 hu;have hm':m<l'[i].length:=by rw[<-a3.1];exact hm
    rw[(a3.2 m l'[i][m] cs[m] (Yj hm') (Yj hm)).one];exact(g4 _ (Yn hi)).2 _ (Yn hm')
 · simp only[Ye]at h;subst h;rw[hv.v_inv];exact⟨none,0,rfl,Yl _,by simp,fun h=>absurd h DQ⟩
 · rename_i k;cases j with
   |none=>exact rowc rfl h
   |some j=>
    have h':(bif Nat.beq k j then none else(match lk k st.own with
     |some (.row _ z l)=>bif Nat.beq z esz then some l else none
     |_=>none))=some l:=h
    cases hz:Nat.beq k j with
    |true=>rw[hz]at h';cases h'
    |false=>rw[hz]at h';exact rowc rfl h'
 · cases h
section
variable {P:Program} {T:TT} (hT:zm P T) {st:St}
include hT
theorem act_append_nil {o:Oper} {sx xx:Operand} {t e:TypeId} {cl:Call} (ho:o.op=.call cl) (hcl:cl.callee=.builtin .append) (hargs:cl.args.toList=[sx,xx]) (hts:cl.argTypes.toList=[t,t]) {d:Nat} (hdst:o.dst=some d)
 {ti ei:TyI} (ht:lk t T=some ti) (hte:ti.d=.sl e) (he:lk e T=some ei) (hsz:Nat.blt 0 ei.size=true) (hz:Nat.beq ei.zero.length ei.size=true) (hs:evS st sx=some (.p (.v (.slice none 0 0))))
 {s2:SV} (hx:evS st xx=some s2) {l2:List (List PV)} (hl2:srcL st ei.size none s2=some l2) (hd:lk d st.own=none) (hn:Nat.blt d st.n=true) (hc:l2.length*ei.bytes<=140737488355328)
 {Q:St->Prop} (h:Q ⟨st.n,(d,.row d)::st.fr,(d,.row e ei.size l2)::st.own⟩):ActOk P [] o st Q:=by
 intro w0 Sx γ a w QQ hI;obtain⟨info,zv,hinf,hsize,hby,hzv,hzc⟩:=(hT e ei he).info;have hu:=(hT t ti ht).und;rw[hte]at hu;simp only[jV]at hu;have hpos:0<ei.size:=by simpa [Nat.blt,YJ]using hsz
 have hsv:=(qK hI hs).v_inv;obtain⟨A,c,g1,g2,g3,g4⟩:=srcL_ok hI hx hl2;have hown:RowO rPV ei.size (okO Sx γ st.own) w 0 e (.slice none 0 0) ([]:List (List PV)):=rowO_nil
 obtain⟨v',w',hrun,k1,k2,k3⟩:=wy (P:=P) good_PV t o.type 0 e info zv ei.bytes hu hinf hzv hsize hby (by rw[<-Yx,hzc];exact YK hz) hpos
  (.slice none 0 0) [] hown A c l2 (fun hl=>by
   obtain⟨b,o',hA,hlt,hx⟩:=g4 hl;refine⟨b,o',hA,hlt,fun i hi=>?_⟩;obtain⟨cs,a1,a2,a3,a4⟩:=hx i hi;exact⟨cs,a1,a2,a3,good_PV.weak _ _ _ _ _ (fun b _ hok=>⟨hok,by simp[Value.ownBlock]⟩) a4⟩)
  (by simp only[List.length_nil,Xk];unfold maxLen;unfold reachBytes at g2;omega) (by simpa using hc) (Yl _)
  ⟨fun hs=>by have:=hI.heap.sx.lt _ (hI.heap.sx.sub _ hs);omega,fun i bx hi hb=>by have:=(hI.heap.blk hi hb).2;omega⟩
 have hw:Below w.heap.size w w':=⟨k2.os,k2.tape,k2.output,k2.size,fun b hb=>k2.block b hb (by simp[Value.ownBlock])⟩;rw[Xe]at k1;have hblk:∀b,zg v'=some b->w.heap.size<=b:=fun b hb=>by
  obtain⟨A',c',hv',_⟩:=k1.shape;rw[hv']at hb k3;rw[jN]at hb;rcases k3 with k|k
  · rw[hb]at k;cases k
  · rw[hb]at k;cases k;exact Yk _
 have hrow:BoxOk w0 Sx (upd γ d v') ((d,.row e ei.size l2)::st.own) w' d (.row e ei.size l2):=by
  refine .row ?_ g3 g2 (fun b hb hk=>by rw[show upd γ d v' d=v' from Yi rfl]at hb;have:=hblk b hb;have:=hI.heap.sx.lt _ hk;omega);rw[show upd γ d v' d=v' from Yi rfl];refine k1.keep2 good_PV (Yk _) (fun _ _=>rfl) fun b _ hok _=>⟨rfl,hok.1,fun k bx hk hkd hkb=>?_⟩
  rw[qL,Yc hkd]at hk;simp only[upd,Yc hkd]at hkb;exact hok.2 k bx hk hkb
 have key:=hI.addBox hw hd hn (s:=.row d) (v:=v') hblk hrow (.row EO);have hargs':cl.args=#[sx,xx]:=by rw[<-Xc (xs:=cl.args),hargs]
 have hts':cl.argTypes=#[t,t]:=by rw[<-Xc (xs:=cl.argTypes),hts]
 unfold Oper.wp;have:(execOp a.eval o).run P w=.ok (.value v') w':=by
  exact GP
 refine R8 ?_;exact Ki
theorem qp {o:Oper} {sx xx:Operand} {t e:TypeId} {cl:Call} (ho:o.op=.call cl) (hcl:cl.callee=.builtin .append) (hargs:cl.args.toList=[sx,xx]) (hts:cl.argTypes.toList=[t,t]) {d:Nat} (hdst:o.dst=some d)
 {ti ei:TyI} (ht:lk t T=some ti) (hte:ti.d=.sl e) (he:lk e T=some ei) (hsz:Nat.blt 0 ei.size=true) (hz:Nat.beq ei.zero.length ei.size=true) {j:Nat} (hs:evS st sx=some (.row j)) {l:List (List PV)} (hj:lk j st.own=some (.row e ei.size l))
 {s2:SV} (hx:evS st xx=some s2) {l2:List (List PV)} (hl2:srcL st ei.size (some j) s2=some l2) (hd:lk d (killO j st.own)=none) (hn:Nat.blt d st.n=true) (hr:l.length+l2.length<=reachBytes) (hc:(l.length+l2.length)*ei.bytes<=140737488355328)
 {Q:St->Prop} (h:Q ⟨st.n,(d,.row d)::killF j st.fr,(d,.row e ei.size (l++l2))::killO j st.own⟩):ActOk P [j] o st Q:=by
 intro w0 Sx γ a w QQ hI;obtain⟨info,zv,hinf,hsize,hby,hzv,hzc⟩:=(hT e ei he).info;have hu:=(hT t ti ht).und;rw[hte]at hu;simp only[jV]at hu;have hpos:0<ei.size:=by simpa [Nat.blt,YJ]using hsz
 have hlt:d<st.n:=by simpa [Nat.blt,YJ]using hn
 have hsv:a.eval sx=γ j:=by
  have:=qK hI hs;generalize a.eval sx=u at this⊢;cases this with
  |row hg=>rw[zb hj]at hg;cases hg;rfl
 obtain⟨A,c,g1,g2,g3,g4⟩:=srcL_ok hI hx hl2;cases hI.heap.box j _ hj with
 |row hrow hel hml hkj=>
 have okR_of:∀b,okO Sx γ st.own b->okR (wE Sx γ st.own j) (γ j) b:=fun b hok=>⟨⟨hok.1,fun k bx hk _ hb=>hok.2 k bx hk hb⟩,fun hb=>by
  obtain⟨A',c',hv',_⟩:=hrow.shape;refine hok.2 j _ hj ?_;rw[hv']at hb⊢;rw[jN];exact hb.symm⟩
 obtain⟨v',w',hrun,k1,k2,k3⟩:=wy (P:=P) good_PV t o.type 0 e info zv ei.bytes hu hinf hzv hsize hby (by rw[<-Yx,hzc];exact YK hz) hpos
  (γ j) l hrow A c l2 (fun hl=>by
   obtain⟨b,o',hA,hlt,hx⟩:=g4 hl;refine⟨b,o',hA,hlt,fun i hi=>?_⟩;obtain⟨cs,a1,a2,a3,a4⟩:=hx i hi;exact⟨cs,a1,a2,a3,good_PV.weak _ _ _ _ _ (fun b _ hok=>okR_of b hok) a4⟩)
  (by unfold maxLen;unfold reachBytes at hr;omega) hc (Yl _)
  ⟨fun hs=>by have:=hI.heap.sx.lt _ (hI.heap.sx.sub _ hs);omega,fun i bx hi _ hb=>by have:=(hI.heap.blk hi hb).2;omega⟩
 have hoj:(γ j).ownBlock=zg (γ j):=by obtain⟨A',c',hv',_⟩:=hrow.shape;rw[hv',jN]
 have hov:v'.ownBlock=zg v':=by obtain⟨A',c',hv',_⟩:=k1.shape;rw[hv',jN]
 have hvb:∀b,zg v'=some b->zg (γ j)=some b\/b=w.heap.size:=fun b hb=>by
  rw[<-hov]at hb;rcases k3 with k|k
  · rw[hb,hoj]at k;exact Or.inl k.symm
  · rw[hb]at k;cases k;exact Or.inr rfl
 generalize hown':((d,Box.row e ei.size (l++l2))::killO j st.own)=own' at*;have lk':∀i,lk i own'=if i=d then some (.row e ei.size (l++l2))else if i=j then none else(lk i st.own).map (klB j):=fun i=>by
  rw[<-hown',qL,lk_killO]
 have old:∀{i bx},lk i own'=some bx->i≠d->i≠j/\∃by_,lk i st.own=some by_/\bx=klB j by_:=fun{i bx} hi hid=>by
  rw[lk',Yc hid]at hi;by_cases e:i=j
  · rw[Yi e]at hi;cases hi
  · rw[Yc e]at hi;cases h2:lk i st.own with
    |none=>rw[h2]at hi;cases hi
    |some by_=>rw[h2]at hi;cases hi;exact⟨e,by_,rfl,rfl⟩
 have hud:upd γ d v' d=v':=Yi rfl;have huo:∀i,i≠d->upd γ d v' i=γ i:=fun i hi=>Yc hi
 have same:∀b,b<w.heap.size->zg (γ j)≠some b->w'.heap[b]?=w.heap[b]?:=fun b hb hne=>k2.block b hb (by rw[hoj];exact fun e=>hne e.symm)
 have okn:∀b,b<w.heap.size->okO Sx γ st.own b->okO Sx (upd γ d v') own' b:=fun b hb hok=>⟨hok.1,fun i bx hi hib=>by
  by_cases e:i=d
  · subst e;rw[hud]at hib;rcases hvb b hib with h|h
    · exact hok.2 j _ hj h
    · omega
  · obtain⟨_,by_,h2,_⟩:=old hi e;rw[huo i e]at hib;exact hok.2 i by_ h2 hib⟩
 have keepS:∀{s:SV} {u:Value},RelS (okO Sx γ st.own) (hp γ st.own) w s u->RelS (okO Sx (upd γ d v') own') (hp (upd γ d v') own') w' (kl j s) u:=fun{s u} h=>by
  have h1:=h.kl j;refine h1.keep2 k2.size (fun b hb hok=>⟨same b hb fun e=>hok.2 j _ hj e,okn b hb hok⟩) fun i hi=>?_
  have hij:i≠j:=fun e=>by subst e;rw[noRef_kl]at hi;cases hi
  have hs:=qaF hi;have hlive:(lk i st.own).isSome=true:=by
   cases h2:lk i st.own with
   |some _=>rfl
   |none=>rw[h.live (jO h2)]at hs;cases hs.1
  obtain⟨by_,h2⟩:=Yv.1 hlive;have hid:i≠d:=fun e=>by
   subst e;rw[lk_killO,Yc hij,h2]at hd;cases hd
  exact G6
 have hbel:BelowB w0 w':=hI.below.step ⟨k2.os,k2.tape,k2.output,k2.size,fun b hb=>absurd hb (Nat.not_lt_zero _)⟩ fun b hb=>same b (hI.heap.sx.lt b hb) fun e=>hkj b e hb
 have hdl:d<1000000:=by have:=hI.size.2;omega
 have hst:Stays w0 Sx (upd γ d v') own' w':=hI.heap.sx.keep k2.size fun i bx hi=>by
  by_cases e:i=d
  · exact Or.inl DP
  · obtain⟨_,by_,h2,_⟩:=old hi e;exact Or.inr ⟨huo i e,by rw[h2];rfl⟩
 have hheap:HeapOk w0 Sx (upd γ d v') own' w':=by
  refine⟨fun i bx hi=>?_,fun i k bi bk b hi hk hbi hbk=>?_,hst⟩
  · by_cases e:i=d
    · subst e;rw[lk',Yi rfl]at hi;cases hi;refine .row ?_ (fun x hx=>?_) (by rw[Ya];exact hr) (fun b hb hk=>by rw[hud]at hb;rcases hvb b hb with h|h;exact hkj b h hk;have:=hI.heap.sx.lt _ hk;omega)
      · rw[hud];refine k1.keep2 good_PV (Yk _) (fun _ _=>rfl) fun b _ hok _=>⟨rfl,hok.1,fun k bx hk hkd hkb=>?_⟩
        obtain⟨hkj,by_,h2,_⟩:=old hk hkd;rw[huo k hkd]at hkb;exact hok.2 k by_ h2 hkj hkb
      · rcases YL.1 hx with hx|hx
        · exact hel x hx
        · exact g3 x hx
    · obtain⟨hij,by_,h2,rfl⟩:=old hi e;exact(hI.heap.box i by_ h2).keep (Box.rel_map (kl j) (fun _=>rfl) by_) (huo i e) k2.size (fun b hb=>⟨same b (hI.heap.blk h2 hb).2 fun ej=>hij (hI.heap.inj i j _ _ b h2 hj hb ej),(hI.heap.blk h2 hb).1⟩) (fun b hb hok=>⟨same b hb fun ej=>hok.2 j _ hj ej,okn b hb hok⟩) fun s u s' hs es=>by subst es;exact keepS hs
  · have blt:∀{m bm},lk m own'=some bm->m≠d->zg (upd γ d v' m)=some b->m≠j/\b<w.heap.size/\∃b0,lk m st.own=some b0/\zg (γ m)=some b:=fun{m bm} hm hmd hmb=>by
     obtain⟨h1,by_,h2,_⟩:=old hm hmd;rw[huo m hmd]at hmb;exact⟨h1,(hI.heap.blk h2 hmb).2,by_,h2,hmb⟩
    by_cases e:i=d
    · by_cases e2:k=d
      · rw[e,e2]
      · exfalso;obtain⟨q1,q2,b0,q3,q4⟩:=blt hk e2 hbk;subst e;rw[hud]at hbi;rcases hvb b hbi with h|h
        · exact q1 (hI.heap.inj k j _ _ b q3 hj q4 h)
        · omega
    · obtain⟨p1,p2,c0,p3,p4⟩:=blt hi e hbi;by_cases e2:k=d
      · exfalso;subst e2;rw[hud]at hbk;rcases hvb b hbk with h|h
        · exact p1 (hI.heap.inj i j _ _ b p3 hj p4 h)
        · omega
      · obtain⟨q1,q2,b0,q3,q4⟩:=blt hk e2 hbk;exact hI.heap.inj i k _ _ b p3 q3 p4 q4
 have hS:Sim w0 Sx (upd γ d v') ⟨st.n,killF j st.fr,own'⟩ a w':=⟨hbel,hI.size,hI.defers,fun t s ht=>by
  have ht':(lk t st.fr).map (kl j)=some s:=by rw[<-lk_killF];exact ht
  cases h2:lk t st.fr with
  |none=>rw[h2]at ht';cases ht'
  |some s0=>rw[h2]at ht';cases ht';exact keepS (hI.fr t s0 h2),hheap⟩
 have hS2:=hS.put (dst:=some d) (s:=.row d) (v:=v') (by simpa [jW,Nat.blt,YJ]using hlt) (.row (by rw[zb (bx:=.row e ei.size (l++l2)) (by rw[lk',Yi rfl]),hud]));have hargs':cl.args=#[sx,xx]:=by rw[<-Xc (xs:=cl.args),hargs]
 have hts':cl.argTypes=#[t,t]:=by rw[<-Xc (xs:=cl.argTypes),hts]
 unfold Oper.wp;have:(execOp a.eval o).run P w=.ok (.value v') w':=by
  exact GP
 refine R8 ?_;refine⟨_,_,h,hS2,⟨k2.size,fun b hb hv=>same b hb fun ej=>hv j _ hj DQ ej⟩,fun K hK b hb hv i bx hi hiK hib=>?_⟩;by_cases e:i=d
 · subst e;rw[hud]at hib;rcases hvb b hib with h|h
   · exact hv j _ hj EH h
   · omega
 · obtain⟨_,by_,h2,_⟩:=old hi e;rw[huo i e]at hib;exact hv i by_ h2 hiK hib
end
def Callable (P:Program) (f:FuncId):Prop:=∃fn,P.funcs[f]?=some fn∧(fn.name== "runtime.NumGoroutine")=false∧fn.body.isNone=false
def entry (w:World):Base:=⟨w,fun b=>b<w.heap.size,fun _=>none⟩
def EnOk (w:World) (Sx:Nat->Prop):Prop:=(∀b,Sx b->b<w.heap.size)/\GlOk (entry w) Sx
def Holds (P:Program) (f:FuncId) (args:List PV) (r:SV) (own:List (Nat×Box)):Prop:=Callable P f/\
 ∀(w:World) (Sx:Nat->Prop) (vs:List Value),EnOk w Sx->vs.length=args.length->(∀(i:Nat) (s:PV) (u:Value),args[i]?=some s->vs[i]?=some u->RelP (fun b=>¬Sx b) w s u)->
  Calls P f vs.toArray w fun e w'=>∃v γ,e=.returned v/\Below w.heap.size w w'/\HeapOk (entry w) Sx γ own w'/\RelS (okO Sx γ own) (hp γ own) w' r v
def argP1 (st:St):SV->Option (PV×List Nat)
 | .p x=>some (x,[])
 | .row k=>match lk k st.own with
   |some (.row _ z l)=>some (.sl z l,[k])
   |_=>none
 | .ptr j off=>match lk j st.own with
   |some (.cells cs)=>match pures cs with
    |some ps=>some (.rp (ps.drop off),[j])
    |none=>none
   |_=>none
 | .view k z lo hi=>match lk k st.own with
   |some (.row _ z' l)=>bif Nat.beq z z' then some (.sl z ((l.drop lo).take (hi-lo)),[k])else none
   |_=>none
 |_=>none
def argP1s (st:St):List SV->Option (List PV×List Nat)
 |[]=>some ([],[])
 |s::r=>match argP1 st s with
  |some (p,i)=>match argP1s st r with
   |some (ps,is)=>some (p::ps,i++is)
   |none=>none
  |none=>none
def argP (st:St):SV->Option (PV×List Nat)
 | .fn f caps=>match argP1s st caps with
   |some (ps,is)=>some (.fn f ps,is)
   |none=>none
 |s=>argP1 st s
def argPs (st:St):List Operand->Option (List PV×List Nat)
 |[]=>some ([],[])
 |x::r=>match evS st x with
  |some s=>match argP st s with
   |some (p,i)=>match argPs st r with
    |some (ps,is)=>some (p::ps,i++is)
    |none=>none
   |none=>none
  |none=>none
def qaX (Sx:Nat->Prop) (γ:Nat->Value) (own:List (Nat×Box)) (ids:List Nat) (b:Nat):Prop:=Sx b\/∃i bx,lk i own=some bx/\i∉ids/\zg (γ i)=some b
section
variable {w0:Base} {Sx:Nat->Prop} {γ:Nat->Value} {st:St} {a:Act} {w:World} (hI:Sim w0 Sx γ st a w)
include hI
theorem wZ {s:SV} {u:Value} (h:RelS (okO Sx γ st.own) (hp γ st.own) w s u) {p:PV} {ids:List Nat} (hp':argP1 st s=some (p,ids)):RelP (fun b=>¬qaX Sx γ st.own ids b) w p u:=by
 have pl:∀{ids:List Nat} {x:PV} {u:Value},RelP (okO Sx γ st.own) w x u->RelP (fun b=>¬qaX Sx γ st.own ids b) w x u:=fun h=>h.weak fun b _ hok hl=>by
  rcases hl with hl|⟨i,bx,h1,_,h2⟩
  · exact hok.1 hl
  · exact hok.2 i bx h1 h2
 have lent:∀{k:Nat} {bx:Box} {b:Nat},lk k st.own=some bx->zg (γ k)=some b->¬qaX Sx γ st.own [k] b:=fun{k bx b} hk hb hl=>by
  rcases hl with hl|⟨i,by_,h1,h2,h3⟩
  · exact hI.heap.nsx hk hb hl
  · exact h2 (by rw[hI.heap.inj i k _ _ b h1 hk h3 hb];simp)
 unfold argP1 at hp';split at hp'
 · simp only[Ye,Yt]at hp';obtain⟨rfl,rfl⟩:=hp';exact pl h.p_inv
 · rename_i k;split at hp'
   · rename_i e z l hk;simp only[Ye,Yt]at hp';obtain⟨rfl,rfl⟩:=hp';obtain⟨A,c,g1,g2,g3,g4,g5⟩:=row_slat hI.heap hk;cases h with
     |row hg=>
      rw[zb hk,g1]at hg;cases hg;refine .of_slat g2 g3 g4 fun hl=>?_
      obtain⟨b,o,rfl,hlt,hc⟩:=g5 hl;refine⟨b,o,rfl,lent hk (by rw[g1];rfl),hlt,fun i hi=>?_⟩;obtain⟨cs,a1,a2,_,a4⟩:=hc i hi;exact⟨cs,a1,a2,a4.1,fun j s u hs hu=>pl (a4.2 j s u hs hu)⟩
   · cases hp'
 · rename_i j off;split at hp'
   · rename_i cs hj;split at hp'
     · rename_i ps hps;simp only[Ye,Yt]at hp';obtain⟨rfl,rfl⟩:=hp';obtain⟨q1,q2⟩:=pures_get hps;cases hI.heap.box j _ hj with
       |@cells _ us ty b hg hB hh hl hr h1=>
        rw[h.ptr_inv (by rw[zb hj,hg])];have hcell:∀k,w.cell? ⟨b,k,none⟩=us[k]?:=fun k=>by unfold World.cell?;rw[hh];simp
        refine .rp (lent hj DD) (lt_of_block hh) (fun k hk=>?_) (fun k s u hs hu=>?_)
        · rw[hcell];simp only[Yo]at hk;exact⟨us[off+k]'DP,Yj _⟩
        · rw[hcell]at hu;refine pl ((hr (off+k) (.p s) u ?_ hu).p_inv);rw[q2];rw[YV]at hs;rw[hs];rfl
     · cases hp'
   · cases hp'
 · rename_i k z lo hi;split at hp'
   · rename_i e z' l hk;cases hz:Nat.beq z z' with
     |false=>rw[hz]at hp';cases hp'
     |true=>
      rw[hz]at hp';simp only[cond_true,Ye,Yt]at hp';obtain⟨rfl,rfl⟩:=hp';have hzz:z=z':=YK hz;subst hzz;obtain⟨A,c,g1,g2,g3,g4,g5⟩:=row_slat hI.heap hk;cases h with
      |@view _ _ _ _ n c2 A2 A' hg h1 h2 h3 h4=>
       rw[zb hk,g1]at hg;cases hg;have hlen:((l.drop lo).take (hi-lo)).length=hi-lo:=by simp;omega
       have key:RelP (fun b=>¬qaX Sx γ st.own [k] b) w (.sl z ((l.drop lo).take (hi-lo))) (.slice A' ((l.drop lo).take (hi-lo)).length (c-lo)):=by
        refine .of_slat (by rw[hlen];omega) ⟨by rw[hlen];omega,by omega⟩ (fun e he=>g4 e (YX (Xd he))) fun hl=>?_
        rw[hlen]at hl;obtain⟨b,o,rfl,hlt,hc⟩:=g5 DP;refine⟨b,o+lo*z,?_,lent hk (by rw[g1];rfl),hlt,fun i hi'=>?_⟩
        · rw[h4 (Or.inl DP)];simp[we]
        · rw[hlen]at hi';obtain⟨cs,a1,a2,_,a4⟩:=hc (lo+i) DP;refine⟨cs,a1,?_,?_⟩
          · rw[Nat.add_assoc,<-Nat.add_mul];exact a2
          · have e1:((l.drop lo).take (hi-lo))[i]'DP=l[lo+i]'DP:=by simp
            rw[e1];exact⟨a4.1,fun j s u hs hu=>pl (a4.2 j s u hs hu)⟩
       rw[hlen]at key;exact key
   · cases hp'
 · cases hp'
omit hI in
theorem lentX_mono {ids ids':List Nat} (hs:∀i∈ids,i∈ids') {p:PV} {u:Value} (h:RelP (fun b=>¬qaX Sx γ st.own ids b) w p u):RelP (fun b=>¬qaX Sx γ st.own ids' b) w p u:=
 h.weak fun b _ hn hl=>hn (by
  rcases hl with hl|⟨i,bx,h1,h2,h3⟩
  · exact Or.inl hl
  · exact Or.inr ⟨i,bx,h1,fun hi=>h2 (hs i hi),h3⟩)
theorem argP1s_ok:∀{cs:List SV} {us:List Value},us.length=cs.length->(∀(i:Nat) (s:SV) (u:Value),cs[i]?=some s->us[i]?=some u->RelS (okO Sx γ st.own) (hp γ st.own) w s u)->∀{ps:List PV} {ids:List Nat},argP1s st cs=some (ps,ids)->
 us.length=ps.length/\∀(i:Nat) (p:PV) (u:Value),ps[i]?=some p->us[i]?=some u->RelP (fun b=>¬qaX Sx γ st.own ids b) w p u
 |[],us,hl,_,ps,ids,h=>by simp only[argP1s,Ye,Yt]at h;obtain⟨rfl,rfl⟩:=h;exact⟨hl,by simp⟩
 |c::cs,us,hl,hr,ps,ids,h=>by
  cases us with
  |nil=>simp at hl
  |cons u us=>
   unfold argP1s at h;split at h
   · rename_i p i hp1;split at h
     · rename_i ps' is hps;simp only[Ye,Yt]at h;obtain⟨rfl,rfl⟩:=h;obtain⟨k1,k2⟩:=argP1s_ok Dk (fun i s u hs hu=>hr (i+1) s u (by simpa using hs) Dj) hps;refine⟨by simp[k1],fun j q v hq hv=>?_⟩;cases j with
       |zero=>
        simp at hq hv;subst hq;subst hv;exact lentX_mono (fun i hi=>List.mem_append_left _ hi) (wZ hI (hr 0 c u rfl rfl) hp1)
       |succ j=>exact lentX_mono (fun i hi=>List.mem_append_right _ hi) (k2 j q v (by simpa using hq) (by simpa using hv))
     · cases h
   · cases h
theorem argP_ok {s:SV} {u:Value} (h:RelS (okO Sx γ st.own) (hp γ st.own) w s u) {p:PV} {ids:List Nat} (hp':argP st s=some (p,ids)):RelP (fun b=>¬qaX Sx γ st.own ids b) w p u:=by
 cases s with
 |fn f caps=>
  unfold argP at hp';simp only at hp';split at hp'
  · rename_i ps is hps;simp only[Ye,Yt]at hp';obtain⟨rfl,rfl⟩:=hp';cases h with
    |fn hl hr=>
     obtain⟨k1,k2⟩:=argP1s_ok hI hl hr hps;exact .fn k1 k2
  · cases hp'
 |p x=>exact wZ hI h hp'
 |agg cs=>exact wZ hI h hp'
 |tup cs=>exact wZ hI h hp'
 |row k=>exact wZ hI h hp'
 |ptr j o=>exact wZ hI h hp'
 |eptr j z k o=>exact wZ hI h hp'
 |view j z k o=>exact wZ hI h hp'
 |junk=>exact wZ hI h hp'
theorem argPs_ok:∀{xs:List Operand} {ps:List PV} {ids:List Nat},argPs st xs=some (ps,ids)->xs.length=ps.length/\∀(i:Nat) (p:PV) (u:Value),ps[i]?=some p->(xs.map a.eval)[i]?=some u->RelP (fun b=>¬qaX Sx γ st.own ids b) w p u
 |[],ps,ids,h=>by simp only[argPs,Ye,Yt]at h;obtain⟨rfl,rfl⟩:=h;simp
 |x::xs,ps,ids,h=>by
  unfold argPs at h;split at h
  · rename_i s hs;split at h
    · rename_i p i hp1;split at h
      · rename_i ps' is hps;simp only[Ye,Yt]at h;obtain⟨rfl,rfl⟩:=h;obtain⟨k1,k2⟩:=argPs_ok hps;refine⟨by simp[k1],fun j q v hq hv=>?_⟩;cases j with
        |zero=>
         simp at hq hv;subst hq;subst hv;exact lentX_mono (fun i hi=>List.mem_append_left _ hi) (argP_ok hI (qK hI hs) hp1)
        |succ j=>exact lentX_mono (fun i hi=>List.mem_append_right _ hi) (k2 j q v (by simpa using hq) (by simpa using hv))
      · cases h
    · cases h
  · cases h
end
mutual
def SV.ren (k:Nat):SV->SV
 | .p x=>.p x
 | .agg cs=>.agg (rens k cs)
 | .tup cs=>.tup (rens k cs)
 | .fn f cs=>.fn f (rens k cs)
 | .row i=>.row (k+i)
 | .ptr i o=>.ptr (k+i) o
 | .eptr i z j o=>.eptr (k+i) z j o
 | .view i z lo hi=>.view (k+i) z lo hi
 | .junk=>.junk
def rens (k:Nat):List SV->List SV
 |[]=>[]
 |s::r=>s.ren k::rens k r
end
theorem rens_eq (k:Nat):∀cs:List SV,rens k cs=cs.map (SV.ren k)
 |[]=>rfl
 |s::r=>by rw[rens,rens_eq k r];rfl
theorem RelS.ren {ok ok':Nat->Prop} {H H':Nat->Option Value} {w:World} {k:Nat} (hok:∀b,b<w.heap.size->ok b->ok' b) (hH:∀i u,H i=some u->H' (k+i)=some u) {s:SV} {u:Value} (h:RelS ok H w s u):RelS ok' H' w (s.ren k) u:=by
 induction h with
 |p h=>exact .p (h.weak hok)
 |agg hl h ih=>
  rw[SV.ren,rens_eq];refine .agg Dk fun i s u hs hu=>?_
  rw[YH]at hs;obtain⟨s0,h0,rfl⟩:=YP.1 hs;exact ih i s0 u h0 hu
 |tup hl h ih=>
  rw[SV.ren,rens_eq];refine .tup Dk fun i s u hs hu=>?_
  rw[YH]at hs;obtain⟨s0,h0,rfl⟩:=YP.1 hs;exact ih i s0 u h0 hu
 |fn hl h ih=>
  rw[SV.ren,rens_eq];refine .fn Dk fun i s u hs hu=>?_
  rw[YH]at hs;obtain⟨s0,h0,rfl⟩:=YP.1 hs;exact ih i s0 u h0 hu
 |junk=>exact .junk
 |row h=>exact .row (hH _ _ h)
 |ptr h hb=>exact .ptr (hH _ _ h) hb
 |eptr h hb=>exact .eptr (hH _ _ h) hb
 |view h h1 h2 h3 h4=>exact .view (hH _ _ h) h1 h2 h3 h4
def renB (k:Nat) (b:Box):Box:=b.mapS (SV.ren k)
def renO (k:Nat) (own:List (Nat×Box)):List (Nat×Box):=own.map fun p=>(k+p.1,renB k p.2)
theorem lk_renO (k i:Nat):∀own:List (Nat×Box),lk (k+i) (renO k own)=(lk i own).map (renB k)
 |[]=>rfl
 |(j,b)::r=>by
  have:=lk_renO k i r;unfold renO at this⊢;rw[Y2,qL,qL,this];by_cases e:i=j
  · subst e;simp
  · rw[Yc DE,Yc e]
theorem lk_renO_low (k i:Nat) (h:i<k):∀own:List (Nat×Box),lk i (renO k own)=none
 |[]=>rfl
 |(j,b)::r=>by
  have:=lk_renO_low k i h r;unfold renO at this⊢;rw[Y2,qL,this,Yc DE]
theorem lk_append {α:Type} (t:Nat):∀(l r:List (Nat×α)),lk t (l++r)=match lk t l with|some x=>some x|none=>lk t r
 |[],r=>rfl
 |(k,x)::l,r=>by
  rw[Y5,qL,qL,lk_append t l r];by_cases e:t=k
  · simp[e]
  · simp[e]
def flatP:PV->Bool
 | .v _=>true
 | .agg cs=>cs.all fun c=>match c with| .v _=>true|_=>false
 |_=>false
def flatS:SV->Bool
 | .p x=>flatP x
 | .tup cs=>cs.all fun c=>match c with| .p x=>flatP x|_=>false
 |_=>false
theorem RelP.flat {ok ok':Nat->Prop} {w w':World} {x:PV} {u:Value} (h:RelP ok w x u) (hf:flatP x=true):RelP ok' w' x u:=by
 cases h with
 |v h=>exact .v h
 |@agg cs us hl h=>
  refine .agg hl fun i s u hs hu=>?_
  have:=YE.1 hf s (YI hs);have h2:=h i s u hs hu;cases s with
  |v x=>cases h2 with|v h=>exact .v h
  |_=>cases this
 |sl=>cases hf
 |rp=>cases hf
 |fn=>cases hf
theorem RelS.flat {ok ok':Nat->Prop} {H H':Nat->Option Value} {w w':World} {x:SV} {u:Value} (h:RelS ok H w x u) (hf:flatS x=true):RelS ok' H' w' x u:=by
 cases h with
 |p h=>exact .p (h.flat hf)
 |@tup cs us hl h=>
  refine .tup hl fun i s u hs hu=>?_
  have:=YE.1 hf s (YI hs);have h2:=h i s u hs hu;cases s with
  |p x=>cases h2 with|p h=>exact .p (h.flat this)
  |_=>cases this
 |_=>cases hf
theorem lentX_nil {Sx:Nat->Prop} {γ:Nat->Value} {own:List (Nat×Box)} {b:Nat}:¬qaX Sx γ own [] b↔okO Sx γ own b:=by
 refine⟨fun h=>⟨fun hs=>h (Or.inl hs),fun i bx hi hb=>h (Or.inr ⟨i,bx,hi,by simp,hb⟩)⟩,fun h hl=>?_⟩;rcases hl with hl|⟨i,bx,h1,_,h2⟩
 · exact h.1 hl
 · exact h.2 i bx h1 h2
section
variable {P:Program} {st:St}
theorem lentX_en {w0:Base} {Sx:Nat->Prop} {γ:Nat->Value} {a:Act} {w:World} (hI:Sim w0 Sx γ st a w) (ids:List Nat):EnOk w (qaX Sx γ st.own ids):=by
 refine⟨fun b hb=>?_,fun g us hg=>?_,fun g hg=>?_⟩
 · rcases hb with hb|⟨i,bx,h1,_,h2⟩
   · exact hI.heap.sx.lt b (hI.heap.sx.sub b hb)
   · exact(hI.heap.blk h1 h2).2
 · obtain⟨h1,h2,h3⟩:=hI.heap.sx.gl.1 g us hg;obtain⟨ty,m,h3⟩:=h3;refine⟨hI.heap.sx.lt g h1,fun hx=>?_,ty,m,(hI.below.2 g h1).trans h3⟩;rcases hx with hx|⟨i,bx,q1,_,q2⟩
   · exact h2 hx
   · exact blk_kp hI.heap q1 q2 h1
 · obtain⟨h1,h2,h3⟩:=hI.heap.sx.gl.2 g hg;obtain⟨ev,ty,m,h3,h4⟩:=h3;refine⟨hI.heap.sx.lt g h1,fun hx=>?_,ev,ty,m,(hI.below.2 g h1).trans h3,h4⟩;rcases hx with hx|⟨i,bx,q1,_,q2⟩
   · exact h2 hx
   · exact blk_kp hI.heap q1 q2 h1
theorem call_run {w0:Base} {Sx:Nat->Prop} {γ:Nat->Value} {a:Act} {w:World} {QQ:Exit->Act->World->Prop} {K:Act->World->Prop} (hI:Sim w0 Sx γ st a w) {o:Oper} {cl:Call} {fo:Operand} {f:FuncId} {caps:List PV} {ps:List PV} {ids:List Nat} {r:SV} {own':List (Nat×Box)}
 (ho:o.op=.call cl) (hcl:cl.callee=.value fo) (hfo:evS st fo=some (.p (.fn f caps))) (hargs:argPs st cl.args.toList=some (ps,ids)) (H:Holds P f (ps++caps) r own')
 (h:∀v γ1 w',Below w.heap.size w w'->HeapOk (entry w) (qaX Sx γ st.own ids) γ1 own' w'->RelS (okO (qaX Sx γ st.own ids) γ1 own') (hp γ1 own') w' r v->K (a.put o.dst v) w'):o.wp P a w K QQ:=by
 obtain⟨⟨fn,hfn,hname,hbody⟩,H⟩:=H;obtain⟨k1,k2⟩:=argPs_ok hI hargs;have hf:=(qK hI hfo).p_inv;generalize hfv:a.eval fo=u at hf;cases hf with
 |@fn _ _ us hl hr=>
 have hlt:=lentX_en hI ids;have hc:=H w (qaX Sx γ st.own ids) (cl.args.toList.map a.eval++us) hlt EQ fun i s v hs hv=>by
  by_cases hi:i<ps.length
  · rw[Yw hi]at hs;rw[Yw EZ]at hv;exact k2 i s v hs hv
  · rw[Yy DP]at hs;rw[Yy Da,Yb,k1]at hv;exact(hr _ s v hs hv).weak fun b _ hok hl=>by
     rcases hl with hl|⟨i,bx,h1,_,h2⟩
     · exact hok.1 hl
     · exact hok.2 i bx h1 h2
 unfold Oper.wp;have hrun:(execOp a.eval o).run P w=.ok (.enter f (cl.args.toList.map a.eval++us).toArray) w:=by
  have e:(cl.args.toList.map a.eval++us).toArray=cl.args.map a.eval++us.toArray:=by
   apply Xw.1;simp
  rw[e];have:=qav hfn hname hbody (cl.args.map a.eval++us.toArray) w;exact Um
 rw[hrun,Oper.upon_enter];refine hc.mono fun e w' he=>?_
 obtain⟨v,γ1,rfl,h1,h2,h3⟩:=he;exact h v γ1 w' h1 h2 h3
theorem act_call_flat {o:Oper} {cl:Call} {fo:Operand} {f:FuncId} {caps:List PV} {ps:List PV} {ids:List Nat} {r:SV} (ho:o.op=.call cl) (hcl:cl.callee=.value fo) (hfo:evS st fo=some (.p (.fn f caps))) (hargs:argPs st cl.args.toList=some (ps,ids))
 (H:Holds P f (ps++caps) r []) (hd:jW st o.dst=true) (hfl:flatS r=true) {Q:St->Prop} (h:Q (st.put o.dst r)):ActOk P [] o st Q:=by
 intro w0 Sx γ a w QQ hI;refine call_run hI ho hcl hfo hargs H fun v γ1 w' hb _ hr=>?_
 have hI':Sim w0 Sx γ st a w':=by
  refine⟨hI.below.grow hI.heap.sx hb,hI.size,hI.defers,fun t s ht=>(hI.fr t s ht).keep2 hb.size (fun b hlt hok=>⟨hb.block b hlt,hok⟩) fun _ _=>rfl,⟨fun i bx hi=>?_,hI.heap.inj,hI.heap.sx.grow hb.size⟩⟩;exact(hI.heap.box i bx hi).keep (Box.rel_refl _) rfl hb.size (fun b hb'=>⟨hb.block b (hI.heap.blk hi hb').2,(hI.heap.blk hi hb').1⟩) (fun b hlt hok=>⟨hb.block b hlt,hok⟩) fun s u s' hs es=>by subst es;exact hs.keep2 hb.size (fun b hlt hok=>⟨hb.block b hlt,hok⟩) fun _ _=>rfl
 refine⟨γ,_,h,hI'.put hd (hr.flat hfl),⟨hb.size,fun b hlt _=>hb.block b hlt⟩,fun K _ b _ hv=>?_⟩;have:(st.put o.dst r).own=st.own:=by cases o.dst<;>rfl
 rw[this];exact hv
theorem qt {o:Oper} {cl:Call} {fo:Operand} {f:FuncId} {caps:List PV} {ps:List PV} {r:SV} {own':List (Nat×Box)} {d:Nat} (ho:o.op=.call cl) (hcl:cl.callee=.value fo) (hfo:evS st fo=some (.p (.fn f caps))) (hargs:argPs st cl.args.toList=some (ps,[]))
 (H:Holds P f (ps++caps) r own') (hdst:o.dst=some d) (hn:Nat.blt d st.n=true) (hfr:own'.all (fun p=>(lk (1000*(d+1)+p.1) st.own).isNone&&Nat.blt p.1 1000)=true)
 {Q:St->Prop} (h:Q ⟨st.n,(d,r.ren (1000*(d+1)))::st.fr,renO (1000*(d+1)) own'++st.own⟩):ActOk P [] o st Q:=by
 intro w0 Sx γ a w QQ hI;refine call_run hI ho hcl hfo hargs H fun v γ1 w' hb hh hr=>?_
 generalize hk:1000*(d+1)=k at*;have hok:∀b,okO (qaX Sx γ st.own []) γ1 own' b->okO Sx γ st.own b:=fun b hok=>lentX_nil.1 hok.1
 let γ2:Nat->Value:=fun i=>match lk i (renO k own')with|some _=>γ1 (i-k)|none=>γ i
 have new_of:∀{i bx},lk i (renO k own')=some bx->∃i0 b0,i=k+i0/\lk i0 own'=some b0/\bx=renB k b0/\lk i st.own=none/\γ2 i=γ1 i0:=fun{i bx} hi=>by
  have hge:k<=i:=by
   rcases Nat.lt_or_ge i k with h|h
   · rw[lk_renO_low k i h]at hi;cases hi
   · exact h
  obtain⟨i0,rfl⟩:∃i0,i=k+i0:=⟨i-k,by omega⟩;have hi2:=hi;rw[lk_renO]at hi;obtain⟨b0,h0,rfl⟩:=YP.1 hi;have mem:∀{l:List (Nat×Box)} {i:Nat} {b:Box},lk i l=some b->(i,b)∈l:=by
   intro l
   induction l with
   |nil=>intro i b h;cases h
   |cons p l ih=>
    intro i b h;obtain⟨j,c⟩:=p;rw[qL]at h;by_cases e:i=j
    · rw[Yi e]at h;cases h;subst e;exact List.mem_cons_self
    · rw[Yc e]at h;exact Y3 _ (ih h)
  have hnone:=YE.1 hfr _ (mem h0);simp only[Yp]at hnone;refine⟨i0,b0,rfl,h0,rfl,Option.isNone_iff_eq_none.1 hnone.1,?_⟩;show(match lk (k+i0) (renO k own')with|some _=>γ1 (k+i0-k)|none=>γ (k+i0))=γ1 i0;rw[hi2];simp
 have old_of:∀{i},lk i (renO k own')=none->γ2 i=γ i:=fun{i} hi=>by
  show(match lk i (renO k own')with|some _=>γ1 (i-k)|none=>γ i)=γ i;rw[hi]
 have lk2:∀i,lk i (renO k own'++st.own)=match lk i (renO k own')with|some x=>some x|none=>lk i st.own:=fun i=>by rw[lk_append];cases lk i (renO k own')<;>rfl
 have split:∀{i bx},lk i (renO k own'++st.own)=some bx->(∃i0 b0,i=k+i0/\lk i0 own'=some b0/\bx=renB k b0/\lk i st.own=none/\γ2 i=γ1 i0)\/(lk i st.own=some bx/\γ2 i=γ i):=fun{i bx} hi=>by
  rw[lk2]at hi;cases h1:lk i (renO k own')with
  |some x=>rw[h1]at hi;cases hi;exact Or.inl (new_of h1)
  |none=>rw[h1]at hi;exact Or.inr ⟨hi,old_of h1⟩
 have oldlive:∀{i bx},lk i st.own=some bx->lk i (renO k own'++st.own)=some bx/\γ2 i=γ i:=fun{i bx} hi=>by
  cases h1:lk i (renO k own')with
  |some x=>obtain⟨_,_,_,_,_,h2,_⟩:=new_of h1;rw[hi]at h2;cases h2
  |none=>exact⟨by rw[lk2,h1];exact hi,old_of h1⟩
 have newlive:∀{i0 b0},lk i0 own'=some b0->lk (k+i0) (renO k own'++st.own)=some (renB k b0)/\γ2 (k+i0)=γ1 i0:=fun{i0 b0} hi=>by
  have h1:lk (k+i0) (renO k own')=some (renB k b0):=by rw[lk_renO,hi];rfl
  obtain⟨j0,c0,e,h2,h3,_,h4⟩:=new_of h1;have:i0=j0:=by omega
  subst this;exact⟨by rw[lk2,h1],h4⟩
 have newblk:∀{i0 b0 b},lk i0 own'=some b0->zg (γ1 i0)=some b->w.heap.size<=b:=fun{i0 b0 b} hi hbk=>Nat.le_of_not_lt (hh.blk hi hbk).1
 have ok_new:∀b,okO (qaX Sx γ st.own []) γ1 own' b->okO Sx γ2 (renO k own'++st.own) b:=fun b h=>by
  have h1:=hok b h;refine⟨h1.1,fun i bx hi hib=>?_⟩;rcases split hi with⟨i0,b0,_,h2,_,_,h3⟩|⟨h2,h3⟩
  · rw[h3]at hib;exact h.2 i0 b0 h2 hib
  · rw[h3]at hib;exact h1.2 i bx h2 hib
 have ok_old:∀b,b<w.heap.size->okO Sx γ st.own b->okO Sx γ2 (renO k own'++st.own) b:=fun b hlt h=>⟨h.1,fun i bx hi hib=>by
  rcases split hi with⟨i0,b0,_,h2,_,_,h3⟩|⟨h2,h3⟩
  · rw[h3]at hib;have:=newblk h2 hib;omega
  · rw[h3]at hib;exact h.2 i bx h2 hib⟩
 have hp_old:∀{s:SV} {u:Value} {wx:World},RelS (okO Sx γ st.own) (hp γ st.own) wx s u->∀i,s.noRef i=false->hp γ2 (renO k own'++st.own) i=hp γ st.own i:=fun{s u wx} h i hi=>by
  cases h1:lk i st.own with
  |none=>rw[h.live (jO h1)]at hi;cases hi
  |some bx=>
   obtain⟨h2,h3⟩:=oldlive h1;rw[zb h1,zb h2,h3]
 have hp_new:∀i u,hp γ1 own' i=some u->hp γ2 (renO k own'++st.own) (k+i)=some u:=fun i u hi=>by
  cases h1:lk i own' with
  |none=>rw[jO h1]at hi;cases hi
  |some b0=>
   rw[zb h1]at hi;cases hi;obtain⟨h2,h3⟩:=newlive h1;rw[zb h2,h3]
 have small:∀{i0 b0},lk i0 own'=some b0->k+i0<1000000:=fun{i0 b0} h0=>by
  have mem:∀{l:List (Nat×Box)} {i:Nat} {b:Box},lk i l=some b->(i,b)∈l:=by
   intro l
   induction l with
   |nil=>intro i b h;cases h
   |cons p l ih=>
    intro i b h;obtain⟨j,c⟩:=p;rw[qL]at h;by_cases e:i=j
    · rw[Yi e]at h;cases h;subst e;exact List.mem_cons_self
    · rw[Yc e]at h;exact Y3 _ (ih h)
  have h1:=YE.1 hfr _ (mem h0);simp only[Yp]at h1;have h2:i0<1000:=by simpa [Nat.blt,YJ]using h1.2
  have h3:d<st.n:=by simpa [Nat.blt,YJ]using hn
  have:=hI.size.2;omega
 have hst:Stays w0 Sx γ2 (renO k own'++st.own) w':=hI.heap.sx.keep hb.size fun i bx hi=>by
  rcases split hi with⟨i0,b0,rfl,h2,_,_,_⟩|⟨h2,h3⟩
  · exact Or.inl (small h2)
  · exact Or.inr ⟨h3,by rw[h2];rfl⟩
 have hheap:HeapOk w0 Sx γ2 (renO k own'++st.own) w':=by
  refine⟨fun i bx hi=>?_,fun i j bi bj b hi hj hib hjb=>?_,hst⟩
  · rcases split hi with⟨i0,b0,rfl,h2,rfl,_,h3⟩|⟨h2,h3⟩
    · exact(hh.box i0 b0 h2).keep (Box.rel_map _ (fun _=>rfl) _) h3 (Yk _) (fun b hb'=>⟨rfl,fun hk'=>by have:=newblk h2 hb';have:=hI.heap.sx.lt _ hk';omega⟩) (fun b _ hok=>⟨rfl,ok_new b hok⟩) fun s u s' hs es=>by subst es;exact hs.ren (fun b _ h=>ok_new b h) hp_new
    · exact(hI.heap.box i bx h2).keep (Box.rel_refl _) h3 hb.size (fun b hb'=>⟨hb.block b (hI.heap.blk h2 hb').2,(hI.heap.blk h2 hb').1⟩) (fun b hlt hok=>⟨hb.block b hlt,ok_old b hlt hok⟩) fun s u s' hs es=>by subst es;exact hs.keep2 hb.size (fun b hlt hok=>⟨hb.block b hlt,ok_old b hlt hok⟩) (hp_old hs)
  · rcases split hi with⟨i0,b0,rfl,h2,_,_,h3⟩|⟨h2,h3⟩
    · rcases split hj with⟨j0,c0,rfl,h5,_,_,h6⟩|⟨h5,h6⟩
      · rw[h3]at hib;rw[h6]at hjb;rw[hh.inj i0 j0 _ _ b h2 h5 hib hjb]
      · rw[h3]at hib;rw[h6]at hjb;have:=newblk h2 hib;have:=(hI.heap.blk h5 hjb).2;omega
    · rcases split hj with⟨j0,c0,rfl,h5,_,_,h6⟩|⟨h5,h6⟩
      · rw[h3]at hib;rw[h6]at hjb;have:=newblk h5 hjb;have:=(hI.heap.blk h2 hib).2;omega
      · rw[h3]at hib;rw[h6]at hjb;exact hI.heap.inj i j _ _ b h2 h5 hib hjb
 have hS:Sim w0 Sx γ2 ⟨st.n,st.fr,renO k own'++st.own⟩ a w':=⟨hI.below.grow hI.heap.sx hb,hI.size,hI.defers,fun t s ht=>(hI.fr t s ht).keep2 hb.size (fun b hlt hok=>⟨hb.block b hlt,ok_old b hlt hok⟩) (hp_old (hI.fr t s ht)),hheap⟩;rw[hdst];refine⟨γ2,_,h,hS.put (dst:=some d) hn (hr.ren (fun b _ h=>ok_new b h) hp_new),⟨hb.size,fun b hlt _=>hb.block b hlt⟩,fun K _ b hlt hv i bx hi hK hib=>?_⟩;rcases split hi with⟨i0,b0,rfl,h2,_,_,h3⟩|⟨h2,h3⟩
 · rw[h3]at hib;have:=newblk h2 hib;omega
 · rw[h3]at hib;exact hv i bx h2 hK hib
end
inductive SEx where
 |normal
 |exit (id:Nat)
 |goto (l:Nat)
 |ret
def SEx.ex:SEx->Exit
 | .normal=>.normal
 | .exit id=>.exit id
 | .goto l=>.goto l
 | .ret=>.ret
def SW (P:Program) (c:Code) (Q:SEx->St->Prop) (st:St):Prop:=∀(w0:Base) (Sx:Nat->Prop) (γ:Nat->Value) (a:Act) (w:World) (QQ:Exit->Act->World->Prop),Sim w0 Sx γ st a w->
 (∀e st' γ' a' w',Sim w0 Sx γ' st' a' w'->Q e st'->QQ e.ex a' w')->c.wp P QQ a w
def Wk (st st':St):Prop:=∀(w0:Base) (Sx:Nat->Prop) (γ:Nat->Value) (a:Act) (w:World),Sim w0 Sx γ st a w->∃γ',Sim w0 Sx γ' st' a w
theorem Wk.refl (st:St):Wk st st:=fun _ _ γ _ _ h=>⟨γ,h⟩
theorem Wk.trans {a b c:St} (h:Wk a b) (k:Wk b c):Wk a c:=fun w0 Sx γ x w hI=>by obtain⟨γ',h'⟩:=h w0 Sx γ x w hI;exact k w0 Sx γ' x w h'
def thenS (N:St->Prop) (Q:SEx->St->Prop):SEx->St->Prop
 | .normal,s=>N s
 |e,s=>Q e s
def inBlk (id:Nat) (Q:SEx->St->Prop):SEx->St->Prop
 | .exit i,s=>bif Nat.beq i id then Q .normal s else Q (.exit i) s
 |e,s=>Q e s
section
variable {P:Program} {Q:SEx->St->Prop} {st:St}
theorem SW.wk {c:Code} {st':St} (h:Wk st st') (h':SW P c Q st'):SW P c Q st:=fun w0 Sx γ a w QQ hI hQ=>by
 obtain⟨γ',hI'⟩:=h w0 Sx γ a w hI;exact h' w0 Sx γ' a w QQ hI' hQ
theorem SW.mono {c:Code} {Q':SEx->St->Prop} (h:SW P c Q st) (hq:∀e s,Q e s->Q' e s):SW P c Q' st:=fun w0 Sx γ a w QQ hI hQ=>h w0 Sx γ a w QQ hI fun e s' γ' a' w' hI' hq'=>hQ e s' γ' a' w' hI' (hq e s' hq')
theorem qh (h:Q .normal st):SW P .skip Q st:=fun _ _ γ a w _ hI hQ=>wp_skip (hQ .normal st γ a w hI h)
theorem sw_label {l:Nat} (h:Q .normal st):SW P (.label l) Q st:=fun _ _ γ a w _ hI hQ=>wp_label (hQ .normal st γ a w hI h)
theorem qC {id:Nat} (h:Q (.exit id) st):SW P (.exit id) Q st:=fun _ _ γ a w _ hI hQ=>wp_exit (hQ (.exit id) st γ a w hI h)
theorem sw_ret (h:Q .ret st):SW P .ret Q st:=fun _ _ γ a w _ hI hQ=>wp_ret (hQ .ret st γ a w hI h)
theorem qA {x y:Code} (h:SW P x (thenS (SW P y Q) Q) st):SW P (.seq x y) Q st:=fun w0 Sx γ a w QQ hI hQ=>by
 refine wp_seq (h w0 Sx γ a w _ hI fun e s' γ' a' w' hI' hq=>?_);cases e with
 |normal=>exact hq w0 Sx γ' a' w' QQ hI' hQ
 |exit id=>exact hQ (.exit id) s' γ' a' w' hI' hq
 |goto l=>exact hQ (.goto l) s' γ' a' w' hI' hq
 |ret=>exact hQ .ret s' γ' a' w' hI' hq
theorem sw_cond {c:Operand} {x y:Code} {b:Bool} (hc:evS st c=some (.p (.v (.bool b)))) (ht:b=true->SW P x Q st) (hf:b=false->SW P y Q st):SW P (.cond c x y) Q st:=fun w0 Sx γ a w QQ hI hQ=>
 wp_cond_split (qK hI hc).v_inv (fun h=>ht h w0 Sx γ a w QQ hI hQ) (fun h=>hf h w0 Sx γ a w QQ hI hQ)
theorem sw_block {id:Nat} {c:Code} (h:SW P c (inBlk id Q) st):SW P (.block id c) Q st:=fun w0 Sx γ a w QQ hI hQ=>by
 refine wp_block (h w0 Sx γ a w _ hI fun e s' γ' a' w' hI' hq=>?_);cases e with
 |normal=>exact hQ .normal s' γ' a' w' hI' hq
 |exit i=>
  show(if i=id then QQ .normal a' w' else QQ (.exit i) a' w');by_cases e:i=id
  · subst e;rw[Yi rfl];simp only[inBlk,wJ,cond_true]at hq;exact hQ .normal s' γ' a' w' hI' hq
  · rw[Yc e];simp only[inBlk,beq_no e,cond_false]at hq;exact hQ (.exit i) s' γ' a' w' hI' hq
 |goto l=>exact hQ (.goto l) s' γ' a' w' hI' hq
 |ret=>exact hQ .ret s' γ' a' w' hI' hq
theorem qG {body:Code} (I:Nat->St->Prop) (n:Nat) (h0:I n st) (round:∀n s,I n s->SW P body (thenS (fun s'=>∃m s'',m<n/\Wk s' s''/\I m s'') Q) s):SW P (.loop body) Q st:=fun w0 Sx γ a w QQ hI hQ=>by
 refine wp_loop_ghost (fun n a w=>∃s γ,I n s/\Sim w0 Sx γ s a w) n ⟨st,γ,h0,hI⟩ fun n a w ⟨s,γ,hn,hI⟩=>?_
 refine round n s hn w0 Sx γ a w _ hI fun e s' γ' a' w' hI' hq=>?_
 cases e with
 |normal=>
  obtain⟨m,s'',hlt,hwk,hm⟩:=hq;obtain⟨γ'',hI''⟩:=hwk w0 Sx γ' a' w' hI';exact⟨m,hlt,s'',γ'',hm,hI''⟩
 |exit id=>exact hQ (.exit id) s' γ' a' w' hI' hq
 |goto l=>exact hQ (.goto l) s' γ' a' w' hI' hq
 |ret=>exact hQ .ret s' γ' a' w' hI' hq
theorem sw_len {c:Code} {t z:Nat} {l:List (List PV)} (ht:lk t st.fr=some (.p (.sl z l))) (h:l.length<=reachBytes->SW P c Q st):SW P c Q st:=fun w0 Sx γ a w QQ hI hQ=>by
 obtain⟨A,c,_,_,hm,_⟩:=(hI.fr t _ ht).p_inv.slat;exact h hm.1 w0 Sx γ a w QQ hI hQ
end
def SWT (P:Program) (ops:List Oper) (l:List Oper) (Q:St->Prop) (st:St):Prop:=∀(w0:Base) (Sx:Nat->Prop) (γ:Nat->Value) (a:Act) (w:World) (QQ:Exit->Act->World->Prop),Sim w0 Sx γ st a w->
 (∀st' γ' a' w',Sim w0 Sx γ' st' a' w'->Q st'->QQ .normal a' w')->wpList P ops.toArray QQ l a w
def wl (ops:List Oper) (st:St) (o:Oper):Option Bool:=match o.guard with
 |none=>some true
 |some (j,b)=>match nthO ops j with
  |some oj=>match oj.dst with
   |some d=>match lk d st.fr with
    |some (.p (.v (.bool c)))=>some (c==b)
    |some (.tup [])=>some false
    |_=>none
   |none=>none
  |none=>none
section
variable {P:Program} {T:TT} (hT:zm P T) {ops:List Oper} {st:St} {Q:St->Prop}
theorem wC {w0:Base} {Sx:Nat->Prop} {γ:Nat->Value} {a:Act} {w:World} (hI:Sim w0 Sx γ st a w) {o:Oper} {b:Bool} (h:wl ops st o=some b):Region.wanted o (yielded ops.toArray a.tmps)=b:=by
 unfold wl at h;unfold Region.wanted;split at h
 · rename_i hg;cases h;rw[hg]
 · rename_i j c hg;rw[hg];split at h
   · rename_i oj hoj;split at h
     · rename_i d hd;have hy:=qay (ops:=ops.toArray) (tmps:=a.tmps) (j:=j) (d:=d) (by rw[jB,hoj];exact hd);split at h
       · rename_i q hq;cases h;have:=(hI.fr d _ hq).v_inv;rw[this]at hy;simp only[hy];cases q<;>cases c<;>rfl
       · rename_i hq;cases h;have hr:=hI.fr d _ hq;generalize a.tmps.getD d undef=u at hr hy;cases hr with
         |@tup _ us hl _=>
          simp only[hy];rfl
       · cases h
     · cases h
   · cases h
theorem Sim.skip {w0:Base} {Sx:Nat->Prop} {γ:Nat->Value} {a:Act} {w:World} (hI:Sim w0 Sx γ st a w) {dst:Option Tmp} (hd:jW st dst=true):Sim w0 Sx γ (st.put dst (.tup [])) (a.put dst undef) w:=
 hI.put hd (.tup (us:=[]) rfl fun i s u hs _=>by simp at hs)
theorem qe (h:Q st):SWT P ops [] Q st:=fun _ _ γ a w _ hI hQ=>hQ st γ a w hI h
theorem swt_skip {o:Oper} {rest:List Oper} (hw:wl ops st o=some false) (hd:jW st o.dst=true) (h:SWT P ops rest Q (st.put o.dst (.tup []))):SWT P ops (o::rest) Q st:=fun w0 Sx γ a w QQ hI hQ=>by
 unfold wpList;rw[Yc (by rw[wC hI hw];exact Bool.false_ne_true)];exact h w0 Sx γ _ w QQ (hI.skip hd) hQ
theorem qy {o:Oper} {rest:List Oper} {Ws:List Nat} (hw:wl ops st o=some true) (h:ActOk P Ws o st (SWT P ops rest Q)):SWT P ops (o::rest) Q st:=fun w0 Sx γ a w QQ hI hQ=>by
 unfold wpList;rw[Yi (wC hI hw)];refine Or.inl ?_;have:=h w0 Sx γ a w QQ hI;unfold Oper.wp at this⊢;generalize (execOp a.eval o).run P w=res at*;have mono:∀{a' w'},(∃γ' st',SWT P ops rest Q st'/\Sim w0 Sx γ' st' a' w'/\SameOn (vis Ws γ st.own) w w'/\∀K:List Nat,(∀i∈Ws,i∈K)->∀b,b<w.heap.size->vis K γ st.own b->vis K γ' st'.own b)->wpList P ops.toArray QQ rest a' w':=fun⟨γ',st',h1,h2,_⟩=>h1 w0 Sx γ' _ _ QQ h2 hQ
 cases res with
 |ok n w'=>
  cases n<;>simp only[Oper.upon]at this⊢<;>first
   |exact mono this
   |exact this
   |exact Calls.mono this (fun e w'' he=>by cases e<;>first|exact mono he|exact he)
   |exact Rows.mono this (fun _ _ he=>mono he)
 |halt x w'=>cases x<;>simp only[Oper.upon]at this⊢<;>exact this
include hT in
theorem qm {o:Oper} {rest:List Oper} {c:Prop} {s:SV} (hw:wl ops st o=some true) (hr:opR T [] st o.op=some (c,s)) (hc:c) (hd:jW st o.dst=true) (h:SWT P ops rest Q (st.put o.dst s)):SWT P ops (o::rest) Q st:=fun w0 Sx γ a w QQ hI hQ=>by
 unfold wpList;rw[Yi (wC hI hw)];refine Or.inl ?_;obtain⟨v,h1,h2⟩:=opR_ok hT hI (K:=[]) hr hc;unfold Oper.wp;rw[h2 w ⟨Yk _,fun _ _ _=>rfl⟩];exact h w0 Sx γ _ w QQ (hI.put hd h1) hQ
theorem sw_region {id:Nat} {l:List Oper} {QS:SEx->St->Prop} (h:SWT P l l (QS .normal) st):SW P (.region id l.toArray false) QS st:=fun w0 Sx γ a w QQ hI hQ=>
 wp_region_lit (h w0 Sx γ a w QQ hI fun s' γ' a' w' hI' hq=>hQ .normal s' γ' a' w' hI' hq)
end
mutual
def SV.mapR (ρ:List (Nat×Nat)):SV->Option SV
 | .p x=>some (.p x)
 | .agg cs=>match mapRs ρ cs with|some l=>some (.agg l)|none=>none
 | .tup cs=>match mapRs ρ cs with|some l=>some (.tup l)|none=>none
 | .fn f cs=>match mapRs ρ cs with|some l=>some (.fn f l)|none=>none
 | .row i=>match lk i ρ with|some m=>some (.row m)|none=>none
 | .ptr i o=>match lk i ρ with|some m=>some (.ptr m o)|none=>none
 | .eptr i z j o=>match lk i ρ with|some m=>some (.eptr m z j o)|none=>none
 | .view i z lo hi=>match lk i ρ with|some m=>some (.view m z lo hi)|none=>none
 | .junk=>some .junk
def mapRs (ρ:List (Nat×Nat)):List SV->Option (List SV)
 |[]=>some []
 |s::r=>match s.mapR ρ with
  |some s'=>match mapRs ρ r with
   |some l=>some (s'::l)
   |none=>none
  |none=>none
end
theorem qam {ρ:List (Nat×Nat)}:∀{cs l:List SV},mapRs ρ cs=some l->l.length=cs.length/\∀(i:Nat) (s':SV),l[i]?=some s'->∃s,cs[i]?=some s/\s.mapR ρ=some s'
 |[],l,h=>by simp only[mapRs,Ye]at h;subst h;simp
 |c::cs,l,h=>by
  unfold mapRs at h;split at h
  · rename_i s' hs;split at h
    · rename_i l' hl;simp only[Ye]at h;subst h;obtain⟨h1,h2⟩:=qam hl;refine⟨by simp[h1],fun i x hx=>?_⟩;cases i with
      |zero=>simp at hx;subst hx;exact⟨c,rfl,hs⟩
      |succ i=>obtain⟨s,g1,g2⟩:=h2 i x Dm;exact⟨s,by simpa using g1,g2⟩
    · cases h
  · cases h
theorem RelS.mapR {ok ok':Nat->Prop} {H H':Nat->Option Value} {w:World} {ρ:List (Nat×Nat)} (hok:∀b,b<w.heap.size->ok b->ok' b) (hH:∀i m,lk i ρ=some m->H' m=H i) {s:SV} {u:Value} (h:RelS ok H w s u):∀{s':SV},s.mapR ρ=some s'->RelS ok' H' w s' u:=by
 induction h with
 |p h=>intro s' hs;simp only[SV.mapR,Ye]at hs;subst hs;exact .p (h.weak hok)
 |agg hl h ih=>
  intro s' hs;unfold SV.mapR at hs;split at hs
  · rename_i l hl';simp only[Ye]at hs;subst hs;obtain⟨g1,g2⟩:=qam hl';exact .agg DP fun i s u hs hu=>by obtain⟨s0,k1,k2⟩:=g2 i s hs;exact ih i s0 u k1 hu k2
  · cases hs
 |tup hl h ih=>
  intro s' hs;unfold SV.mapR at hs;split at hs
  · rename_i l hl';simp only[Ye]at hs;subst hs;obtain⟨g1,g2⟩:=qam hl';exact .tup DP fun i s u hs hu=>by obtain⟨s0,k1,k2⟩:=g2 i s hs;exact ih i s0 u k1 hu k2
  · cases hs
 |fn hl h ih=>
  intro s' hs;unfold SV.mapR at hs;split at hs
  · rename_i l hl';simp only[Ye]at hs;subst hs;obtain⟨g1,g2⟩:=qam hl';exact .fn DP fun i s u hs hu=>by obtain⟨s0,k1,k2⟩:=g2 i s hs;exact ih i s0 u k1 hu k2
  · cases hs
 |junk=>intro s' hs;simp only[SV.mapR,Ye]at hs;subst hs;exact .junk
 |row h=>
  intro s' hs;unfold SV.mapR at hs;split at hs
  · rename_i m hm;simp only[Ye]at hs;subst hs;exact .row EV
  · cases hs
 |ptr h hb=>
  intro s' hs;unfold SV.mapR at hs;split at hs
  · rename_i m hm;simp only[Ye]at hs;subst hs;exact .ptr EV hb
  · cases hs
 |eptr h hb=>
  intro s' hs;unfold SV.mapR at hs;split at hs
  · rename_i m hm;simp only[Ye]at hs;subst hs;exact .eptr EV hb
  · cases hs
 |view h h1 h2 h3 h4=>
  intro s' hs;unfold SV.mapR at hs;split at hs
  · rename_i m hm;simp only[Ye]at hs;subst hs;exact .view EV h1 h2 h3 h4
  · cases hs
def Box.mapR (ρ:List (Nat×Nat)):Box->Option Box
 | .row e z l=>some (.row e z l)
 | .mp es=>some (.mp es)
 | .cells cs=>match mapRs ρ cs with|some l=>some (.cells l)|none=>none
 | .rws e z pre mid post=>match mapRs ρ mid with|some l=>some (.rws e z pre l post)|none=>none
theorem Box.rel_mapR {ρ:List (Nat×Nat)} {bx bx':Box} (h:bx.mapR ρ=some bx'):Box.Rel (fun s s'=>s.mapR ρ=some s') bx bx':=by
 cases bx with
 |row e z l=>simp only[Box.mapR,Ye]at h;subst h;exact .row
 |mp es=>simp only[Box.mapR,Ye]at h;subst h;exact .mp
 |cells cs=>
  have h':(match mapRs ρ cs with|some l=>some (Box.cells l)|none=>none)=some bx':=h;split at h'
  · rename_i l hl;simp only[Ye]at h';subst h';obtain⟨q1,q2⟩:=qam hl;exact .cells q1 q2
  · cases h'
 |rws e z pre mid post=>
  have h':(match mapRs ρ mid with|some l=>some (Box.rws e z pre l post)|none=>none)=some bx':=h;split at h'
  · rename_i l hl;simp only[Ye]at h';subst h';obtain⟨q1,q2⟩:=qam hl;exact .rws (fun _=>rfl) q1 q2
  · cases h'
def ownR (ρ:List (Nat×Nat)) (own:List (Nat×Box)):List (Nat×Nat)->Option (List (Nat×Box))
 |[]=>some []
 |(i,m)::r=>match lk i own with
  |some bx=>match bx.mapR ρ with
   |some bx'=>match ownR ρ own r with
    |some l=>some ((m,bx')::l)
    |none=>none
   |none=>none
  |none=>none
def frR (ρ:List (Nat×Nat)) (fr:List (Nat×SV)):List Nat->Option (List (Nat×SV))
 |[]=>some []
 |t::r=>match lk t fr with
  |some s=>match s.mapR ρ with
   |some s'=>match frR ρ fr r with
    |some l=>some ((t,s')::l)
    |none=>none
   |none=>none
  |none=>none
def swp (ρ:List (Nat×Nat)):List (Nat×Nat):=ρ.map fun p=>(p.2,p.1)
def dist:List Nat->Bool
 |[]=>true
 |x::r=>r.all (fun y=>!(Nat.beq x y))&&dist r
theorem qas {α:Type}:∀{l:List (Nat×α)} {i:Nat} {b:α},lk i l=some b->(i,b)∈l
 |[],i,b,h=>by cases h
 |(j,c)::l,i,b,h=>by
  rw[qL]at h;by_cases e:i=j
  · rw[Yi e]at h;cases h;subst e;exact List.mem_cons_self
  · rw[Yc e]at h;exact Y3 _ (qas h)
theorem wi {α:Type}:∀{l:List (Nat×α)} (_:dist (l.map (·.1))=true) {i:Nat} {b:α},(i,b)∈l->lk i l=some b
 |[],_,i,b,h=>by cases h
 |(j,c)::l,hd,i,b,h=>by
  simp only[Y2,dist,Yp]at hd;rw[qL];rcases Y0.1 h with e|h
  · cases e;rw[Yi rfl]
  · have:=YE.1 hd.1 i (Y1.2 ⟨(i,b),h,rfl⟩);have hne:i≠j:=fun e=>by subst e;simp at this
    rw[Yc hne];exact wi hd.2 h
theorem jK {ρ:List (Nat×Nat)} {own:List (Nat×Box)}:∀{rs:List (Nat×Nat)} {own':List (Nat×Box)},ownR ρ own rs=some own'->∀m,(∀i,lk m (swp rs)=some i->∃bx bx',lk i own=some bx/\bx.mapR ρ=some bx'/\lk m own'=some bx')/\(lk m (swp rs)=none->lk m own'=none)
 |[],own',h,m=>by simp only[ownR,Ye]at h;subst h;exact⟨(fun i h=>by cases h),fun _=>rfl⟩
 |(i,k)::rs,own',h,m=>by
  unfold ownR at h;split at h
  · rename_i bx hbx;split at h
    · rename_i bx' hbx';split at h
      · rename_i l hl;simp only[Ye]at h;subst h;have ih:=jK hl m;have e:lk m (swp ((i,k)::rs))=if m=k then some i else lk m (swp rs):=qL m k i (swp rs)
        rw[e,qL];by_cases hm:m=k
        · rw[Yi hm,Yi hm];exact⟨(fun j hj=>by cases hj;exact⟨bx,bx',hbx,hbx',rfl⟩),(fun h=>by cases h)⟩
        · rw[Yc hm,Yc hm];exact ih
      · cases h
    · cases h
  · cases h
theorem frR_get {ρ:List (Nat×Nat)} {fr:List (Nat×SV)}:∀{ts:List Nat} {fr':List (Nat×SV)},frR ρ fr ts=some fr'->∀t s',lk t fr'=some s'->∃s,lk t fr=some s/\s.mapR ρ=some s'
 |[],fr',h,t,s',ht=>by simp only[frR,Ye]at h;subst h;cases ht
 |k::ts,fr',h,t,s',ht=>by
  unfold frR at h;split at h
  · rename_i s hs;split at h
    · rename_i s1 hs1;split at h
      · rename_i l hl;simp only[Ye]at h;subst h;rw[qL]at ht;by_cases e:t=k
        · rw[Yi e]at ht;cases ht;subst e;exact⟨s,hs,hs1⟩
        · rw[Yc e]at ht;exact frR_get hl t s' ht
      · cases h
    · cases h
  · cases h
def renOk (ρ:List (Nat×Nat)):Bool:=dist (ρ.map (·.1))&&dist (ρ.map (·.2))&&ρ.all fun p=>Nat.beq p.1 p.2||Nat.blt p.2 1000000
theorem heap_mapR {B:Base} {Sx:Nat->Prop} {γ:Nat->Value} {own own':List (Nat×Box)} {w:World} {ρ:List (Nat×Nat)} (h:HeapOk B Sx γ own w) (ho:ownR ρ own ρ=some own') (hd:renOk ρ=true):
 ∃γ',HeapOk B Sx γ' own' w/\∀s u s',RelS (okO Sx γ own) (hp γ own) w s u->s.mapR ρ=some s'->RelS (okO Sx γ' own') (hp γ' own') w s' u:=by
 unfold renOk at hd;simp only[Yp]at hd;obtain⟨hd,hfx⟩:=hd;have hd2:dist ((swp ρ).map (·.1))=true:=by
  have:(swp ρ).map (·.1)=ρ.map (·.2):=by unfold swp;rw[List.map_map];rfl
  rw[this];exact hd.2
 have there:∀{i m},lk i ρ=some m->lk m (swp ρ)=some i:=fun hi=>wi hd2 (Y1.2 ⟨_,qas hi,rfl⟩)
 have back:∀{i m},lk m (swp ρ)=some i->lk i ρ=some m:=fun hm=>by
  obtain⟨⟨a,b⟩,h1,h2⟩:=Y1.1 (qas hm);cases h2;exact wi hd.1 h1
 let γ':Nat->Value:=fun m=>match lk m (swp ρ)with|some i=>γ i|none=>.nilIface
 have g1:∀{m bx'},lk m own'=some bx'->∃i bx,lk m (swp ρ)=some i/\lk i own=some bx/\bx.mapR ρ=some bx'/\γ' m=γ i:=fun{m bx'} hm=>by
  cases hs:lk m (swp ρ)with
  |none=>rw[(jK ho m).2 hs]at hm;cases hm
  |some i=>
   obtain⟨bx,b2,k1,k2,k3⟩:=(jK ho m).1 i hs;rw[hm]at k3;cases k3;exact⟨i,bx,rfl,k1,k2,by show(match lk m (swp ρ)with|some i=>γ i|none=>.nilIface)=γ i;rw[hs]⟩
 have g2:∀{i m},lk i ρ=some m->hp γ' own' m=hp γ own i:=fun{i m} hi=>by
  have hs:=there hi;obtain⟨bx,b2,k1,k2,k3⟩:=(jK ho m).1 i hs;rw[zb k1,zb k3];show some (match lk m (swp ρ)with|some i=>γ i|none=>.nilIface)=_;rw[hs]
 have okc:∀b,okO Sx γ own b->okO Sx γ' own' b:=fun b hok=>⟨hok.1,fun m bx hm hb=>by
  obtain⟨i,by_,_,k1,_,k2⟩:=g1 hm;rw[k2]at hb;exact hok.2 i by_ k1 hb⟩
 have keep:∀s u s',RelS (okO Sx γ own) (hp γ own) w s u->s.mapR ρ=some s'->RelS (okO Sx γ' own') (hp γ' own') w s' u:=fun s u s' hr hs=>hr.mapR (fun b _=>okc b) (fun i m hi=>g2 hi) hs
 have hst:Stays B Sx γ' own' w:=h.sx.keep (Yk _) fun m bx' hm=>by
  obtain⟨i,bx,k0,k1,k2,k3⟩:=g1 hm;have hmem:=YE.1 hfx _ (qas (back k0));simp only[Xm]at hmem;rcases hmem with e|e
  · have e:i=m:=YK e;subst e;exact Or.inr ⟨k3,by rw[k1];rfl⟩
  · exact Or.inl (by simpa [Nat.blt,YJ]using e)
 refine⟨γ',⟨fun m bx' hm=>?_,fun m n bm bn b hm hn hbm hbn=>?_,hst⟩,keep⟩
 · obtain⟨i,bx,k0,k1,k2,k3⟩:=g1 hm;exact(h.box i bx k1).keep (Box.rel_mapR k2) k3 (Yk _) (fun b hb=>⟨rfl,(h.blk k1 hb).1⟩) (fun b _ hok=>⟨rfl,okc b hok⟩) fun s u s' hs es=>keep s u s' hs es
 · obtain⟨i,bi,k0,k1,_,k3⟩:=g1 hm;obtain⟨j,bj,q0,q1,_,q3⟩:=g1 hn;rw[k3]at hbm;rw[q3]at hbn;have e:=h.inj i j _ _ b k1 q1 hbm hbn;subst e;have a1:=back k0;have a2:=back q0;rw[a1]at a2;cases a2;rfl
def St.only (st:St) (ts:List Nat) (ρ:List (Nat×Nat)):Option St:=match frR ρ st.fr ts,ownR ρ st.own ρ with
 |some fr,some own=>some ⟨st.n,fr,own⟩
 |_,_=>none
theorem qj {st st':St} (ts:List Nat) (ρ:List (Nat×Nat)) (h:st.only ts ρ=some st') (hd:renOk ρ=true):Wk st st':=fun w0 Sx γ a w hI=>by
 unfold St.only at h;split at h
 · rename_i fr own hf ho;simp only[Ye]at h;subst h;obtain⟨γ',h1,h2⟩:=heap_mapR hI.heap ho hd;refine⟨γ',hI.below,hI.size,hI.defers,fun t s' ht=>?_,h1⟩;obtain⟨s,k1,k2⟩:=frR_get hf t s' ht;exact h2 s _ s' (hI.fr t s k1) k2
 · cases h
theorem zw {st:St} (t d:Nat) (e:TypeId) (z:Nat) (ht:lk t st.fr=some (.p (.v (.slice none 0 0)))) (hd:lk d st.own=none) (hdl:Nat.blt d 1000000=true:=by rfl):Wk st ⟨st.n,(t,.row d)::st.fr,(d,.row e z [])::st.own⟩:=fun w0 Sx γ a w hI=>by
 have hbx:BoxOk w0 Sx (upd γ d (.slice none 0 0)) ((d,.row e z [])::st.own) w d (.row e z []):=by
  refine .row ?_ DQ (Yl _) (fun b hb=>by simp[upd,zg]at hb);rw[show upd γ d (.slice none 0 0) d=.slice none 0 0 from Yi rfl];exact rowO_nil
 obtain⟨h1,h2,h3,_⟩:=hI.heap.add (Below.refl _ w) hd (by simpa [Nat.blt,YJ]using hdl) (g:=.slice none 0 0) (fun b hb=>by cases hb) hbx;have h0:=(hI.fr t _ ht).v_inv;refine⟨upd γ d (.slice none 0 0),hI.below,hI.size,hI.defers,fun k s hk=>?_,h1⟩;have hk':(if k=t then some (SV.row d)else lk k st.fr)=some s:=by rw[<-qL];exact hk
 by_cases e1:k=t
 · rw[Yi e1]at hk';cases hk';subst e1;rw[h0];exact Kn
 · rw[Yc e1]at hk';have hr:=hI.fr k s hk';refine hr.keep2 (Yk _) (fun b hb hok=>⟨rfl,h2 b hb hok⟩) fun i hi=>h3 i fun e=>?_
   subst e;rw[hr.live (jO hd)]at hi;cases hi
mutual
def SV.frz (k z:Nat) (l:List (List PV)):SV->SV
 | .agg cs=>mkAgg (frzs k z l cs)
 | .tup cs=>.tup (frzs k z l cs)
 | .fn f cs=>.fn f (frzs k z l cs)
 | .row i=>bif Nat.beq i k then .p (.sl z l)else .row i
 | .ptr i o=>bif Nat.beq i k then .junk else .ptr i o
 | .eptr i z j o=>bif Nat.beq i k then .junk else .eptr i z j o
 | .view i z' lo hi=>bif Nat.beq i k then .junk else .view i z' lo hi
 | .p x=>.p x
 | .junk=>.junk
def frzs (k z:Nat) (l:List (List PV)):List SV->List SV
 |[]=>[]
 |s::r=>s.frz k z l::frzs k z l r
end
theorem frzs_eq (k z:Nat) (l:List (List PV)):∀cs:List SV,frzs k z l cs=cs.map (SV.frz k z l)
 |[]=>rfl
 |s::r=>by rw[frzs,frzs_eq k z l r];rfl
def Box.frz (k z:Nat) (l:List (List PV)) (b:Box):Box:=b.mapS (SV.frz k z l)
def St.frz (st:St) (k z:Nat) (l:List (List PV)):St:=⟨st.n,st.fr.map fun p=>(p.1,p.2.frz k z l),(del k st.own).map fun p=>(p.1,p.2.frz k z l)⟩
theorem sim_frz {st:St} {k:Nat} {e:TypeId} {z:Nat} {l:List (List PV)} (hk:lk k st.own=some (.row e z l)) {w0:Base} {Sx:Nat->Prop} {γ:Nat->Value} {a:Act} {w:World} (hI:Sim w0 Sx γ st a w):Sim w0 Sx γ (st.frz k z l) a w:=by
 have lk':∀i,lk i (st.frz k z l).own=if i=k then none else(lk i st.own).map (Box.frz k z l):=fun i=>by
  show lk i ((del k st.own).map fun p=>(p.1,p.2.frz k z l))=_;rw[lk_map,lk_del];split<;>rfl
 have old:∀{i bx},lk i (st.frz k z l).own=some bx->i≠k/\∃b0,lk i st.own=some b0/\bx=b0.frz k z l:=fun{i bx} hi=>by
  rw[lk']at hi;by_cases e:i=k
  · rw[Yi e]at hi;cases hi
  · rw[Yc e]at hi;obtain⟨b0,h1,rfl⟩:=YP.1 hi;exact⟨e,b0,h1,rfl⟩
 have okc:∀b,okO Sx γ st.own b->okO Sx γ (st.frz k z l).own b:=fun b hok=>⟨hok.1,fun i bx hi hb=>by
  obtain⟨_,b0,h1,_⟩:=old hi;exact hok.2 i b0 h1 hb⟩
 obtain⟨A,c,g1,g2,g3,g4,g5⟩:=row_slat hI.heap hk;have hrow:RelP (okO Sx γ (st.frz k z l).own) w (.sl z l) (γ k):=by
  rw[g1];refine .of_slat g2 g3 g4 fun hl=>?_
  obtain⟨b,o,rfl,hlt,hc⟩:=g5 hl;have hb:zg (γ k)=some b:=by rw[g1];rfl
  refine⟨b,o,rfl,⟨fun hs=>?_,fun i bx hi hib=>?_⟩,hlt,fun i hi=>?_⟩
  · exact hI.heap.nsx hk hb hs
  · obtain⟨h1,b0,h2,_⟩:=old hi;exact h1 (hI.heap.inj i k _ _ b h2 hk hib hb)
  · obtain⟨cs,a1,a2,_,a4⟩:=hc i hi;exact⟨cs,a1,a2,a4.1,fun j s u hs hu=>(a4.2 j s u hs hu).weak fun b _=>okc b⟩
 have keep:∀{s:SV} {u:Value},RelS (okO Sx γ st.own) (hp γ st.own) w s u->RelS (okO Sx γ (st.frz k z l).own) (hp γ (st.frz k z l).own) w (s.frz k z l) u:=fun{s u} h=>by
  have hp':∀{i g},hp γ st.own i=some g->i≠k->hp γ (st.frz k z l).own i=some g:=fun{i g} hi hik=>by
   cases h1:lk i st.own with
   |none=>rw[jO h1]at hi;cases hi
   |some bx=>rw[zb h1]at hi;rw[zb (bx:=bx.frz k z l) (by rw[lk',Yc hik,h1];rfl)];exact hi
  induction h with
  |p h=>exact .p (h.weak fun b _=>okc b)
  |agg hl h ih=>
   rw[SV.frz,frzs_eq];refine relS_mkAgg Dk fun i s u hs hu=>?_
   rw[YH]at hs;obtain⟨s0,h0,rfl⟩:=YP.1 hs;exact ih i s0 u h0 hu
  |tup hl h ih=>
   rw[SV.frz,frzs_eq];refine .tup Dk fun i s u hs hu=>?_
   rw[YH]at hs;obtain⟨s0,h0,rfl⟩:=YP.1 hs;exact ih i s0 u h0 hu
  |fn hl h ih=>
   rw[SV.frz,frzs_eq];refine .fn Dk fun i s u hs hu=>?_
   rw[YH]at hs;obtain⟨s0,h0,rfl⟩:=YP.1 hs;exact ih i s0 u h0 hu
  |junk=>exact .junk
  |@row i u h=>
   rw[SV.frz];by_cases e:i=k
   · subst e;rw[wJ,cond_true];rw[zb hk]at h;cases h;exact .p hrow
   · rw[beq_no e,cond_false];exact .row (hp' h e)
  |@ptr i off b g h hb=>
   rw[SV.frz];by_cases e:i=k
   · subst e;rw[wJ,cond_true];exact .junk
   · rw[beq_no e,cond_false];exact .ptr (hp' h e) hb
  |@eptr i z' j o b g h hb=>
   rw[SV.frz];by_cases e:i=k
   · subst e;rw[wJ,cond_true];exact .junk
   · rw[beq_no e,cond_false];exact .eptr (hp' h e) hb
  |@view i z' lo hi n c A A' h h1 h2 h3 h4=>
   rw[SV.frz];by_cases e:i=k
   · subst e;rw[wJ,cond_true];exact .junk
   · rw[beq_no e,cond_false];exact .view (hp' h e) h1 h2 h3 h4
 refine⟨hI.below,hI.size,hI.defers,fun t s ht=>?_,fun i bx hi=>?_,fun i j bi bj b hi hj hib hjb=>?_,hI.heap.sx.keep (Yk _) fun i bx hi=>by obtain⟨_,b0,h1,_⟩:=old hi;exact Or.inr ⟨rfl,by rw[h1];rfl⟩⟩
 · have ht':(lk t st.fr).map (SV.frz k z l)=some s:=by rw[<-lk_map];exact ht
   obtain⟨s0,h0,rfl⟩:=YP.1 ht';exact keep (hI.fr t s0 h0)
 · obtain⟨hik,b0,h1,rfl⟩:=old hi;exact(hI.heap.box i b0 h1).keep (Box.rel_map _ (fun _=>rfl) _) rfl (Yk _) (fun b hb=>⟨rfl,(hI.heap.blk h1 hb).1⟩) (fun b _ hok=>⟨rfl,okc b hok⟩) fun s u s' hs es=>by subst es;exact keep hs
 · obtain⟨_,b0,h1,_⟩:=old hi;obtain⟨_,c0,h2,_⟩:=old hj;exact hI.heap.inj i j _ _ b h1 h2 hib hjb
theorem qu {st:St} {k:Nat} {e:TypeId} {z:Nat} {l:List (List PV)} (hk:lk k st.own=some (.row e z l)):Wk st (st.frz k z l):=fun _ _ γ _ _ hI=>⟨γ,sim_frz hk hI⟩
def argFr:Nat->List PV->List (Nat×SV)
 |_,[]=>[]
 |k,x::r=>(k,.p x)::argFr (k+1) r
def lks (st:St):List Tmp->Option (List SV)
 |[]=>some []
 |t::r=>match lk t st.fr with
  |some s=>match lks st r with
   |some l=>some (s::l)
   |none=>none
  |none=>none
def resS (st:St):List Tmp->Option SV
 |[t]=>lk t st.fr
 |ts=>match lks st ts with
  |some l=>some (.tup l)
  |none=>none
theorem lks_get {st:St}:∀{ts:List Tmp} {l:List SV},lks st ts=some l->l.length=ts.length/\∀(i:Nat) (s:SV),l[i]?=some s->∃t,ts[i]?=some t/\lk t st.fr=some s
 |[],l,h=>by simp only[lks,Ye]at h;subst h;simp
 |t::ts,l,h=>by
  unfold lks at h;split at h
  · rename_i s hs;split at h
    · rename_i l' hl;simp only[Ye]at h;subst h;obtain⟨h1,h2⟩:=lks_get hl;refine⟨by simp[h1],fun i x hx=>?_⟩;cases i with
      |zero=>simp at hx;subst hx;exact⟨t,rfl,hs⟩
      |succ i=>obtain⟨u,g1,g2⟩:=h2 i x Dm;exact⟨u,by simpa using g1,g2⟩
    · cases h
  · cases h
theorem run_mapT {P:Program} {w:World} {f:ResultVar->Sem Value} {g:Tmp->Value} (hf:∀t,(f (.tmp t)).run P w=.ok (g t) w):∀ts:List Tmp,((ts.map ResultVar.tmp).mapM f).run P w=.ok (ts.map g) w
 |[]=>by simp
 |t::ts=>by
  rw[Y2,List.mapM_cons];simp only[YG,hf,Ys,run_mapT hf ts,YR,Y2]
def resV (tmps:Array Value):List Tmp->Value
 |[t]=>tmps.getD t undef
 |ts=>.tuple (ts.map fun t=>tmps.getD t undef).toArray
theorem run_results {P:Program} {fn:Func} {tmps:Array Value} {w:World} {ts:List Tmp} (h:fn.results=(ts.map ResultVar.tmp).toArray):(results fn tmps).run P w=.ok (resV tmps ts) w:=by
 unfold results;rw[h];rw[YG,List.mapM_toArray,Sem.run_map,run_mapT (g:=fun t=>tmps.getD t undef) (by intro t;rfl) ts];simp only[Ys,YR]
 match ts with
 |[]=>rfl
 |[t]=>rfl
 |_::_::_=>simp[resV]
def Fin (ts:List Tmp) (r:SV) (own':List (Nat×Box)) (e:SEx) (st:St):Prop:=(e=.normal\/e=.ret)/\∃st' s ρ,Wk st st'/\resS st' ts=some s/\s.mapR ρ=some r/\ownR ρ st'.own ρ=some own'/\renOk ρ=true
def FinR (ts:List Tmp) (R:SV->List (Nat×Box)->Prop) (e:SEx) (st:St):Prop:=(e=.normal\/e=.ret)/\∃st' s ρ r own',Wk st st'/\resS st' ts=some s/\s.mapR ρ=some r/\ownR ρ st'.own ρ=some own'/\renOk ρ=true/\R r own'
theorem Fin.toR {ts:List Tmp} {r:SV} {own':List (Nat×Box)} {e:SEx} {st:St} (h:Fin ts r own' e st):FinR ts (fun r' o'=>r'=r/\o'=own') e st:=by
 obtain⟨he,st',s,ρ,h1,h2,h3,h4,h5⟩:=h;exact⟨he,st',s,ρ,r,own',h1,h2,h3,h4,h5,rfl,rfl⟩
def argFrS:Nat->List SV->List (Nat×SV)
 |_,[]=>[]
 |k,x::r=>(k,x)::argFrS (k+1) r
theorem argFrS_get:∀{k:Nat} {args:List SV} {t:Nat} {s:SV},lk t (argFrS k args)=some s->k<=t/\args[t-k]?=some s
 |k,[],t,s,h=>by cases h
 |k,x::r,t,s,h=>by
  unfold argFrS at h;rw[qL]at h;by_cases e:t=k
  · rw[Yi e]at h;cases h;subst e;exact⟨Yk _,by simp⟩
  · rw[Yc e]at h;obtain⟨h1,h2⟩:=argFrS_get h;refine⟨by omega,?_⟩;rw[show t-k=(t-(k+1))+1 by omega,List.getElem?_cons_succ];exact h2
theorem argFrS_p:∀(k:Nat) (args:List PV),argFrS k (args.map .p)=argFr k args
 |_,[]=>rfl
 |k,x::r=>by rw[Y2,argFrS,argFr,argFrS_p]
theorem body_run {P:Program} {f:FuncId} {fn:Func} {c:Code} {args:List SV} {own:List (Nat×Box)} {R:SV->List (Nat×Box)->Prop} {ts:List Tmp} (hf:P.funcs[f]?=some fn) (hb:fn.body=some c)
 (hres:fn.results=(ts.map ResultVar.tmp).toArray) (hn:(Nat.ble args.length fn.ntmps&&Nat.ble fn.ntmps 900)=true) (h:SW P c (FinR ts R) ⟨fn.ntmps,argFrS 0 args,own⟩)
 {W:Base} {Sx:Nat->Prop} {γ:Nat->Value} {w:World} {vs:List Value} (hW:BelowB W w) (hh:HeapOk W Sx γ own w) (hl:vs.length=args.length) (hr:∀(i:Nat) (s:SV) (u:Value),args[i]?=some s->vs[i]?=some u->RelS (okO Sx γ own) (hp γ own) w s u):
 Calls P f vs.toArray w fun e w'=>∃v γ' r own',R r own'/\e=.returned v/\BelowB W w'/\HeapOk W Sx γ' own' w'/\RelS (okO Sx γ' own') (hp γ' own') w' r v:=by
 simp only[Yp]at hn;have hn':args.length<=fn.ntmps:=Y8 hn.1;have hn2:fn.ntmps<=900:=Y8 hn.2;refine calls_of_wp hf hb ?_;have hget:∀t,t<args.length->(vs.toArray++Array.replicate (fn.ntmps-vs.toArray.size) undef).getD t undef=vs[t]?.getD undef:=fun t ht=>by
  have:t<vs.length:=by omega
  have h2:(vs.toArray++Array.replicate (fn.ntmps-vs.toArray.size) undef)[t]?=vs[t]?:=by
   rw[Array.getElem?_append_left (by simpa using this)];simp
  rw[Array.getD_eq_getD_getElem?,h2]
 have hI:Sim W Sx γ ⟨fn.ntmps,argFrS 0 args,own⟩ ⟨vs.toArray++Array.replicate (fn.ntmps-vs.toArray.size) undef,[]⟩ w:=by
  refine⟨hW,⟨by simp;omega,hn2⟩,rfl,fun t s ht=>?_,hh⟩;obtain⟨_,hx⟩:=argFrS_get ht;simp only[Nat.sub_zero]at hx;have hlt:t<args.length:=(Yq.1 hx).1;have hv:vs[t]?=some (vs[t]'DP):=Yj DP
  show RelS _ _ _ _ ((vs.toArray++Array.replicate (fn.ntmps-vs.toArray.size) undef).getD t undef);rw[hget t hlt,hv];exact hr t s _ hx hv
 refine h W Sx _ _ w _ hI fun e st' γ' a' w' hI' hq=>?_
 obtain⟨he,st2,s,ρ,r,own',hwk,h1,h2,h3,h4,hR⟩:=hq;obtain⟨γ2,hI2⟩:=hwk W Sx γ' a' w' hI';obtain⟨γ3,k1,k2⟩:=heap_mapR hI2.heap h3 h4;have key:∃v,(results fn a'.tmps).run P w'=.ok v w'/\RelS (okO Sx γ2 st2.own) (hp γ2 st2.own) w' s v:=by
  refine⟨_,run_results hres,?_⟩;unfold resS at h1;split at h1
  · rename_i t;exact hI2.fr t s h1
  · rename_i hne;split at h1
    · rename_i l hl;simp only[Ye]at h1;subst h1;obtain⟨q1,q2⟩:=lks_get hl;have e1:resV a'.tmps ts=.tuple (ts.map fun t=>a'.tmps.getD t undef).toArray:=by
       match ts,hne with
       |[],_=>rfl
       |[t],hne=>exact(hne t rfl).elim
       |_::_::_,_=>rfl
      rw[e1];refine .tup (by simp[q1]) fun i s u hs hu=>?_
      obtain⟨t,g1,g2⟩:=q2 i s hs;rw[YH,g1]at hu;cases hu;exact hI2.fr t s g2
    · cases h1
 obtain⟨v,k3,k4⟩:=key;have fin:a'.defers=[]/\∃v,(results fn a'.tmps).run P w'=.ok v w'/\∃v' γ r own',R r own'/\Ending.returned v=.returned v'/\BelowB W w'/\HeapOk W Sx γ own' w'/\RelS (okO Sx γ own') (hp γ own') w' r v':=
  ⟨hI2.defers,v,k3,v,γ3,r,own',hR,rfl,hI2.below,k1,k2 s v r k4 h2⟩
 rcases he with rfl|rfl
 · exact fin
 · exact fin
theorem heap_nil {w:World} {Sx:Nat->Prop} (hSx:EnOk w Sx) (γ:Nat->Value):HeapOk (entry w) Sx γ [] w:=
 ⟨fun i bx hi=>DN,fun i j bx by_ b hi=>DN,⟨hSx.1,fun b h=>h,fun i bx g hi=>DN,fun _ _=>rfl,hSx.2⟩⟩
theorem belowB_entry {w w':World}:BelowB (entry w) w'↔Below w.heap.size w w':=by
 refine⟨fun h=>⟨h.1.os,h.1.tape,h.1.output,h.1.size,fun k hk=>h.2 k hk⟩,fun h=>⟨h.mono (Yl _),fun b hb=>h.block b hb⟩⟩
theorem qo {P:Program} {f:FuncId} {fn:Func} {c:Code} {args:List PV} {r:SV} {own':List (Nat×Box)} {ts:List Tmp} (hf:P.funcs[f]?=some fn) (hname:(fn.name== "runtime.NumGoroutine")=false) (hb:fn.body=some c)
 (hres:fn.results=(ts.map ResultVar.tmp).toArray) (hn:(Nat.ble args.length fn.ntmps&&Nat.ble fn.ntmps 900)=true) (h:SW P c (Fin ts r own') ⟨fn.ntmps,argFr 0 args,[]⟩):Holds P f args r own':=by
 refine⟨⟨fn,hf,hname,by rw[hb];rfl⟩,fun w Sx vs hSx hl hr=>?_⟩;rw[<-argFrS_p]at h;refine(body_run (args:=args.map .p) hf hb hres (by simpa using hn) (h.mono fun e s q=>q.toR) (belowB_entry.2 (Below.refl _ w)) (heap_nil hSx fun _=>.nilIface) Dk fun i s u hs hu=>?_).mono fun e w' he=>?_
 · rw[YH]at hs;obtain⟨x,hx,rfl⟩:=YP.1 hs;exact .p ((hr i x u hx hu).weak fun b _ hok=>⟨hok,fun i bx hi=>by cases hi⟩)
 · obtain⟨v,γ',r',o',⟨rfl,rfl⟩,h1,h2,h3,h4⟩:=he;exact⟨v,γ',h1,belowB_entry.1 h2,h3,h4⟩
theorem heap_nil' {W:Base} {w:World} {Sx:Nat->Prop} {γ γ':Nat->Value} {own:List (Nat×Box)} (h:Stays W Sx γ own w):HeapOk W Sx γ' [] w:=
 ⟨fun i bx hi=>DN,fun i j bx by_ b hi=>DN,h.keep (Yk _) fun i bx hi=>by cases hi⟩
theorem Holds.row_sl {P:Program} {f:FuncId} {args:List PV} {e:TypeId} {z:Nat} {l:List (List PV)} (h:Holds P f args (.row 0) [(0,.row e z l)]):Holds P f args (.p (.sl z l)) []:=by
 refine⟨h.1,fun w Sx vs hSx hl hr=>(h.2 w Sx vs hSx hl hr).mono fun en w' he=>?_⟩;obtain⟨v,γ,rfl,h1,h2,h3⟩:=he;refine⟨v,γ,rfl,h1,heap_nil' h2.sx,.p ?_⟩;have hI:Sim (entry w) Sx γ ⟨1,[(0,.row 0)],[(0,.row e z l)]⟩ ⟨#[v],[]⟩ w':=by
  refine⟨belowB_entry.2 h1,⟨rfl,show 1<=900 by omega⟩,rfl,fun t s ht=>?_,h2⟩;rw[qL]at ht;by_cases e:t=0
  · subst e;rw[Yi rfl]at ht;cases ht;exact h3
  · rw[Yc e]at ht;cases ht
 obtain⟨γ',hI'⟩:=qu (k:=0) (e:=e) (z:=z) (l:=l) rfl (entry w) Sx γ _ w' hI;have:=(hI'.fr 0 (.p (.sl z l)) rfl).p_inv;exact this.weak fun b _ hok=>⟨hok.1,fun i bx hi=>by cases hi⟩
theorem typesOk_nil {P:Program}:zm P []:=fun t i h=>by cases h
theorem qk {P:Program} {T:TT} {t:TypeId} {i:TyI} (h:TyOk P t i) (hT:zm P T):zm P ((t,i)::T):=fun u j hj=>by
 rw[qL]at hj;by_cases e:u=t
 · rw[Yi e]at hj;cases hj;subst e;exact h
 · rw[Yc e]at hj;exact hT u j hj
def infoB (P:Program) (t:TypeId):Option (Nat×Nat×Option (List Value)):=(P.info? t).map fun i=>(i.size,i.bytes,i.zero.map (·.cells.toList))
theorem qx {P:Program} {t:TypeId} {n b:Nat} {z:List Value} (h:infoB P t=some (n,b,some z)):∃info zv,P.info? t=some info/\info.size=n/\info.bytes=b/\info.zero=some zv/\zv.cells.toList=z:=by
 unfold infoB at h;cases hi:P.info? t with
 |none=>rw[hi]at h;cases h
 |some info=>
  rw[hi]at h;simp only[Option.map_some,Ye,Yt,YP]at h;obtain⟨h1,h2,zv,h3,h4⟩:=h;exact⟨info,zv,rfl,h1,h2,h3,h4⟩
def fieldsB (P:Program) (t:TypeId):Option (List (Nat×TypeId)):=match P.underlying t with
 |some (.struct fs)=>some (fs.toList.map fun f=>(f.offset,f.type))
 |_=>none
theorem qH {P:Program} {t:TypeId} {fs:List (Nat×TypeId)} (h:fieldsB P t=some fs):jV P t (.st fs):=by
 unfold fieldsB at h;split at h
 · rename_i fields hu;exact⟨fields,hu,by simpa using h⟩
 · cases h
def isPtrB (P:Program) (t:TypeId):Bool:=match P.underlying t with|some (.pointer _)=>true|_=>false
theorem ptr_of {P:Program} {t:TypeId} (h:isPtrB P t=true):jV P t .ptr:=by
 unfold isPtrB at h;split at h
 · rename_i e hu;exact⟨e,hu⟩
 · cases h
def isIfcB (P:Program) (t:TypeId):Bool:=match P.underlying t with
 |some (.interface _)=>true
 |_=>false
theorem ifc_of {P:Program} {t:TypeId} (h:isIfcB P t=true):jV P t .ifc:=by
 unfold isIfcB at h;split at h
 · rename_i m hu;exact⟨m,hu⟩
 · cases h
def vOf (agg:Bool) (xs:List PV):Value:=match agg with
 |true=>.agg (xs.map unv).toArray
 |false=>match xs with
  |x::_=>unv x
  |[]=>.nilIface
def EqT (P:Program) (d:Nat) (t:TypeId) (agg:Bool) (z:List Value):Prop:=∀(xs ys:List PV) (b:Bool) (w:World),eqL xs ys=some b->jh xs z=true->(Op.equalIn d t (vOf agg xs) (vOf agg ys)).run P w=.ok b w
theorem eqC_int {n:Int} {y:PV} {b:Bool} (h:eqC (.v (.int .i64 n)) y=some b):∃s',y=.v (.int .i64 s')/\b=(n==s'):=by
 unfold eqC at h;split at h<;>first|(cases h;done)|(rename_i h1 h2;cases h1;cases h;exact⟨_,rfl,rfl⟩)|(rename_i h1;cases h1;cases h;exact⟨_,rfl,rfl⟩)|(rename_i h1;cases h1;done)
theorem eqC_str {s:DT} {y:PV} {b:Bool} (h:eqC (.v (.string s)) y=some b):∃s',y=.v (.string s')/\b=(s.toList==s'.toList):=by
 unfold eqC at h;split at h<;>first|(cases h;done)|(rename_i h1 h2;cases h1;cases h;exact⟨_,rfl,rfl⟩)|(rename_i h1;cases h1;cases h;exact⟨_,rfl,rfl⟩)|(rename_i h1;cases h1;done)
theorem eqC_bool {s:Bool} {y:PV} {b:Bool} (h:eqC (.v (.bool s)) y=some b):∃s',y=.v (.bool s')/\b=(s==s'):=by
 unfold eqC at h;split at h<;>first|(cases h;done)|(rename_i h1 h2;cases h1;cases h;exact⟨_,rfl,rfl⟩)|(rename_i h1;cases h1;cases h;exact⟨_,rfl,rfl⟩)|(rename_i h1;cases h1;done)
theorem eqL_one {x:PV} {ys:List PV} {b:Bool} (h:eqL [x] ys=some b):∃y,ys=[y]/\eqC x y=some b:=by
 match ys with
 |[]=>simp[eqL]at h
 |[y]=>
  refine⟨y,rfl,?_⟩;unfold eqL at h;split at h
  · rename_i a ha;simp only[eqL,Ye,Bool.and_true]at h;rw[ha,h]
  · cases h
 |y::y2::ys=>
  unfold eqL at h;split at h
  · simp[eqL]at h
  · cases h
theorem eqL_append:∀{x1 ys x2:List PV} {b:Bool},eqL (x1++x2) ys=some b->∃b1 b2,eqL x1 (ys.take x1.length)=some b1/\eqL x2 (ys.drop x1.length)=some b2/\b=(b1&&b2)
 |[],ys,x2,b,h=>⟨true,b,by simp[eqL],by simpa using h,rfl⟩
 |x::x1,ys,x2,b,h=>by
  match ys with
  |[]=>simp[eqL]at h
  |y::ys=>
   rw[Y5]at h;unfold eqL at h;split at h
   · rename_i a ha;split at h
     · rename_i r hr;simp only[Ye]at h;subst h;obtain⟨b1,b2,h1,h2,rfl⟩:=eqL_append hr;refine⟨a&&b1,b2,?_,by simpa using h2,by rw[Bool.and_assoc]⟩;simp only[Yg,Y4,eqL,ha,h1]
     · cases h
   · cases h
theorem qbb:∀{z1:List Value} {xs:List PV} {z2:List Value},jh xs (z1++z2)=true->jh (xs.take z1.length) z1=true/\jh (xs.drop z1.length) z2=true/\z1.length<=xs.length
 |[],xs,z2,h=>⟨by simp[jh],by simpa using h,Yl _⟩
 |z::z1,xs,z2,h=>by
  match xs with
  |[]=>simp[jh]at h
  |x::xs=>
   rw[Y5]at h;unfold jh at h;split at h<;>first|(cases h;done)|skip
   all_goals
    first
     |(rename_i h1 h2;cases h1;cases h2;obtain⟨g1,g2,g3⟩:=qbb h;exact⟨by simpa [jh]using g1,by simpa using g2,by simp;omega⟩)
     |(rename_i h1 h2;cases h1;done)
theorem typedL_len:∀{z:List Value} {xs:List PV},jh xs z=true->xs.length=z.length:=fun{z xs} h=>by
 have:=qbb (z1:=z) (z2:=[]) (xs:=xs) DA;obtain⟨_,h2,h3⟩:=this
 match hx:xs.drop z.length with
 |[]=>have:=congrArg List.length hx;simp at this;omega
 |x::r=>rw[hx]at h2;simp[jh]at h2
theorem eqL_len:∀{xs ys:List PV} {b:Bool},eqL xs ys=some b->ys.length=xs.length
 |[],[],_,_=>rfl
 |[],_::_,_,h=>by simp[eqL]at h
 |_::_,[],_,h=>by simp[eqL]at h
 |x::xs,y::ys,b,h=>by
  unfold eqL at h;split at h
  · split at h
    · rename_i r hr;simp[eqL_len hr]
    · cases h
  · cases h
theorem typed_one {xs:List PV} {z:Value} (h:jh xs [z]=true):∃x,xs=[x]/\jh [x] [z]=true:=by
 have hl:=typedL_len h
 match xs,hl with
 |[x],_=>exact⟨x,rfl,h⟩
theorem typed_int {x:PV} {n:Int} (h:jh [x] [.int .i64 n]=true):∃a,x=.v (.int .i64 a):=by
 unfold jh at h;split at h<;>first|(cases h;done)|(rename_i h1 h2;cases h1;cases h2;exact⟨_,rfl⟩)|(rename_i h1 h2;cases h1;done)|(rename_i h1 h2;cases h2;done)
theorem typed_str {x:PV} {n:DT} (h:jh [x] [.string n]=true):∃a,x=.v (.string a):=by
 unfold jh at h;split at h<;>first|(cases h;done)|(rename_i h1 h2;cases h1;cases h2;exact⟨_,rfl⟩)|(rename_i h1 h2;cases h1;done)|(rename_i h1 h2;cases h2;done)
theorem typed_bool {x:PV} {n:Bool} (h:jh [x] [.bool n]=true):∃a,x=.v (.bool a):=by
 unfold jh at h;split at h<;>first|(cases h;done)|(rename_i h1 h2;cases h1;cases h2;exact⟨_,rfl⟩)|(rename_i h1 h2;cases h1;done)|(rename_i h1 h2;cases h2;done)
theorem eqt_int {P:Program} {t:TypeId} (d:Nat) (n:Int) (h:P.underlying t=some (.int .i64)):EqT P (d+1) t false [.int .i64 n]:=by
 intro xs ys b w he ht;obtain⟨x,rfl,hx⟩:=typed_one ht;obtain⟨a,rfl⟩:=typed_int hx;obtain⟨y,rfl,hy⟩:=eqL_one he;obtain⟨c,rfl,rfl⟩:=eqC_int hy;exact run_equalIn_int w d t .i64 .i64 a c h
theorem eqt_str {P:Program} {t:TypeId} (d:Nat) (n:DT) (h:P.underlying t=some .string):EqT P (d+1) t false [.string n]:=by
 intro xs ys b w he ht;obtain⟨x,rfl,hx⟩:=typed_one ht;obtain⟨a,rfl⟩:=typed_str hx;obtain⟨y,rfl,hy⟩:=eqL_one he;obtain⟨c,rfl,rfl⟩:=eqC_str hy;exact run_equalIn_string w d t a c h
theorem eqt_bool {P:Program} {t:TypeId} (d:Nat) (n:Bool) (h:P.underlying t=some .bool):EqT P (d+1) t false [.bool n]:=by
 intro xs ys b w he ht;obtain⟨x,rfl,hx⟩:=typed_one ht;obtain⟨a,rfl⟩:=typed_bool hx;obtain⟨y,rfl,hy⟩:=eqL_one he;obtain⟨c,rfl,rfl⟩:=eqC_bool hy;exact run_equalIn_bool' w d t a c h
inductive EqFs (P:Program) (d:Nat):Nat->List Field->List Value->Prop
 |nil {off:Nat}:EqFs P d off [] []
 |cons {off:Nat} {f:Field} {fs:List Field} {i:TyI} {z:List Value} (hoff:f.offset=off) (hn:f.name≠ "_") (hi:TyOk P f.type i) (hz:i.zero.length=i.size) (ha:i.d.agg=false→i.size=1) (he:EqT P d f.type i.d.agg i.zero) (h:EqFs P d (off+i.size) fs z):EqFs P d off (f::fs) (i.zero++z)
theorem eqFs_run {P:Program} {d:Nat} (w:World):∀{off:Nat} {fs:List Field} {z:List Value},EqFs P d off fs z->∀(xs ys:List PV) (b:Bool),ys.length=xs.length->eqL (xs.drop off) (ys.drop off)=some b->jh (xs.drop off) z=true->
 (Op.eqFields d (xs.map unv).toArray (ys.map unv).toArray fs).run P w=.ok b w:=by
 intro off fs z h
 induction h with
 |@nil off=>
  intro xs ys b hl he ht;have h0:=typedL_len ht;have h1:xs.drop off=[]:=Xi h0;rw[h1]at he;have h2:ys.drop off=[]:=Xi (by have:=eqL_len he;simpa using this);rw[h2]at he;simp only[eqL,Ye]at he;subst he;rfl
 |@cons off f fs i z hoff hn hi hz ha hE h ih=>
  intro xs ys b hl he ht;obtain⟨t1,t2,t3⟩:=qbb ht;rw[hz]at t1 t2 t3;have hx:xs.drop off=(xs.drop off).take i.size++(xs.drop off).drop i.size:=(Xq _ _).symm;rw[hx]at he;obtain⟨b1,b2,e1,e2,rfl⟩:=eqL_append he;have hlen:((xs.drop off).take i.size).length=i.size:=by simp only[Yd];omega
  rw[hlen]at e1 e2;have key:=hE _ _ b1 w e1 t1;have part_ok:∀zs:List PV,i.size<=(zs.drop off).length->(part f.type (zs.map unv).toArray f.offset).run P w=.ok (vOf i.d.agg ((zs.drop off).take i.size)) w:=fun zs hzl=>by
   refine run_partT hi (fun hg=>?_) (fun hg=>?_) w
   · rw[hg,hoff];exact⟨by simp only[vOf,List.map_take,List.map_drop],by simpa using hzl⟩
   · rw[hg,hoff];have h1:=ha hg;rw[h1]at hzl⊢;cases hd:zs.drop off with
     |nil=>rw[hd]at hzl;simp at hzl
     |cons q r=>rw[<-List.map_drop,hd];rfl
  simp only[Op.eqFields];rw[Yi hn];rw[YG,part_ok xs t3];simp only[Ys];rw[YG,part_ok ys (by simp only[Yo]at t3⊢;omega)];simp only[Ys];rw[YG,key];simp only[Ys];have ih':=ih xs ys b2 hl (by rw[<-List.drop_drop,<-List.drop_drop];exact e2) (by rw[<-List.drop_drop];exact t2);cases b1 with
  |false=>simp
  |true=>simpa using ih'
theorem qW {P:Program} {t:TypeId} {d:Nat} {fields:Array Field} {z:List Value} (hu:P.underlying t=some (.struct fields)) (hs:P.stoodInHeld t=false) (h:EqFs P d 0 fields.toList z):EqT P (d+1) t true z:=by
 intro xs ys b w he ht;have hf:P.fieldsOf t=fields:=by unfold Program.fieldsOf;rw[hu]
 show(Op.equalIn (d+1) t (.agg (xs.map unv).toArray) (.agg (ys.map unv).toArray)).run P w=_;rw[run_equalIn_struct w d t _ _ (by rw[hf];exact hu) hs,hf];exact eqFs_run w h xs ys b (eqL_len he) (by simpa using he) (by simpa using ht)
section
variable {P:Program} {ops:Array Oper} {md:Region.Mode} {Q:Exit->Act->World->Prop}
def wpMoveS (P:Program) (ops:Array Oper) (Q:Exit->Act->World->Prop):(World->Prop)->List (Nat×Bool)->Act->World->Prop
 |_,[],a,w=>Q .normal a w
 |S,(i,true)::r,a,w=>S w/\∃o v,ops[i]?=some o/\YieldsIf P ops S o v a/\wpMoveS P ops Q S r (a.put o.dst v) w
 |S,(i,false)::r,a,w=>wpOp P ops Q i (fun a' w'=>∃S':World->Prop,(∀x,S' x->S x)/\S' w'/\wpMoveS P ops Q S' r a' w') a w
theorem qbv (hs:Region.noSelect ops=true) (hQ:∀c a d v w,Q (.panic c) (a.put d v) w->Q (.panic c) a w):∀(r:List (Nat×Bool)) (S:World->Prop) (ls:Array Bool) (a:Act) (w:World),
 qaQ md ops r ls=true->wpMoveS P ops Q S r a w->wpAnyH P md ops Q S r.length ls a w
 |[],S,ls,a,w,hB,h=>⟨by simpa [qaQ]using hB,h⟩
 |(i,true)::r,S,ls,a,w,hB,h=>by
  obtain⟨hS,o,v,ho,hy,hr⟩:=h;simp only[qaQ,if_true,Yp]at hB;exact wpAnyH_take ho hs hB.1.1 hB.1.2 (fun c a w h=>hQ c a _ _ w h) hy hS (qbv hs hQ r S _ _ w hB.2 hr)
 |(i,false)::r,S,ls,a,w,hB,h=>by
  simp only[qaQ,YC,if_false,Yp,beq_iff_eq]at hB;refine wpAnyH_all hB.1 DQ fun j hj=>?_
  obtain rfl:j=i:=by simpa using hj
  exact wpOp_mono (fun a' w' h'=>by
   obtain⟨S',h1,h2,h3⟩:=h';exact⟨h1 _ h2,wpAnyH_weak h1 _ _ _ _ (qbv hs hQ r S' _ _ _ hB.2 h3)⟩) h
end
def SWM (P:Program) (ops:List Oper) (K:List Nat) (order:List (Nat×Bool)) (Q:St->Prop) (st:St):Prop:=∀(w0:Base) (Sx:Nat->Prop) (γ:Nat->Value) (a:Act) (w:World) (QQ:Exit->Act->World->Prop),Sim w0 Sx γ st a w->
 (∀st' γ' a' w',Sim w0 Sx γ' st' a' w'->Q st'->QQ .normal a' w')->wpMoveS P ops.toArray (NoPanic QQ) (fun x=>SameOn (vis K γ st.own) w x) order a w
theorem SameOn.refl (p:Nat->Prop) (w:World):SameOn p w w:=⟨Nat.le_refl _,fun _ _ _=>rfl⟩
theorem qaE (st:St) (dst:Option Tmp) (s:SV):(st.put dst s).own=st.own:=by cases dst<;>rfl
theorem Sim.drew {w0:Base} {Sx:Nat->Prop} {γ:Nat->Value} {st:St} {a:Act} {w:World} (h:Sim w0 Sx γ st a w):Sim w0 Sx γ st a w.drew:=by
 have keep:∀{s:SV} {u:Value},RelS (okO Sx γ st.own) (hp γ st.own) w s u->RelS (okO Sx γ st.own) (hp γ st.own) w.drew s u:=fun{s u} hr=>
  RelS.keep2 (w:=w) (w':=w.drew) (Yk w.heap.size) (fun b _ hok=>⟨rfl,hok⟩) hr fun _ _=>rfl
 refine⟨⟨h.below.1.drew,h.below.2⟩,h.size,h.defers,fun t s ht=>keep (h.fr t s ht),fun i bx hi=>?_,h.heap.inj,h.heap.sx.grow (Yk _)⟩;exact(h.heap.box i bx hi).keep (w':=w.drew) (Box.rel_refl _) rfl (Yk w.heap.size) (fun b hb=>⟨rfl,(h.heap.blk hi hb).1⟩) (fun b _ hok=>⟨rfl,hok⟩) fun s u s' hs es=>by subst es;exact keep hs
section
variable {P:Program} {T:TT} (hT:zm P T) {ops:List Oper} {K:List Nat} {st:St} {Q:St->Prop} {i:Nat} {r:List (Nat×Bool)} {o:Oper}
theorem qT (h:Q st):SWM P ops K [] Q st:=fun _ _ γ a w _ hI hQ=>hQ st γ a w hI h
include hT in
theorem qJ {b:Bool} {c:Prop} {s:SV} (hi:nthO ops i=some o) (hw:wl ops st o=some true) (hr:opR T (bif b then K else []) st o.op=some (c,s)) (hc:c) (hd:jW st o.dst=true) (h:SWM P ops K r Q (st.put o.dst s)):SWM P ops K ((i,b)::r) Q st:=fun w0 Sx γ a w QQ hI hQ=>by
 have hrest:=fun v (hv:RelS (okO Sx γ st.own) (hp γ st.own) w s v)=>h w0 Sx γ _ w QQ (hI.put (dst:=o.dst) hd hv) hQ
 simp only[qaE]at hrest;cases b with
 |true=>
  obtain⟨v,h1,h2⟩:=opR_ok hT hI (K:=K) hr hc;exact⟨SameOn.refl _ _,o,v,(jB ops i).trans hi,Or.inl ⟨wC hI hw,h2⟩,hrest v h1⟩
 |false=>
  obtain⟨v,h1,h2⟩:=opR_ok hT hI (K:=[]) hr hc;unfold wpMoveS wpOp;rw[(jB ops i).trans hi];simp only[wC hI hw,if_true];refine Or.inl ?_;unfold Oper.wp;rw[h2 w (SameOn.refl _ _)];exact⟨_,fun x hx=>hx,SameOn.refl _ _,hrest v h1⟩
theorem swm_skip {b:Bool} (hi:nthO ops i=some o) (hw:wl ops st o=some false) (hd:jW st o.dst=true) (h:SWM P ops K r Q (st.put o.dst (.tup []))):SWM P ops K ((i,b)::r) Q st:=fun w0 Sx γ a w QQ hI hQ=>by
 have hrest:=h w0 Sx γ _ w QQ (hI.skip hd) hQ;simp only[qaE]at hrest;cases b with
 |true=>exact⟨SameOn.refl _ _,o,undef,(jB ops i).trans hi,Or.inr ⟨wC hI hw,rfl⟩,hrest⟩
 |false=>
  unfold wpMoveS wpOp;rw[(jB ops i).trans hi];simp only[wC hI hw,YC,if_false];exact⟨_,fun x hx=>hx,SameOn.refl _ _,hrest⟩
theorem swm_act {Ws:List Nat} (hi:nthO ops i=some o) (hw:wl ops st o=some true) (hK:Ws.all (fun j=>K.contains j)=true) (h:ActOk P Ws o st (SWM P ops K r Q)):SWM P ops K ((i,false)::r) Q st:=fun w0 Sx γ a w QQ hI hQ=>by
 have hsub:∀j∈Ws,j∈K:=fun j hj=>by simpa using YE.1 hK j hj
 unfold wpMoveS wpOp;rw[(jB ops i).trans hi];simp only[wC hI hw,if_true];refine Or.inl ?_;have:=h w0 Sx γ a w (NoPanic QQ) hI
 have mono:∀{a' w'},(∃γ' st',SWM P ops K r Q st'/\Sim w0 Sx γ' st' a' w'/\SameOn (vis Ws γ st.own) w w'/\∀K:List Nat,(∀i∈Ws,i∈K)->∀b,b<w.heap.size->vis K γ st.own b->vis K γ' st'.own b)->
  ∃S':World->Prop,(∀x,S' x->SameOn (vis K γ st.own) w x)/\S' w'/\wpMoveS P ops.toArray (NoPanic QQ) S' r a' w':=fun{a' w'} ⟨γ',st',h1,h2,h3,h4⟩=>
  ⟨fun x=>SameOn (vis K γ' st'.own) w' x,fun x hx=>⟨Xj h3.size hx.size,fun b hb hv=>by
   have e1:=h3.block b hb (fun j bx hj hjW hjb=>hv j bx hj (by simpa using hsub j (by simpa using hjW)) hjb);have e2:=hx.block b (Xs hb h3.size) (h4 K hsub b hb hv);exact e2.trans e1⟩,SameOn.refl _ _,h1 w0 Sx γ' a' w' QQ h2 hQ⟩
 unfold Oper.wp at this⊢;generalize (execOp a.eval o).run P w=res at*;cases res with
 |ok n w'=>
  cases n<;>simp only[Oper.upon]at this⊢<;>first
   |exact mono this
   |exact this
   |exact Calls.mono this (fun e w'' he=>by cases e<;>first|exact mono he|exact he)
   |exact Rows.mono this (fun _ _ he=>mono he)
 |halt x w'=>cases x<;>simp only[Oper.upon]at this⊢<;>exact this
theorem sw_region_draw {id:Nat} {l:List Oper} {QS:SEx->St->Prop} (K:List Nat) (order:List (Nat×Bool)) (hm:P.follows .mixedOrders=true) (hs:Region.noSelect l.toArray=true)
 (hB:(qaQ .any l.toArray order (Array.replicate l.toArray.size false)&&order.length==l.toArray.size)=true) (h:SWM P l K order (QS .normal) st):SW P (.region id l.toArray true) QS st:=fun w0 Sx γ a w QQ hI hQ=>by
 simp only[Yp,beq_iff_eq]at hB;refine wp_region_noPanic (wp_region_held (S:=fun x=>SameOn (vis K γ st.own) w.drew x) hm ?_);have h1:=h w0 Sx γ a w.drew QQ hI.drew fun s' γ' a' w' hI' hq=>hQ .normal s' γ' a' w' hI' hq
 have:=qbv (md:=.any) hs (fun _ _ _ _ _ h=>h) order _ (Array.replicate l.toArray.size false) a w.drew hB.1 h1;rw[hB.2]at this;exact this
end
theorem Sim.grow {w0:Base} {Sx:Nat->Prop} {γ:Nat->Value} {st:St} {a:Act} {w w':World} (hI:Sim w0 Sx γ st a w) (hb:Below w.heap.size w w'):Sim w0 Sx γ st a w':=by
 refine⟨hI.below.grow hI.heap.sx hb,hI.size,hI.defers,fun t s ht=>(hI.fr t s ht).keep2 hb.size (fun b hlt hok=>⟨hb.block b hlt,hok⟩) fun _ _=>rfl,⟨fun i bx hi=>?_,hI.heap.inj,hI.heap.sx.grow hb.size⟩⟩;exact(hI.heap.box i bx hi).keep (Box.rel_refl _) rfl hb.size (fun b hb'=>⟨hb.block b (hI.heap.blk hi hb').2,(hI.heap.blk hi hb').1⟩) (fun b hlt hok=>⟨hb.block b hlt,hok⟩) fun s u s' hs es=>by subst es;exact hs.keep2 hb.size (fun b hlt hok=>⟨hb.block b hlt,hok⟩) fun _ _=>rfl
theorem call_enter {P:Program} {st:St} {w0:Base} {Sx:Nat->Prop} {γ:Nat->Value} {a:Act} {w:World} (hI:Sim w0 Sx γ st a w) {o:Oper} {cl:Call} {fo:Operand} {f:FuncId} {caps:List PV} {ps:List PV} {ids:List Nat} {r:SV} {own':List (Nat×Box)}
 (ho:o.op=.call cl) (hcl:cl.callee=.value fo) (hfo:evS st fo=some (.p (.fn f caps))) (hargs:argPs st cl.args.toList=some (ps,ids)) (H:Holds P f (ps++caps) r own'):
 ∃args,(execOp a.eval o).run P w=.ok (.enter f args) w/\Calls P f args w fun e w'=>∃v γ1,e=.returned v/\Below w.heap.size w w'/\HeapOk (entry w) (qaX Sx γ st.own ids) γ1 own' w'/\RelS (okO (qaX Sx γ st.own ids) γ1 own') (hp γ1 own') w' r v:=by
 obtain⟨⟨fn,hfn,hname,hbody⟩,H⟩:=H;obtain⟨k1,k2⟩:=argPs_ok hI hargs;have hf:=(qK hI hfo).p_inv;generalize hfv:a.eval fo=u at hf;cases hf with
 |@fn _ _ us hl hr=>
 have hlt:=lentX_en hI ids;have hc:=H w (qaX Sx γ st.own ids) (cl.args.toList.map a.eval++us) hlt EQ fun i s v hs hv=>by
  by_cases hi:i<ps.length
  · rw[Yw hi]at hs;rw[Yw EZ]at hv;exact k2 i s v hs hv
  · rw[Yy DP]at hs;rw[Yy Da,Yb,k1]at hv;exact(hr _ s v hs hv).weak fun b _ hok hl=>by
     rcases hl with hl|⟨i,bx,h1,_,h2⟩
     · exact hok.1 hl
     · exact hok.2 i bx h1 h2
 refine⟨_,?_,hc⟩;have e:(cl.args.toList.map a.eval++us).toArray=cl.args.map a.eval++us.toArray:=by
  apply Xw.1;simp
 rw[e];have:=qav hfn hname hbody (cl.args.map a.eval++us.toArray) w;exact Um
def valP:PV->Value
 | .v x=>x
 | .agg cs=>.agg (cs.map unv).toArray
 |_=>.nilIface
def valS:SV->Value
 | .p x=>valP x
 | .tup cs=>.tuple (cs.map fun c=>match c with| .p x=>valP x|_=>.nilIface).toArray
 |_=>.nilIface
theorem jn {ok:Nat->Prop} {w:World} {x:PV} {u:Value} (h:RelP ok w x u) (hf:flatP x=true):u=valP x:=by
 cases h with
 |v h=>rfl
 |@agg cs us hl h=>
  show Value.agg us.toArray=.agg (cs.map unv).toArray;congr 2;refine List.ext_getElem? fun i=>?_
  by_cases hi:i<cs.length
  · have h1:cs[i]?=some cs[i]:=Yj hi
    have h2:us[i]?=some (us[i]'DP):=Yj DP
    have h3:=h i _ _ h1 h2;have h4:=YE.1 hf cs[i] (Yn hi);rw[YH,h1,h2];generalize cs[i]=c at h3 h4;cases c with
    |v x=>cases h3;rfl
    |_=>cases h4
  · rw[YT DP,YH,YT DP];rfl
 |sl=>cases hf
 |rp=>cases hf
 |fn=>cases hf
theorem valS_ok {ok:Nat->Prop} {H:Nat->Option Value} {w:World} {x:SV} {u:Value} (h:RelS ok H w x u) (hf:flatS x=true):u=valS x:=by
 cases h with
 |p h=>exact jn h hf
 |@tup cs us hl h=>
  show Value.tuple us.toArray=.tuple _;congr 2;refine List.ext_getElem? fun i=>?_
  by_cases hi:i<cs.length
  · have h1:cs[i]?=some cs[i]:=Yj hi
    have h2:us[i]?=some (us[i]'DP):=Yj DP
    have h3:=h i _ _ h1 h2;have h4:=YE.1 hf cs[i] (Yn hi);rw[YH,h1,h2];generalize cs[i]=c at h3 h4;cases c with
    |p x=>cases h3 with|p h=>rw[jn h h4];rfl
    |_=>cases h4
  · rw[YT DP,YH,YT DP];rfl
 |_=>cases hf
def SWS (P:Program) (ops:List Oper) (l:List Oper) (Q:St->Prop) (st:St):Prop:=∀(w0:Base) (Sx:Nat->Prop) (γ:Nat->Value) (a:Act) (w:World) (Qs:Act->Prop),Sim w0 Sx γ st a w->
 (∀st' a',Sim w0 Sx γ st' a' w->Q st'->Qs a')->wpSpec P ops.toArray (fun x=>∃d,x=ext w d) Qs l a
def jk:List Oper->List (Nat×SV)->List (Nat×SV)
 |[],fr=>fr
 |o::l,fr=>match o.guard,o.dst with
  |some _,some d=>(d,.junk)::jk l fr
  |_,_=>jk l fr
theorem lk_jk (t:Nat):∀(l:List Oper) (fr:List (Nat×SV)) (s:SV),lk t (jk l fr)=some s->(s=.junk)\/(lk t fr=some s/\¬∃o∈l,o.dst=some t/\o.guard.isSome=true)
 |[],fr,s,h=>Or.inr ⟨h,by simp⟩
 |o::l,fr,s,h=>by
  unfold jk at h;split at h
  · rename_i g d hg hd;rw[qL]at h;by_cases e:t=d
    · rw[Yi e]at h;cases h;exact Or.inl rfl
    · rw[Yc e]at h;rcases lk_jk t l fr s h with h|⟨h1,h2⟩
      · exact Or.inl h
      · refine Or.inr ⟨h1,?_⟩;rintro⟨q,hq,h3,h4⟩;rcases Y0.1 hq with rfl|hq
        · rw[hd]at h3;exact e (YS h3).symm
        · exact h2 ⟨q,hq,h3,h4⟩
  · rename_i hn;rcases lk_jk t l fr s h with h|⟨h1,h2⟩
    · exact Or.inl h
    · refine Or.inr ⟨h1,?_⟩;rintro⟨q,hq,h3,h4⟩;rcases Y0.1 hq with rfl|hq
      · obtain⟨g,hg⟩:=Yv.1 h4;exact hn g t hg h3
      · exact h2 ⟨q,hq,h3,h4⟩
def St.jk (st:St) (l:List Oper):St:=⟨st.n,Proofs.YtblgnefkgkchhaaGreatDoor.jk l st.fr,st.own⟩
theorem Sim.jk {w0:Base} {Sx:Nat->Prop} {γ:Nat->Value} {st:St} {a:Act} {w:World} (h:Sim w0 Sx γ st a w) (us:Nat->Value) (l:List Oper):Sim w0 Sx γ (st.jk l) (junk us l a) w:=by
 obtain⟨j1,j2⟩:=junk_size us l a;refine⟨h.below,⟨j1.trans h.size.1,h.size.2⟩,j2.trans h.defers,fun t s ht=>?_,h.heap⟩;rcases lk_jk t l st.fr s ht with rfl|⟨h1,h2⟩
 · exact .junk
 · rw[junk_getD us t l a (fun _ _=>Or.inr trivial),Yc (fun h=>h2 h.1)];exact h.fr t s h1
section
variable {P:Program} {T:TT} (hT:zm P T) {ops:List Oper} {st:St} {Q:St->Prop} {o:Oper} {rest:List Oper}
theorem qN (h:Q st):SWS P ops [] Q st:=fun _ _ _ a _ _ hI hQ=>hQ st a hI h
include hT in
theorem qn {c:Prop} {s:SV} (hr:opR T [] st o.op=some (c,s)) (hc:c) (hd:jW st o.dst=true) (h:SWS P ops rest Q (st.put o.dst s)):SWS P ops (o::rest) Q st:=fun w0 Sx γ a w Qs hI hQ=>by
 obtain⟨v,h1,h2⟩:=opR_ok hT hI (K:=[]) hr hc;refine⟨v,fun _ x hx=>?_,h w0 Sx γ _ w Qs (hI.put hd h1) hQ⟩;obtain⟨d,rfl⟩:=hx;unfold Oper.quietAt;have hb:=wg w d;rw[h2 _ ⟨hb.size,fun b hb' _=>hb.block b hb'⟩];exact⟨rfl,rfl⟩
theorem qV {cl:Call} {fo:Operand} {f:FuncId} {caps:List PV} {ps:List PV} {ids:List Nat} {r:SV} (ho:o.op=.call cl) (hcl:cl.callee=.value fo) (hfo:evS st fo=some (.p (.fn f caps))) (hargs:argPs st cl.args.toList=some (ps,ids))
 (H:Holds P f (ps++caps) r []) (hd:jW st o.dst=true) (hfl:flatS r=true) (h:SWS P ops rest Q (st.put o.dst r)):SWS P ops (o::rest) Q st:=fun w0 Sx γ a w Qs hI hQ=>by
 have hrel:∀x,Below w.heap.size w x->∃args,(execOp a.eval o).run P x=.ok (.enter f args) x/\Calls P f args x (fun e w''=>e=.returned (valS r)/\Below x.heap.size x w''/\RelS (okO Sx γ st.own) (hp γ st.own) w r (valS r)):=fun x hx=>by
  obtain⟨args,g1,g2⟩:=call_enter (hI.grow hx) ho hcl hfo hargs H;refine⟨args,g1,g2.mono fun e w' he=>?_⟩;obtain⟨v,γ1,rfl,h1,_,h3⟩:=he;have hv:=valS_ok h3 hfl;subst hv;exact⟨rfl,h1,h3.flat hfl⟩
 have hr:RelS (okO Sx γ st.own) (hp γ st.own) w r (valS r):=by
  obtain⟨args,g1,g2⟩:=hrel w (Below.refl _ _);obtain⟨e,w',fr,hR,_⟩:=g2 [];exact hR.2.2
 refine⟨valS r,fun _ x hx=>?_,h w0 Sx γ _ w Qs (hI.put hd hr) hQ⟩;obtain⟨d,rfl⟩:=hx;obtain⟨args,g1,g2⟩:=hrel _ (wg w d);unfold Oper.quietAt;rw[g1];exact⟨rfl,g2.mono fun e w'' he=>⟨he.1,ext_ext he.2.1⟩⟩
theorem qr {id:Nat} {l:List Oper} {QS:SEx->St->Prop} (hS:specB l.toArray=true) (h:SWS P l l (fun s=>QS .normal (s.jk l)) st):SW P (.region id l.toArray false) QS st:=fun w0 Sx γ a w QQ hI hQ=>
 wp_spec_ext hS (h w0 Sx γ a w _ hI fun st' a' hI' hq us w' hb=>hQ .normal _ γ _ w' ((hI'.grow hb).jk us l) hq)
theorem sw_region_spec_draw {id:Nat} {l:List Oper} {QS:SEx->St->Prop} (hm:P.follows .mixedOrders=true) (hB:Region.lexB .any l.toArray=true) (hS:specB l.toArray=true) (h:SWS P l l (fun s=>QS .normal (s.jk l)) st):SW P (.region id l.toArray true) QS st:=fun w0 Sx γ a w QQ hI hQ=>
 qaz hm hB hS (h w0 Sx γ a w _ hI fun st' a' hI' hq us w' hb=>hQ .normal _ γ _ w' ((hI'.grow hb).jk us l) hq)
end
theorem flat_setC {z:Nat} {css:List (Cel z)} {k off:Nat} (hk:k<css.length) {vs:List Value} (hf:off+vs.length<=z) {c':Cel z} (hc:c'.val=css[k].val.take off++vs++css[k].val.drop (off+vs.length)):
 (css.set k c').flatMap Subtype.val=(css.flatMap Subtype.val).take (k*z+off)++vs++(css.flatMap Subtype.val).drop (k*z+off+vs.length):=by
 have e1:css=css.take k++css[k]::css.drop (k+1):=by rw[List.getElem_cons_drop,Xq]
 have e2:css.set k c'=css.take k++c'::css.drop (k+1):=by rw[List.set_eq_take_append_cons_drop,Yi hk]
 have l1:((css.take k).flatMap Subtype.val).length=k*z:=by rw[zU (fun x:Cel z=>x.2.1),Yd,Nat.min_eq_left DP]
 have e3:css.flatMap Subtype.val=(css.take k).flatMap Subtype.val++(css[k].val++(css.drop (k+1)).flatMap Subtype.val):=by
  conv=>lhs;rw[e1]
  rw[List.flatMap_append,YW]
 rw[e2,List.flatMap_append,YW,hc,e3];generalize hA:(css.take k).flatMap Subtype.val=A at*;generalize hC:(css.drop (k+1)).flatMap Subtype.val=C at*;have hB:css[k].val.length=z:=css[k].2.1;generalize css[k].val=B at*
 rw[show k*z+off+vs.length=A.length+(off+vs.length)by omega,show k*z+off=A.length+off by omega,List.take_length_add_append,List.drop_length_add_append,
  Y7 DP,List.drop_append_of_le_length DP]
 simp only[YU]
section
variable {P:Program} {T:TT} (hT:zm P T) {st:St}
include hT
theorem zu {o:Oper} {t:TypeId} {ad x:Operand} (ho:o.op=.store t ad x) (hdst:o.dst=none) {ti:TyI} (ht:lk t T=some ti) {j z k off:Nat} (had:evS st ad=some (.eptr j z k off)) {e:TypeId} {l:List (List PV)} (hj:lk j st.own=some (.row e z l)) (hk:k<l.length)
 {s:SV} (hx:evS st x=some s) {xs:List PV} (hxs:cellsP s=some xs) (h1:xs.all oneP=true) (hlen:Nat.beq xs.length ti.size=true) (hfit:Nat.ble (off+xs.length) z=true)
 {Q:St->Prop} (h:Q ⟨st.n,st.fr,setB j (.row e z (l.set k ((l.getD k []).take off++xs++(l.getD k []).drop (off+xs.length)))) st.own⟩):ActOk P [j] o st Q:=by
 intro w0 Sx γ a w QQ hI;have hlen':xs.length=ti.size:=YK hlen;have hfit':off+xs.length<=z:=Y8 hfit;cases hI.heap.box j _ hj with
 |row hr he hm hkj=>
 obtain⟨css,g1,g2,g3⟩:=hr;rcases g1.2 with⟨hv',h0⟩|⟨b,cap,cur,hv',hB,hh,hnc,hcm,hcs,htake⟩
 · omega
 have hblk:zg (γ j)=some b:=by rw[hv'];rfl
 have hadv:=(qK hI had).eptr_inv (zb hj) hblk;obtain⟨c1,c2⟩:=cellsP_ok (qK hI hx) hxs h1;generalize hvs:(a.eval x).cells.toList=vs at c1 c2;have hvl:vs.length=xs.length:=c1.1;have hkz:k*z+z<=css.length*z:=by
  have:=Xl z (show k+1<=css.length by omega);rw[Nat.succ_mul]at this;exact this
 have hcapz:css.length*z<=cap*z:=Xl z hnc;have hst:=run_storeCells_at P b (k*z+off) e vs 0 cur w hh DP c2;simp only[Nat.add_zero]at hst;let cur':=cur.toList.take (k*z+off)++vs++cur.toList.drop (k*z+off+vs.length)
 have run:(execOp a.eval o).run P w=.ok .skip (w.setRow b cur'.toArray):=by
  have hsz:=(hT t ti ht).size w;have hcs:(a.eval x).cells.size=ti.size:=by rw[<-Yx,hvs,hvl,hlen']
  refine GE ?_;simp[hst,cur']
 have hbl:b<w.heap.size:=lt_of_block hh;have hother:∀k,k≠b->(w.setRow b cur'.toArray).heap[k]?=w.heap[k]?:=fun k hk=>setRow_other w b k _ hk
 generalize hl':l.set k ((l.getD k []).take off++xs++(l.getD k []).drop (off+xs.length))=l' at h;have lk':∀i,lk i (setB j (.row e z l') st.own)=if i=j then some (.row e z l')else lk i st.own:=fun i=>by
  rw[lk_setB,hj];rfl
 have hsome:∀i,(lk i (setB j (.row e z l') st.own)).isSome=(lk i st.own).isSome:=fun i=>by
  rw[lk'];split
  · rename_i e;subst e;rw[hj];rfl
  · rfl
 generalize hown':setB j (.row e z l') st.own=own' at*;have hp':∀i,hp γ own' i=hp γ st.own i:=fun i=>by
  have:=hsome i;unfold hp;cases h2:lk i own'<;>cases h3:lk i st.own<;>rw[h2,h3]at this<;>first|rfl|cases this
 have okc:∀c,okO Sx γ own' c↔okO Sx γ st.own c:=fun c=>by
  refine and_congr Iff.rfl ⟨fun hk i bx hi=>?_,fun hk i bx hi=>?_⟩
  · have:=hsome i;rw[hi]at this;obtain⟨by_,h3⟩:=Yv.1 this;exact hk i by_ h3
  · have:=hsome i;rw[hi]at this;obtain⟨by_,h3⟩:=Yv.1 this.symm;exact hk i by_ h3
 have okb:∀i c,wE Sx γ own' i c↔wE Sx γ st.own i c:=fun i c=>by
  refine and_congr Iff.rfl ⟨fun hk k bx hi=>?_,fun hk k bx hi=>?_⟩
  · have:=hsome k;rw[hi]at this;obtain⟨by_,h3⟩:=Yv.1 this;exact hk k by_ h3
  · have:=hsome k;rw[hi]at this;obtain⟨by_,h3⟩:=Yv.1 this.symm;exact hk k by_ h3
 have keepS:∀{s:SV} {u:Value},RelS (okO Sx γ st.own) (hp γ st.own) w s u->RelS (okO Sx γ own') (hp γ own') (w.setRow b cur'.toArray) s u:=fun h=>by
  refine h.keep2 DQ (fun c hc hok=>⟨hother c fun e=>?_,(okc c).2 hok⟩) fun i _=>hp' i
  subst e;exact hok.2 j _ hj hblk
 have okRR:∀c,okR (wE Sx γ st.own j) (γ j) c->okR (wE Sx γ own' j) (γ j) c:=fun c h=>⟨(okb j c).2 h.1,h.2⟩
 have hne_of:∀c,okR (wE Sx γ st.own j) (γ j) c->c≠b:=fun c h e=>by
  subst e;refine h.2 ?_;rw[hv'];rfl
 have keepR:∀{cs:List Value} {y:List PV},rPV (okR (wE Sx γ st.own j) (γ j)) w cs y->rPV (okR (wE Sx γ own' j) (γ j)) (w.setRow b cur'.toArray) cs y:=fun{cs y} h=>by
  refine good_PV.weak _ _ _ _ _ (fun c _=>okRR c) (good_PV.keep _ w _ _ _ ⟨by simp,fun c hc hok=>hother c (hne_of c hok)⟩ h)
 have hkc:k<css.length:=by omega
 have hck:css[k].val.length=z:=css[k].2.1;have hgd:l.getD k []=l[k]:=by simp[hk]
 have hnew:∃c':Cel z,c'.val=css[k].val.take off++vs++css[k].val.drop (off+vs.length):=⟨⟨_,by simp only[Ya,Yd,Yo];omega,fun u hu=>by
  simp only[YL]at hu;rcases hu with(hu|hu)|hu
  · exact css[k].2.2 u (Xd hu)
  · exact c2 u hu
  · exact css[k].2.2 u (YX hu)⟩,rfl⟩
 obtain⟨c',hc'⟩:=hnew;have hflat:=flat_setC hkc (by omega:off+vs.length<=z) hc';have hlen2:l'.length=l.length:=by rw[<-hl'];simp
 have hrow':RowO rPV z (wE Sx γ own' j) (w.setRow b cur'.toArray) 0 e (γ j) l':=by
  refine⟨css.set k c',⟨by rw[zU (fun x:Cel z=>x.2.1)],Or.inr ⟨b,cap,cur'.toArray,by rw[hv',Xh],hB,setRow_heap w b _ _ e _ hh,by rw[Xh];exact hnc,hcm,?_,?_⟩⟩,by rw[Xh,hlen2,g2],fun i a1 a2=>?_⟩
  · simp only[cur',Xt,Ya,Yd,Yo,Yx];omega
  · rw[Xh,hflat,<-htake];show(cur.toList.take (k*z+off)++vs++cur.toList.drop (k*z+off+vs.length)).take (css.length*z)=_;have hA:(cur.toList.take (k*z+off)).length=k*z+off:=by simp only[Yd,Yx];omega
    rw[List.take_append,YN (by simp only[Ya,hA];omega),Ya,hA,List.take_take,Nat.min_eq_left DP,List.drop_take]
  · simp only[Xh]at a1;by_cases hik:i=k
    · subst hik;have hx1:(css.set i c')[i]'(by simpa using a1)=c':=by simp
      have hx2:l'[i]=l[i].take off++xs++l[i].drop (off+xs.length):=by
       have:l'[i]?=some (l[i].take off++xs++l[i].drop (off+xs.length)):=by rw[<-hl',List.getElem?_set_self hk,hgd]
       rw[Yj a2]at this;exact YS this
      rw[hx1,hx2,hc'];have old:=g3 i hkc hk;have ol:l[i].length=z:=(he _ (Yn hk)).1;refine keepR ⟨by simp only[Ya,Yd,Yo];omega,fun m s u hs hu=>?_⟩;have hxr:∀(m:Nat) (s:PV) (u:Value),xs[m]?=some s->vs[m]?=some u->RelP (okR (wE Sx γ st.own j) (γ j)) w s u:=fun m s u hs hu=>(c1.2 m s u hs hu).weak fun c _ hok=>⟨⟨hok.1,fun q bx hq _ hb=>hok.2 q bx hq hb⟩,fun hb=>hok.2 j _ hj (by rw[hblk];rw[hv']at hb;exact hb.symm)⟩
      have ln:(css[i].val.take off++vs).length=(l[i].take off++xs).length:=by simp only[Ya,Yd];omega
      by_cases hk1:m<(l[i].take off++xs).length
      · rw[Yw hk1]at hs;rw[Yw E8]at hu;have l2:(css[i].val.take off).length=(l[i].take off).length:=by simp only[Yd];omega
        by_cases hk2:m<(l[i].take off).length
        · rw[Yw hk2]at hs;rw[Yw E9]at hu;rw[Xv]at hs hu;split at hs
          · rename_i hlt;rw[Yi hlt]at hu;exact old.2 m s u hs hu
          · cases hs
        · rw[Yy DP]at hs;rw[Yy DP,l2]at hu;exact hxr _ s u hs hu
      · rw[Yy DP]at hs;rw[Yy DP,ln]at hu;rw[YV]at hs hu;rw[hvl]at hu;exact old.2 _ s u hs hu
    · have hx1:(css.set k c')[i]'(by simpa using a1)=css[i]:=by simp[List.getElem_set,Ne.symm hik]
      have hx2:l'[i]=l[i]'DP:=by
       have:l'[i]?=l[i]?:=by rw[<-hl',List.getElem?_set_ne (Ne.symm hik)]
       rw[Yj a2,Yj DP]at this;exact YS this
      rw[hx1,hx2];exact keepR (g3 i a1 DP)
 have he':∀y∈l',y.length=z/\∀s∈y,oneP s=true:=fun y hy=>by
  rw[<-hl']at hy;rcases List.mem_or_eq_of_mem_set hy with hy|rfl
  · exact he y hy
  · rw[hgd];obtain⟨q1,q2⟩:=he _ (Yn hk);refine⟨by simp only[Ya,Yd,Yo];omega,fun s hs=>?_⟩;simp only[YL]at hs;rcases hs with(hs|hs)|hs
    · exact q2 s (Xd hs)
    · exact YE.1 h1 s hs
    · exact q2 s (YX hs)
 unfold Oper.wp;rw[run,Oper.upon_skip,hdst];refine⟨γ,_,h,⟨?_,hI.size,hI.defers,fun t s ht=>keepS (hI.fr t s ht),⟨fun i bx hi=>?_,fun i k bi bk c hi hk hbi hbk=>?_,hI.heap.sx.keep DQ fun i bx hi=>Or.inr ⟨rfl,by rw[<-hsome i,hi];rfl⟩⟩⟩,⟨by simp,fun c hc hv=>hother c fun e=>?_⟩,fun K _ c hc hv i bx hi hK=>?_⟩
 · refine hI.below.step ⟨rfl,rfl,rfl,by simp,fun k hk=>absurd hk (Nat.not_lt_zero _)⟩ fun k hk=>hother k fun e=>by subst e;exact hkj _ hblk hk
 · rw[lk']at hi;by_cases e:i=j
   · subst e;rw[Yi rfl]at hi;cases hi;exact .row hrow' he' (by rw[hlen2];exact hm) hkj
   · rw[Yc e]at hi;exact(hI.heap.box i bx hi).keep (Box.rel_refl _) rfl DQ (fun c hc=>⟨hother c fun ec=>by subst ec;exact e (hI.heap.inj i j _ _ c hi hj hc hblk),(hI.heap.blk hi hc).1⟩) (fun c hc hok=>⟨hother c fun ec=>by subst ec;exact hok.2 j _ hj hblk,(okc c).2 hok⟩) fun s u s' hs es=>by subst es;exact keepS hs
 · have h2:=hsome i;rw[hi]at h2;have h3:=hsome k;rw[hk]at h3;obtain⟨x1,h4⟩:=Yv.1 h2.symm;obtain⟨x2,h5⟩:=Yv.1 h3.symm;exact hI.heap.inj i k _ _ c h4 h5 hbi hbk
 · subst e;exact hv j _ hj DQ hblk
 · have h2:=hsome i;rw[hi]at h2;obtain⟨x1,h4⟩:=Yv.1 h2.symm;exact hv i x1 h4 hK
end
def HoldsE (P:Program) (f:FuncId) (args:List PV) (R:SV->Prop):Prop:=Callable P f/\
 ∀(w:World) (Sx:Nat->Prop) (vs:List Value),EnOk w Sx->vs.length=args.length->(∀(i:Nat) (s:PV) (u:Value),args[i]?=some s->vs[i]?=some u->RelP (fun b=>¬Sx b) w s u)->
  Calls P f vs.toArray w fun e w'=>∃r v,R r/\flatS r=true/\e=.returned v/\Below w.heap.size w w'/\RelS (fun _=>True) (fun _=>none) w' r v
theorem Holds.of_calls {P:Program} {f:FuncId} {fn:Func} {args:List PV} {r:SV} (hf:P.funcs[f]?=some fn) (hname:(fn.name== "runtime.NumGoroutine")=false) (hb:fn.body.isNone=false)
 (h:∀(w:World) (vs:List Value),vs.length=args.length->(∀(i:Nat) (s:PV) (u:Value),args[i]?=some s->vs[i]?=some u->RelP (fun _=>True) w s u)->
  Calls P f vs.toArray w fun e w'=>e=.returned (valS r)/\Below w.heap.size w w') (hfl:flatS r=true) (hr:∀w,RelS (fun _=>True) (fun _=>none) w r (valS r)):Holds P f args r []:=by
 refine⟨⟨fn,hf,hname,hb⟩,fun w Sx vs hSx hl hrel=>?_⟩;refine(h w vs hl fun i s u a b=>(hrel i s u a b).weak fun _ _ _=>trivial).mono fun e w' he=>?_
 exact Us
theorem Holds.of_callsG {P:Program} {f:FuncId} {fn:Func} {args:List PV} {r:SV} (hf:P.funcs[f]?=some fn) (hname:(fn.name== "runtime.NumGoroutine")=false) (hb:fn.body.isNone=false)
 (h:∀(w:World) (vs:List Value),(∀g us,lk g GTab=some us->∃ty m,w.heap[g]?=some (.cells us.toArray ty m))->vs.length=args.length->(∀(i:Nat) (s:PV) (u:Value),args[i]?=some s->vs[i]?=some u->RelP (fun _=>True) w s u)->
  Calls P f vs.toArray w fun e w'=>e=.returned (valS r)/\Below w.heap.size w w') (hfl:flatS r=true) (hr:∀w,RelS (fun _=>True) (fun _=>none) w r (valS r)):Holds P f args r []:=by
 refine⟨⟨fn,hf,hname,hb⟩,fun w Sx vs hSx hl hrel=>?_⟩;refine(h w vs (fun g us hg=>(hSx.2.1 g us hg).2.2) hl fun i s u a b=>(hrel i s u a b).weak fun _ _ _=>trivial).mono fun e w' he=>?_
 exact Us
theorem Holds.of_callsX {P:Program} {f:FuncId} {fn:Func} {args:List PV} {r:SV} (hf:P.funcs[f]?=some fn) (hname:(fn.name== "runtime.NumGoroutine")=false) (hb:fn.body.isNone=false)
 (h:∀(w:World) (vs:List Value),(∀g us,lk g GTab=some us->∃ty m,w.heap[g]?=some (.cells us.toArray ty m))->(∀g,ETab.contains g=true->∃ev ty m,w.heap[g]?=some (.cells #[ev] ty m)/\errV ev=true)->vs.length=args.length->(∀(i:Nat) (s:PV) (u:Value),args[i]?=some s->vs[i]?=some u->RelP (fun _=>True) w s u)->
  Calls P f vs.toArray w fun e w'=>e=.returned (valS r)/\Below w.heap.size w w') (hfl:flatS r=true) (hr:∀w,RelS (fun _=>True) (fun _=>none) w r (valS r)):Holds P f args r []:=by
 refine⟨⟨fn,hf,hname,hb⟩,fun w Sx vs hSx hl hrel=>?_⟩;refine(h w vs (fun g us hg=>(hSx.2.1 g us hg).2.2) (fun g hg=>(hSx.2.2 g hg).2.2) hl fun i s u a b=>(hrel i s u a b).weak fun _ _ _=>trivial).mono fun e w' he=>?_
 exact Us
theorem HoldsE.of_calls {P:Program} {f:FuncId} {fn:Func} {args:List PV} {R:SV→Prop} (hf:P.funcs[f]?=some fn) (hname:(fn.name== "runtime.NumGoroutine")=false) (hb:fn.body.isNone=false)
 (h:∀(w:World) (vs:List Value),vs.length=args.length->(∀(i:Nat) (s:PV) (u:Value),args[i]?=some s->vs[i]?=some u->RelP (fun _=>True) w s u)->
  Calls P f vs.toArray w fun e w'=>∃r,R r/\flatS r=true/\e=.returned (valS r)/\Below w.heap.size w w'/\RelS (fun _=>True) (fun _=>none) w' r (valS r)):HoldsE P f args R:=by
 refine⟨⟨fn,hf,hname,hb⟩,fun w Sx vs hSx hl hrel=>?_⟩;refine(h w vs hl fun i s u a b=>(hrel i s u a b).weak fun _ _ _=>trivial).mono fun e w' ⟨r,h1,h2,h3,h4,h5⟩=>⟨r,_,h1,h2,h3,h4,h5⟩
section
variable {P:Program} {st:St}
theorem act_call_E {o:Oper} {cl:Call} {fo:Operand} {f:FuncId} {caps:List PV} {ps:List PV} {ids:List Nat} {R:SV->Prop} (ho:o.op=.call cl) (hcl:cl.callee=.value fo) (hfo:evS st fo=some (.p (.fn f caps))) (hargs:argPs st cl.args.toList=some (ps,ids))
 (H:HoldsE P f (ps++caps) R) (hd:jW st o.dst=true) {Q:St->Prop} (h:∀r,R r->Q (st.put o.dst r)):ActOk P [] o st Q:=by
 intro w0 Sx γ a w QQ hI;obtain⟨⟨fn,hfn,hname,hbody⟩,H⟩:=H;obtain⟨k1,k2⟩:=argPs_ok hI hargs;have hf:=(qK hI hfo).p_inv;generalize hfv:a.eval fo=u at hf;cases hf with
 |@fn _ _ us hl hr=>
 have hlt:=lentX_en hI ids;have hc:=H w (qaX Sx γ st.own ids) (cl.args.toList.map a.eval++us) hlt EQ fun i s v hs hv=>by
  by_cases hi:i<ps.length
  · rw[Yw hi]at hs;rw[Yw EZ]at hv;exact k2 i s v hs hv
  · rw[Yy DP]at hs;rw[Yy Da,Yb,k1]at hv;exact(hr _ s v hs hv).weak fun b _ hok hl=>by
     rcases hl with hl|⟨i,bx,h1,_,h2⟩
     · exact hok.1 hl
     · exact hok.2 i bx h1 h2
 unfold Oper.wp;have hrun:(execOp a.eval o).run P w=.ok (.enter f (cl.args.toList.map a.eval++us).toArray) w:=by
  have e:(cl.args.toList.map a.eval++us).toArray=cl.args.map a.eval++us.toArray:=by
   apply Xw.1;simp
  rw[e];have:=qav hfn hname hbody (cl.args.map a.eval++us.toArray) w;exact Um
 rw[hrun,Oper.upon_enter];refine hc.mono fun e w' he=>?_
 obtain⟨r,v,hR,hfl,rfl,hb,hr⟩:=he;have hI':=hI.grow hb;exact⟨γ,_,h r hR,hI'.put hd (hr.flat hfl),⟨hb.size,fun b hlt _=>hb.block b hlt⟩,fun K _ b _ hv=>by rw[qaE];exact hv⟩
end
theorem slat_typed {α:Type} {R:Rp α} {f:α->List PV} {z:Nat} {ok:Nat->Prop} {w:World} {A:Option Addr} {l:List α} (h:SlAtA ok (rPV ok) z w A (l.map f)) (hf:∀x∈l,∀cs,rPV ok w cs (f x)->R w cs x):SlAt R z w A l:=fun hl=>by
 obtain⟨b,o,hA,_,hlt,hc⟩:=h Dk;refine⟨b,o,hA,hlt,fun i hi=>?_⟩;obtain⟨cs,h1,h2,h3⟩:=hc i Di;exact⟨cs,h1,h2,hf _ (Yn hi) cs (by simpa using h3)⟩
theorem slat_plain {α:Type} {R:Rp α} {f:α->List PV} {z:Nat} {w:World} {A:Option Addr} {l:List α} (h:SlAt R z w A l) (hf:∀x∈l,∀cs,R w cs x->rPV (fun _=>True) w cs (f x)):SlAtA (fun _=>True) (rPV fun _=>True) z w A (l.map f):=fun hl=>by
 obtain⟨b,o,hA,hlt,hc⟩:=h Dk;refine⟨b,o,hA,trivial,hlt,fun i hi=>?_⟩;have hi':i<l.length:=by simpa using hi
 obtain⟨cs,h1,h2,h3⟩:=hc i hi';exact⟨cs,h1,h2,by simpa using hf _ (Yn hi') cs h3⟩
theorem rel_sl {α:Type} {R:Rp α} {f:α->List PV} {z:Nat} {w:World} {A:Option Addr} {l:List α} {c:Nat} (h:SlAt R z w A l) (hl:l.length<=c) (hc:l.length<=reachBytes/\c<=maxLen) (hz:∀x,(f x).length=z/\(f x).all oneP=true) (hf:∀x∈l,∀cs,R w cs x->rPV (fun _=>True) w cs (f x)):
 RelP (fun _=>True) w (.sl z (l.map f)) (.slice A l.length c):=by
 have:=RelP.of_slat (ok:=fun _=>True) (w:=w) (esz:=z) (l:=l.map f) (A:=A) (c:=c) Dk (by simpa using hc) (fun e he=>by
  obtain⟨x,_,rfl⟩:=Y1.1 he;exact⟨(hz x).1,fun s hs=>YE.1 (hz x).2 s hs⟩) (slat_plain h hf)
 rwa [Yb]at this
theorem sl_typed {α:Type} {R:Rp α} {f:α->List PV} {z:Nat} {ok:Nat->Prop} {w:World} {u:Value} {l:List α} (h:RelP ok w (.sl z (l.map f)) u) (hf:∀x∈l,∀cs,rPV ok w cs (f x)->R w cs x):
 ∃A c,u=.slice A l.length c/\l.length<=c/\(l.length<=reachBytes/\c<=maxLen)/\SlAt R z w A l:=by
 obtain⟨A,c,h1,h2,h3,_,h5⟩:=h.slat;rw[Yb]at h1 h2 h3;exact⟨A,c,h1,h2,h3,slat_typed h5 hf⟩
theorem rPV_plain {ok:Nat->Prop} {w:World}:∀{xs:List Value} {cs:List Value},rPV ok w cs (xs.map PV.v)->cs=xs:=fun{xs cs} h=>by
 refine List.ext_getElem? fun i=>?_
 have hl:cs.length=xs.length:=by simpa using h.1
 by_cases hi:i<xs.length
 · have h1:(xs.map PV.v)[i]?=some (.v xs[i]):=by simp[hi]
   have h2:cs[i]?=some (cs[i]'DP):=Yj DP
   have h3:=h.2 i _ _ h1 h2;rw[h2,Yj hi];exact congrArg some (RelS.v_inv (H:=fun _=>none) (.p h3))
 · rw[YT DP,YT DP]
theorem qw {α β:Type} {f:α->List β} {l:List α} {k:Nat} (h:k<l.length):(l.map f).getD (Int.toNat (k:Int)) []=f l[k]:=by simp[h]
theorem foldl_take_succ {α β:Type} (f:β->α->β) (b:β) (l:List α) (k:Nat) (h:k<l.length):(l.take (k+1)).foldl f b=f ((l.take k).foldl f b) l[k]:=by
 rw[Ym h,List.foldl_append];rfl
theorem run_equalIn_nil {P:Program} (w:World) (d:Nat) (t e:TypeId) (A:Option Addr) (n c:Nat) (h:P.underlying t=some (.slice e)):(Op.equalIn (d+1) t (.slice A n c) (.slice none 0 0)).run P w=.ok A.isNone w:=by
 cases A<;>simp[Op.equalIn,run_underlying h]
theorem zf {ts:List Tmp} {st:St} {b b':Bool} (h:resS st ts=some (.p (.v (.bool b)))) (hb:b=b'):Fin ts (.p (.v (.bool b'))) [] .ret st:=by
 subst hb;exact⟨Or.inr rfl,st,_,[],Wk.refl _,h,rfl,rfl,rfl⟩
theorem qZ {ts:List Tmp} {st:St} {k:IntKind} {b b':Int} (h:resS st ts=some (.p (.v (.int k b)))) (hb:b=b'):Fin ts (.p (.v (.int k b'))) [] .ret st:=by
 subst hb;exact⟨Or.inr rfl,st,_,[],Wk.refl _,h,rfl,rfl,rfl⟩
theorem qq {k n:Nat} (h:k<n) (hn:n<=4611686018427387904):IntKind.i64.wrap ((k:Int)+1)=((k+1:Nat):Int):=IntWalk.i64_in _ DP
theorem zC {T:TT} {K:List Nat} {st:St} {o:Op} {t:TypeId} {ad:Operand} (ho:o=.load t ad) {i:TyI} (ht:lk t T=some i) {j z k off:Nat} (had:evS st ad=some (.eptr j z k off)) (hK:K.contains j=false) {e:TypeId} {l:List (List PV)} (hj:lk j st.own=some (.row e z l))
 {el:List PV} (he:l.getD k []=el) {s:PV} (hs:takeT i (el.drop off)=some s):opR T K st o=some (k<l.length,.p s):=by
 subst ho;show rLoad T K st t (evS st ad)=_;unfold rLoad;rw[ht,had];simp only[hK,hj,wJ,cond_true,he,hs]
section
variable {P:Program} {T:TT} (hT:zm P T) {st:St}
include hT
theorem zP {o:Oper} {t t':TypeId} {x y:Operand} (ho:o.op=.binOp .eql t x y t') {ti:TyI} {e:TypeId} (ht:lk t T=some ti) (hte:ti.d=.sl e) {z:Nat} {l:List (List PV)} (hx:evS st x=some (.p (.sl z l))) (hy:evS st y=some (.p (.v (.slice none 0 0))))
 (hd:jW st o.dst=true) {Q:St->Prop} (h:∀b:Bool,(b=true->l=[])->Q (st.put o.dst (.p (.v (.bool b))))):ActOk P [] o st Q:=by
 intro w0 Sx γ a w QQ hI;have hu:=(hT t ti ht).und;rw[hte]at hu;simp only[jV]at hu;obtain⟨A,c,hv,hlc,hm,he,hsl⟩:=(qK hI hx).p_inv.slat;have hyv:=(qK hI hy).v_inv;have hrun:(execOp a.eval o).run P w=.ok (.value (.bool A.isNone)) w:=by
  refine LH ?_;have h1:(eqGuard .eql t x y (.slice A l.length c) (.slice none 0 0)).run P w=.ok () w:=rfl;rw[YG,h1];simp only[Ys];simp[binOp,Op.equal,Op.maxDepth,run_equalIn_nil w 9999 t e A l.length c hu]
 unfold Oper.wp;rw[hrun,Oper.upon_value];refine⟨γ,_,h A.isNone (fun hA=>?_),hI.put hd (.p (.v rfl)),⟨Yk _,fun _ _ _=>rfl⟩,fun K _ b _ hb=>by rw[qaE];exact hb⟩;cases A with
 |some A=>cases hA
 |none=>
  rcases Nat.eq_zero_or_pos l.length with h0|h0
  · exact Xi h0
  · obtain⟨b,o,hA',_⟩:=hsl h0;cases hA'
end
def wV (w:World) (γ:Nat->Value) (own:List (Nat×Box)):Base:=⟨w,fun b=>b<w.heap.size/\∀i bx,lk i own=some bx->zg (γ i)≠some b,fun i=>if i<1000000 then none else hp γ own i⟩
def HoldsR (P:Program) (f:FuncId) (args:List SV) (own:List (Nat×Box)) (R:SV->List (Nat×Box)->Prop):Prop:=Callable P f/\
 ∀(w:World) (Sx:Nat->Prop) (γ:Nat->Value) (vs:List Value),HeapOk (wV w γ own) Sx γ own w->vs.length=args.length->(∀(i:Nat) (s:SV) (u:Value),args[i]?=some s->vs[i]?=some u->RelS (okO Sx γ own) (hp γ own) w s u)->
  Calls P f vs.toArray w fun e w'=>∃v γ' r own',R r own'/\e=.returned v/\BelowB (wV w γ own) w'/\HeapOk (wV w γ own) Sx γ' own' w'/\RelS (okO Sx γ' own') (hp γ' own') w' r v
def HoldsW (P:Program) (f:FuncId) (args:List SV) (own:List (Nat×Box)) (r:SV) (own':List (Nat×Box)):Prop:=HoldsR P f args own fun r' o'=>r'=r/\o'=own'
theorem holdsR_of {P:Program} {f:FuncId} {fn:Func} {c:Code} {args:List SV} {own:List (Nat×Box)} {R:SV→List (Nat×Box)→Prop} {ts:List Tmp} (hf:P.funcs[f]?=some fn) (hname:(fn.name== "runtime.NumGoroutine")=false) (hb:fn.body=some c)
 (hres:fn.results=(ts.map ResultVar.tmp).toArray) (hn:(Nat.ble args.length fn.ntmps&&Nat.ble fn.ntmps 900)=true) (h:SW P c (FinR ts R) ⟨fn.ntmps,argFrS 0 args,own⟩):HoldsR P f args own R:=by
 refine⟨⟨fn,hf,hname,by rw[hb];rfl⟩,fun w Sx γ vs hh hl hr=>?_⟩;exact body_run hf hb hres hn h ⟨Below.refl _ w,fun _ _=>rfl⟩ hh hl hr
theorem qE {P:Program} {f:FuncId} {fn:Func} {c:Code} {args:List SV} {own:List (Nat×Box)} {r:SV} {own':List (Nat×Box)} {ts:List Tmp} (hf:P.funcs[f]?=some fn) (hname:(fn.name== "runtime.NumGoroutine")=false) (hb:fn.body=some c)
 (hres:fn.results=(ts.map ResultVar.tmp).toArray) (hn:(Nat.ble args.length fn.ntmps&&Nat.ble fn.ntmps 900)=true) (h:SW P c (Fin ts r own') ⟨fn.ntmps,argFrS 0 args,own⟩):HoldsW P f args own r own':=
 holdsR_of hf hname hb hres hn (h.mono fun e s q=>q.toR)
def restX (Sx:Nat->Prop) (γ:Nat->Value) (own:List (Nat×Box)) (ρ:List (Nat×Nat)) (b:Nat):Prop:=Sx b\/∃i bx,lk i own=some bx/\lk i ρ=none/\zg (γ i)=some b
theorem heap_sub {B:Base} {Sx:Nat->Prop} {γ:Nat->Value} {own own':List (Nat×Box)} {w:World} {ρ:List (Nat×Nat)} (h:HeapOk B Sx γ own w) (hbel:BelowB B w) (ho:ownR ρ own ρ=some own') (hd:(dist (ρ.map (·.1))&&dist (ρ.map (·.2)))=true):
 ∃γ',HeapOk (wV w γ' own') (restX Sx γ own ρ) γ' own' w/\(∀i m,lk i ρ=some m->γ' m=γ i/\(lk i own).isSome=true/\(lk m own').isSome=true)/\(∀m bx,lk m own'=some bx->∃i by_,lk i ρ=some m/\lk i own=some by_/\γ' m=γ i)/\
  ∀s u s',RelS (okO Sx γ own) (hp γ own) w s u->s.mapR ρ=some s'->RelS (okO (restX Sx γ own ρ) γ' own') (hp γ' own') w s' u:=by
 simp only[Yp]at hd;have hd2:dist ((swp ρ).map (·.1))=true:=by
  have:(swp ρ).map (·.1)=ρ.map (·.2):=by unfold swp;rw[List.map_map];rfl
  rw[this];exact hd.2
 have there:∀{i m},lk i ρ=some m->lk m (swp ρ)=some i:=fun hi=>wi hd2 (Y1.2 ⟨_,qas hi,rfl⟩)
 have back:∀{i m},lk m (swp ρ)=some i->lk i ρ=some m:=fun hm=>by
  obtain⟨⟨a,b⟩,h1,h2⟩:=Y1.1 (qas hm);cases h2;exact wi hd.1 h1
 let γ':Nat->Value:=fun m=>match lk m (swp ρ)with|some i=>γ i|none=>.nilIface
 have g1:∀{m bx'},lk m own'=some bx'->∃i bx,lk m (swp ρ)=some i/\lk i own=some bx/\bx.mapR ρ=some bx'/\γ' m=γ i:=fun{m bx'} hm=>by
  cases hs:lk m (swp ρ)with
  |none=>rw[(jK ho m).2 hs]at hm;cases hm
  |some i=>
   obtain⟨bx,b2,k1,k2,k3⟩:=(jK ho m).1 i hs;rw[hm]at k3;cases k3;exact⟨i,bx,rfl,k1,k2,by show(match lk m (swp ρ)with|some i=>γ i|none=>.nilIface)=γ i;rw[hs]⟩
 have g2:∀{i m},lk i ρ=some m->hp γ' own' m=hp γ own i:=fun{i m} hi=>by
  have hs:=there hi;obtain⟨bx,b2,k1,k2,k3⟩:=(jK ho m).1 i hs;rw[zb k1,zb k3];show some (match lk m (swp ρ)with|some i=>γ i|none=>.nilIface)=_;rw[hs]
 have okc:∀b,okO Sx γ own b->okO (restX Sx γ own ρ) γ' own' b:=fun b hok=>⟨fun hx=>by
  rcases hx with hx|⟨i,bx,h1,_,h2⟩
  · exact hok.1 hx
  · exact hok.2 i bx h1 h2,fun m bx hm hb=>by
  obtain⟨i,by_,_,k1,_,k2⟩:=g1 hm;rw[k2]at hb;exact hok.2 i by_ k1 hb⟩
 have keep:∀s u s',RelS (okO Sx γ own) (hp γ own) w s u->s.mapR ρ=some s'->RelS (okO (restX Sx γ own ρ) γ' own') (hp γ' own') w s' u:=fun s u s' hr hs=>hr.mapR (fun b _=>okc b) (fun i m hi=>g2 hi) hs
 have nk:∀{m bx' b},lk m own'=some bx'->zg (γ' m)=some b->¬(wV w γ' own').kp b:=fun{m bx' b} hm hb hk=>hk.2 m bx' hm hb
 refine⟨γ',⟨fun m bx' hm=>?_,fun m n bm bn b hm hn hbm hbn=>?_,⟨fun b hb=>?_,fun b hb=>hb.1,fun i bx g hi hg=>?_,fun i hi=>Yi hi,fun g us hg=>?_,fun g hg=>?_⟩⟩,fun i m hi=>?_,fun m bx hm=>?_,keep⟩
 · obtain⟨i,bx,k0,k1,k2,k3⟩:=g1 hm;exact(h.box i bx k1).keep (Box.rel_mapR k2) k3 (Yk _) (fun b hb=>⟨rfl,nk hm (by rw[k3];exact hb)⟩) (fun b _ hok=>⟨rfl,okc b hok⟩) fun s u s' hs es=>keep s u s' hs es
 · obtain⟨i,bi,k0,k1,_,k3⟩:=g1 hm;obtain⟨j,bj,q0,q1,_,q3⟩:=g1 hn;rw[k3]at hbm;rw[q3]at hbn;have e:=h.inj i j _ _ b k1 q1 hbm hbn;subst e;have a1:=back k0;have a2:=back q0;rw[a1]at a2;cases a2;rfl
 · refine⟨?_,fun m bx hm hmb=>?_⟩
   · rcases hb with hb|⟨i,bx,h1,_,h2⟩
     · exact h.sx.lt b (h.sx.sub b hb)
     · exact(h.blk h1 h2).2
   · obtain⟨i,by_,k0,k1,_,k3⟩:=g1 hm;rw[k3]at hmb;rcases hb with hb|⟨j,bj,h1,h3,h2⟩
     · exact h.nsx k1 hmb hb
     · have e:=h.inj i j _ _ b k1 h1 hmb h2;subst e;rw[back k0]at h3;cases h3
 · have hg':(if i<1000000 then none else hp γ' own' i)=some g:=hg;split at hg'
   · cases hg'
   · rw[zb hi]at hg';cases hg';rfl
 · obtain⟨q1,q2,q3⟩:=h.sx.gl.1 g us hg;obtain⟨ty,m,q3⟩:=q3;refine⟨⟨h.sx.lt g q1,fun i bx hi hb=>?_⟩,fun hx=>?_,ty,m,(hbel.2 g q1).trans q3⟩
   · obtain⟨i0,by_,_,k1,_,k3⟩:=g1 hi;rw[k3]at hb;exact blk_kp h k1 hb q1
   · rcases hx with hx|⟨i,bx,r1,_,r2⟩
     · exact q2 hx
     · exact blk_kp h r1 r2 q1
 · obtain⟨q1,q2,q3⟩:=h.sx.gl.2 g hg;obtain⟨ev,ty,m,q3,q4⟩:=q3;refine⟨⟨h.sx.lt g q1,fun i bx hi hb=>?_⟩,fun hx=>?_,ev,ty,m,(hbel.2 g q1).trans q3,q4⟩
   · obtain⟨i0,by_,_,k1,_,k3⟩:=g1 hi;rw[k3]at hb;exact blk_kp h k1 hb q1
   · rcases hx with hx|⟨i,bx,r1,_,r2⟩
     · exact q2 hx
     · exact blk_kp h r1 r2 q1
 · have hs:=there hi;obtain⟨bx,b2,k1,k2,k3⟩:=(jK ho m).1 i hs;refine⟨?_,by rw[k1];rfl,by rw[k3];rfl⟩;show(match lk m (swp ρ)with|some i=>γ i|none=>.nilIface)=_;rw[hs]
 · obtain⟨i,by_,k0,k1,_,k3⟩:=g1 hm;exact⟨i,by_,back k0,k1,k3⟩
def argWs (st:St) (ρ:List (Nat×Nat)):List Operand->Option (List SV)
 |[]=>some []
 |x::r=>match evS st x with
  |some s=>match s.mapR ρ with
   |some s'=>match argWs st ρ r with
    |some l=>some (s'::l)
    |none=>none
   |none=>none
  |none=>none
def newN (dst:Option Tmp) (m:Nat):Nat:=match dst with
 |some d=>1000*(d+1)+m
 |none=>999000+m
def sgm (ρ:List (Nat×Nat)) (dst:Option Tmp) (own':List (Nat×Box)):List (Nat×Nat):=own'.map fun p=>(p.1,match lk p.1 (swp ρ)with|some i=>i|none=>newN dst p.1)
def lost (ρ:List (Nat×Nat)) (own':List (Nat×Box)):List Nat:=(ρ.filter fun p=>(lk p.2 own').isNone).map (·.1)
def kls (L:List Nat) (s:SV):SV:=bif L.all (fun i=>s.noRef i)then s else .junk
theorem kls_p (L:List Nat) (x:PV):kls L (.p x)=.p x:=by
 have h:L.all (fun i=>(SV.p x).noRef i)=true:=YE.2 fun i _=>rfl
 unfold kls;rw[h];rfl
def klsB (L:List Nat) (b:Box):Box:=b.mapS (kls L)
def qbf (ρ:List (Nat×Nat)) (L:List Nat):List (Nat×Box)->List (Nat×Box)
 |[]=>[]
 |(i,b)::r=>bif (lk i ρ).isNone then(i,klsB L b)::qbf ρ L r else qbf ρ L r
theorem lk_restO (ρ:List (Nat×Nat)) (L:List Nat) (i:Nat):∀own:List (Nat×Box),lk i (qbf ρ L own)=if(lk i ρ).isNone then(lk i own).map (klsB L)else none
 |[]=>by simp[qbf,lk]
 |(j,b)::r=>by
  rw[qbf];cases hj:(lk j ρ).isNone with
  |true=>
   rw[cond_true,qL,lk_restO ρ L i r,qL];by_cases e:i=j
   · subst e;simp[hj]
   · rw[Yc e,Yc e]
  |false=>
   rw[cond_false,lk_restO ρ L i r,qL];by_cases e:i=j
   · subst e;rw[hj];simp
   · rw[Yc e]
def St.back (st:St) (ρ:List (Nat×Nat)) (dst:Option Tmp) (r:SV) (own':List (Nat×Box)):Option St:=match r.mapR (sgm ρ dst own')with
 |some r'=>match ownR (sgm ρ dst own') own' (sgm ρ dst own')with
  |some o=>some (St.put ⟨st.n,st.fr.map (fun p=>(p.1,kls (lost ρ own') p.2)),o++qbf ρ (lost ρ own') st.own⟩ dst r')
  |none=>none
 |none=>none
def backOk (st:St) (ρ:List (Nat×Nat)) (dst:Option Tmp) (own':List (Nat×Box)):Bool:=
 own'.all (fun p=>(lk p.1 (swp ρ)).isSome||((lk (newN dst p.1) st.own).isNone&&Nat.blt p.1 1000))&&(dist ((sgm ρ dst own').map (·.1))&&dist ((sgm ρ dst own').map (·.2)))
theorem lk_sgm {ρ:List (Nat×Nat)} {dst:Option Tmp}:∀{own':List (Nat×Box)} (m:Nat),lk m (sgm ρ dst own')=(lk m own').map fun _=>(match lk m (swp ρ)with|some i=>i|none=>newN dst m)
 |[],m=>rfl
 |(k,b)::r,m=>by
  have:=lk_sgm (ρ:=ρ) (dst:=dst) (own':=r) m;unfold sgm at this⊢;rw[Y2,qL,this,qL];by_cases e:m=k
  · subst e;rw[Yi rfl,Yi rfl];rfl
  · rw[Yc e,Yc e]
theorem kls_all {L:List Nat} {s:SV} {i:Nat} (h:(kls L s).noRef i=false):kls L s=s/\s.noRef i=false/\i∉L:=by
 unfold kls at h⊢;cases hL:L.all (fun i=>s.noRef i)with
 |false=>rw[hL]at h;cases h
 |true=>
  rw[hL]at h;refine⟨rfl,h,fun hi=>?_⟩;rw[cond_true,YE.1 hL i hi]at h;cases h
theorem RelS.kls {ok:Nat->Prop} {H:Nat->Option Value} {w:World} {s:SV} {u:Value} (L:List Nat) (h:RelS ok H w s u):RelS ok H w (kls L s) u:=by
 unfold Proofs.YtblgnefkgkchhaaGreatDoor.kls;cases L.all (fun i=>s.noRef i)with
 |false=>exact .junk
 |true=>exact h
def fnOf:SV->Option (FuncId×List SV)
 | .p (.fn f caps)=>some (f,caps.map .p)
 | .fn f caps=>some (f,caps)
 |_=>none
section
variable {P:Program} {st:St}
theorem argWs_get {ρ:List (Nat×Nat)}:∀{xs:List Operand} {l:List SV},argWs st ρ xs=some l->l.length=xs.length/\∀(i:Nat) (s':SV),l[i]?=some s'->∃x s,xs[i]?=some x/\evS st x=some s/\s.mapR ρ=some s'
 |[],l,h=>by simp only[argWs,Ye]at h;subst h;simp
 |x::xs,l,h=>by
  unfold argWs at h;split at h
  · rename_i s hs;split at h
    · rename_i s' hs';split at h
      · rename_i l' hl;simp only[Ye]at h;subst h;obtain⟨h1,h2⟩:=argWs_get hl;refine⟨by simp[h1],fun i y hy=>?_⟩;cases i with
        |zero=>simp at hy;subst hy;exact⟨x,s,rfl,hs,hs'⟩
        |succ i=>obtain⟨z,t,q1,q2,q3⟩:=h2 i y (by simpa using hy);exact⟨z,t,by simpa using q1,q2,q3⟩
      · cases h
    · cases h
  · cases h
theorem act_call_RS {o:Oper} {cl:Call} {fo:Operand} {f:FuncId} {sf:SV} {caps caps':List SV} (ρ:List (Nat×Nat)) {args:List SV} {own:List (Nat×Box)} {R:SV->List (Nat×Box)->Prop} (ho:o.op=.call cl) (hcl:cl.callee=.value fo) (hfo:evS st fo=some sf) (hcf:fnOf sf=some (f,caps)) (hcaps:mapRs ρ caps=some caps')
 (hown:ownR ρ st.own ρ=some own) (hρ:((dist (ρ.map (·.1))&&dist (ρ.map (·.2)))&&ρ.all (fun p=>Nat.ble 1000000 p.2))=true) (hargs:argWs st ρ cl.args.toList=some args)
 (H:HoldsR P f (args++caps') own R) (hd:jW st o.dst=true) {Q:St->Prop} (h:∀r own',R r own'->∃st',st.back ρ o.dst r own'=some st'/\backOk st ρ o.dst own'=true/\Q st'):ActOk P (ρ.map (·.1)) o st Q:=by
 intro w0 Sx γ a w QQ hI;obtain⟨⟨fn,hfn,hname,hbody⟩,H⟩:=H;simp only[Yp]at hρ;obtain⟨hρd,hρ2⟩:=hρ;obtain⟨γ0,s1,s2,s3,s4⟩:=heap_sub hI.heap hI.below hown (by simpa using hρd);have hd1:dist (ρ.map (·.1))=true:=hρd.1;have hd2:dist ((swp ρ).map (·.1))=true:=by
  have:(swp ρ).map (·.1)=ρ.map (·.2):=by unfold swp;rw[List.map_map];rfl
  rw[this];exact hρd.2
 have there:∀{i m},lk i ρ=some m->lk m (swp ρ)=some i:=fun hi=>wi hd2 (Y1.2 ⟨_,qas hi,rfl⟩)
 have back:∀{i m},lk m (swp ρ)=some i->lk i ρ=some m:=fun hm=>by
  obtain⟨⟨a,b⟩,h1,h2⟩:=Y1.1 (qas hm);cases h2;exact wi hd1 h1
 obtain⟨a1,a2⟩:=argWs_get hargs;have hfs:∃us:List Value,a.eval fo=.func (.func f) #[] us.toArray/\us.length=caps.length/\∀(i:Nat) (s:SV) (u:Value),caps[i]?=some s->us[i]?=some u->RelS (okO Sx γ st.own) (hp γ st.own) w s u:=by
  have hf:=qK hI hfo;cases sf with
  |p x=>
   cases x with
   |fn g cs=>
    simp only[fnOf,Ye,Yt]at hcf;obtain⟨rfl,rfl⟩:=hcf;generalize a.eval fo=u at hf;have hf:=hf.p_inv;cases hf with
    |@fn _ _ us hl hr=>
     refine⟨us,rfl,by simpa using hl,fun i s u hs hu=>?_⟩;rw[YH]at hs;obtain⟨x,hx,rfl⟩:=YP.1 hs;exact .p (hr i x u hx hu)
   |_=>cases hcf
  |fn g cs=>
   simp only[fnOf,Ye,Yt]at hcf;obtain⟨rfl,rfl⟩:=hcf;generalize a.eval fo=u at hf;cases hf with
   |@fn _ _ us hl hr=>exact⟨us,rfl,hl,hr⟩
  |_=>cases hcf
 obtain⟨us,hfv,hl,hr⟩:=hfs;obtain⟨c1,c2⟩:=qam hcaps;have okc:∀b,okO Sx γ st.own b->okO (restX Sx γ st.own ρ) γ0 own b:=fun b hok=>⟨fun hx=>by
  rcases hx with hx|⟨i,bx,h1,_,h2⟩
  · exact hok.1 hx
  · exact hok.2 i bx h1 h2,fun m bx hm hb=>by
  obtain⟨i,by_,_,k1,k2⟩:=s3 m bx hm;rw[k2]at hb;exact hok.2 i by_ k1 hb⟩
 have hc:=H w (restX Sx γ st.own ρ) γ0 (cl.args.toList.map a.eval++us) s1 EQ fun i s v hs hv=>by
  by_cases hi:i<args.length
  · rw[Yw hi]at hs;rw[Yw (by rw[Yb,<-a1];exact hi),YH]at hv;obtain⟨x,s0,q1,q2,q3⟩:=a2 i s hs;rw[q1]at hv;cases hv;exact s4 _ _ _ (qK hI q2) q3
  · rw[Yy DP]at hs;rw[Yy (by rw[Yb,<-a1];omega),Yb,<-a1]at hv;obtain⟨s0,q1,q2⟩:=c2 _ s hs;exact s4 _ _ _ (hr _ s0 v q1 hv) q2
 unfold Oper.wp;have hrun:(execOp a.eval o).run P w=.ok (.enter f (cl.args.toList.map a.eval++us).toArray) w:=by
  have e:(cl.args.toList.map a.eval++us).toArray=cl.args.map a.eval++us.toArray:=by
   apply Xw.1;simp
  rw[e];have:=qav hfn hname hbody (cl.args.map a.eval++us.toArray) w;exact Um
 rw[hrun,Oper.upon_enter];refine hc.mono fun e w' he=>?_
 obtain⟨v,γ',r,own',hR,rfl,hbel,hh,hrel⟩:=he;obtain⟨st',hst',hbk,hQ⟩:=h r own' hR;unfold backOk at hbk;simp only[Yp]at hbk;obtain⟨hnew,hσd⟩:=hbk;generalize hσ:sgm ρ o.dst own'=σ at*;generalize hL:lost ρ own'=L at*;have hsz:w.heap.size<=w'.heap.size:=hbel.1.size;have lkσ:∀m,lk m σ=(lk m own').map fun _=>(match lk m (swp ρ)with|some i=>i|none=>newN o.dst m):=fun m=>by rw[<-hσ];exact lk_sgm m
 have newid:∀{m bx},lk m own'=some bx->lk m (swp ρ)=none->lk (newN o.dst m) st.own=none/\newN o.dst m<1000000:=fun{m bx} hm hs=>by
  have h1:=YE.1 hnew _ (qas hm);simp only[hs,Option.isSome_none,Bool.false_or,Yp]at h1;refine⟨Option.isNone_iff_eq_none.1 h1.1,?_⟩;have h2:m<1000:=by simpa [Nat.blt,YJ]using h1.2
  cases hdd:o.dst with
  |none=>show 999000+m<1000000;omega
  |some d=>
   rw[hdd]at hd;have h3:d<st.n:=by simpa [jW,Nat.blt,YJ]using hd
   have:=hI.size.2;have h4:∀d:Nat,d<st.n->1000*(d+1)+m<1000000:=fun d h=>by omega
   exact h4 d h3
 have hσ2:dist ((swp σ).map (·.1))=true:=by
  have:(swp σ).map (·.1)=σ.map (·.2):=by unfold swp;rw[List.map_map];rfl
  rw[this];exact hσd.2
 have thereσ:∀{m i},lk m σ=some i->lk i (swp σ)=some m:=fun hi=>wi hσ2 (Y1.2 ⟨_,qas hi,rfl⟩)
 have backσ:∀{m i},lk i (swp σ)=some m->lk m σ=some i:=fun hm=>by
  obtain⟨⟨a,b⟩,h1,h2⟩:=Y1.1 (qas hm);cases h2;exact wi hσd.1 h1
 have γfix:∀{m i bx},lk i ρ=some m->lk m own'=some bx->γ' m=γ i:=fun{m i bx} hi hm=>by
  obtain⟨k1,k2,k3⟩:=s2 i m hi;obtain⟨by_,k4⟩:=Yv.1 k3;have hbig:¬m<1000000:=by
   have:=YE.1 hρ2 _ (qas hi);have:=Y8 this;omega
  have:=hh.sx.fix m bx (γ0 m) hm (by show(if m<1000000 then none else hp γ0 own m)=_;rw[Yc hbig,zb k4]);rw[this,k1]
 unfold St.back at hst';rw[hσ,hL]at hst';split at hst'
 · rename_i r' hr';split at hst'
   · rename_i oo hoo;simp only[Ye]at hst';subst hst';let γ2:Nat->Value:=fun i=>match lk i (swp σ)with|some m=>γ' m|none=>γ i
     have γ2n:∀{i m},lk i (swp σ)=some m->γ2 i=γ' m:=fun{i m} hi=>by
      show(match lk i (swp σ)with|some m=>γ' m|none=>γ i)=_;rw[hi]
     have γ2o:∀{i},lk i (swp σ)=none->γ2 i=γ i:=fun{i} hi=>by
      show(match lk i (swp σ)with|some m=>γ' m|none=>γ i)=_;rw[hi]
     have inoo:∀{i bx},lk i oo=some bx->∃m bm,lk i (swp σ)=some m/\lk m own'=some bm/\bm.mapR σ=some bx/\γ2 i=γ' m:=fun{i bx} hi=>by
      cases hs:lk i (swp σ)with
      |none=>rw[(jK hoo i).2 hs]at hi;cases hi
      |some m=>
       obtain⟨bm,b2,k1,k2,k3⟩:=(jK hoo i).1 m hs;rw[hi]at k3;cases k3;exact⟨m,bm,rfl,k1,k2,γ2n hs⟩
     have σnot:∀{i},(lk i st.own).isSome=true->lk i ρ=none->lk i (swp σ)=none:=fun{i} hi hiρ=>by
      cases hs:lk i (swp σ)with
      |none=>rfl
      |some m=>
       have h1:=backσ hs;rw[lkσ]at h1;obtain⟨bm,h2,h3⟩:=YP.1 h1;cases hm:lk m (swp ρ)with
       |some j=>rw[hm]at h3;simp only at h3;subst h3;rw[back hm]at hiρ;cases hiρ
       |none=>
        rw[hm]at h3;simp only at h3;obtain⟨h4,_⟩:=newid h2 hm;rw[h3]at h4;rw[h4]at hi;cases hi
     have lk2:∀i,lk i (oo++qbf ρ L st.own)=match lk i oo with|some x=>some x|none=>lk i (qbf ρ L st.own):=fun i=>by rw[lk_append];cases lk i oo<;>rfl
     have split:∀{i bx},lk i (oo++qbf ρ L st.own)=some bx->(∃m bm,lk i (swp σ)=some m/\lk m own'=some bm/\bm.mapR σ=some bx/\γ2 i=γ' m)\/(lk i ρ=none/\∃b0,lk i st.own=some b0/\bx=klsB L b0/\γ2 i=γ i):=fun{i bx} hi=>by
      rw[lk2]at hi;cases h1:lk i oo with
      |some x=>rw[h1]at hi;cases hi;exact Or.inl (inoo h1)
      |none=>
       rw[h1]at hi;simp only[lk_restO]at hi;split at hi
       · rename_i hn;obtain⟨b0,h2,rfl⟩:=YP.1 hi;have hn':=Option.isNone_iff_eq_none.1 hn;exact Or.inr ⟨hn',b0,h2,rfl,γ2o (σnot (by rw[h2];rfl) hn')⟩
       · cases hi
     have livN:∀{m i},lk m σ=some i->∃bx bm,lk i (oo++qbf ρ L st.own)=some bx/\γ2 i=γ' m/\lk m own'=some bm:=fun{m i} hm=>by
      obtain⟨bm,b2,k1,k2,k3⟩:=(jK hoo i).1 m (thereσ hm);exact⟨b2,bm,by rw[lk2,k3],γ2n (thereσ hm),k1⟩
     have livO:∀{i},(lk i st.own).isSome=true->i∉L->(lk i (oo++qbf ρ L st.own)).isSome=true/\γ2 i=γ i:=fun{i} hi hiL=>by
      cases hρi:lk i ρ with
      |none=>
       obtain⟨b0,h0⟩:=Yv.1 hi;have hno:=σnot hi hρi;refine⟨?_,γ2o hno⟩;rw[lk2,(jK hoo i).2 hno,lk_restO,hρi,h0];rfl
      |some m=>
       cases hm:lk m own' with
       |none=>
        refine absurd ?_ hiL;rw[<-hL];exact Y1.2 ⟨(i,m),List.mem_filter.2 ⟨qas hρi,by simp[hm]⟩,rfl⟩
       |some bm=>
        have h1:lk m σ=some i:=by rw[lkσ,hm,there hρi];rfl
        obtain⟨bx,_,h2,h3,_⟩:=livN h1;exact⟨by rw[h2];rfl,by rw[h3,γfix hρi hm]⟩
     have kpsub:∀{b},w0.kp b->(wV w γ0 own).kp b:=fun{b} hb=>⟨hI.heap.sx.lt b hb,fun m bx hm hmb=>by
      obtain⟨i,by_,_,k1,k2⟩:=s3 m bx hm;rw[k2]at hmb;exact(hI.heap.blk k1 hmb).1 hb⟩
     have kprest:∀{i bx b},lk i st.own=some bx->lk i ρ=none->zg (γ i)=some b->(wV w γ0 own).kp b:=fun{i bx b} hi hiρ hb=>⟨(hI.heap.blk hi hb).2,fun m bm hm hmb=>by
      obtain⟨j,by_,k0,k1,k2⟩:=s3 m bm hm;rw[k2]at hmb;have e:=hI.heap.inj i j _ _ b hi k1 hb hmb;subst e;rw[hiρ]at k0;cases k0⟩
     have kpok:∀{b},b<w.heap.size->okO Sx γ st.own b->(wV w γ0 own).kp b:=fun{b} hb hok=>⟨hb,fun m bm hm hmb=>by
      obtain⟨j,by_,_,k1,k2⟩:=s3 m bm hm;rw[k2]at hmb;exact hok.2 j by_ k1 hmb⟩
     have newblk:∀{m bm b},lk m own'=some bm->zg (γ' m)=some b->w.heap.size<=b\/∃i bi,lk i st.own=some bi/\(lk i ρ).isSome=true/\zg (γ i)=some b:=fun{m bm b} hm hb=>by
      have h1:=(hh.blk hm hb).1;rcases Nat.lt_or_ge b w.heap.size with hlt|hge
      · refine Or.inr (Xa fun hno=>h1 ⟨hlt,fun n bn hn hnb=>hno ?_⟩);obtain⟨j,by_,k0,k1,k2⟩:=s3 n bn hn;rw[k2]at hnb;exact⟨j,by_,k1,by rw[k0];rfl,hnb⟩
      · exact Or.inl hge
     have ok_new:∀b,okO (restX Sx γ st.own ρ) γ' own' b->okO Sx γ2 (oo++qbf ρ L st.own) b:=fun b hok=>⟨fun hs=>hok.1 (Or.inl hs),fun i bx hi hib=>by
      rcases split hi with⟨m,bm,_,h2,_,h3⟩|⟨h1,b0,h2,_,h3⟩
      · rw[h3]at hib;exact hok.2 m bm h2 hib
      · rw[h3]at hib;exact hok.1 (Or.inr ⟨i,b0,h2,h1,hib⟩)⟩
     have ok_old:∀b,b<w.heap.size->okO Sx γ st.own b->w'.heap[b]?=w.heap[b]?/\okO Sx γ2 (oo++qbf ρ L st.own) b:=fun b hlt hok=>⟨hbel.2 b (kpok hlt hok),hok.1,fun i bx hi hib=>by
      rcases split hi with⟨m,bm,_,h2,_,h3⟩|⟨h1,b0,h2,_,h3⟩
      · rw[h3]at hib;rcases newblk h2 hib with h|⟨j,bj,q1,_,q2⟩
        · omega
        · exact hok.2 j bj q1 q2
      · rw[h3]at hib;exact hok.2 i b0 h2 hib⟩
     have hp_new:∀m i,lk m σ=some i->hp γ2 (oo++qbf ρ L st.own) i=hp γ' own' m:=fun m i hm=>by
      obtain⟨bx,bm,h1,h2,h3⟩:=livN hm;rw[zb h1,zb h3,h2]
     have keepS:∀{s:SV} {u:Value},RelS (okO Sx γ st.own) (hp γ st.own) w s u->RelS (okO Sx γ2 (oo++qbf ρ L st.own)) (hp γ2 (oo++qbf ρ L st.own)) w' (kls L s) u:=fun{s u} hrs=>by
      refine(hrs.kls L).keep2 hsz ok_old fun i hi=>?_
      obtain⟨e,hn,hiL⟩:=kls_all hi;cases hl:lk i st.own with
      |none=>rw[hrs.live (jO hl)]at hn;cases hn
      |some bx=>
       obtain⟨q1,q2⟩:=livO (i:=i) (by rw[hl];rfl) hiL;obtain⟨by_,q3⟩:=Yv.1 q1;rw[zb hl,zb q3,q2]
     have hst2:Stays w0 Sx γ2 (oo++qbf ρ L st.own) w':=hI.heap.sx.keep hsz fun i bx hi=>by
      rcases split hi with⟨m,bm,h1,h2,_,h3⟩|⟨h1,b0,h2,_,h3⟩
      · have h4:=backσ h1;rw[lkσ,h2]at h4;cases hm:lk m (swp ρ)with
        |some j=>
         rw[hm]at h4;cases h4;exact Or.inr ⟨by rw[h3,γfix (back hm) h2],(s2 _ _ (back hm)).2.1⟩
        |none=>
         rw[hm]at h4;cases h4;exact Or.inl (newid h2 hm).2
      · exact Or.inr ⟨h3,by rw[h2];rfl⟩
     have hheap:HeapOk w0 Sx γ2 (oo++qbf ρ L st.own) w':=by
      refine⟨fun i bx hi=>?_,fun i j bi bj b hi hj hib hjb=>?_,hst2⟩
      · rcases split hi with⟨m,bm,h1,h2,h4,h3⟩|⟨h1,b0,h2,rfl,h3⟩
        · exact(hh.box m bm h2).keep (Box.rel_mapR h4) h3 (Yk _) (fun b hb=>⟨rfl,fun hk=>(hh.blk h2 hb).1 (kpsub hk)⟩) (fun b _ hok=>⟨rfl,ok_new b hok⟩) fun s u s' hs es=>hs.mapR (fun b _ h=>ok_new b h) hp_new es
        · have hkb:∀{b},zg (γ i)=some b->w'.heap[b]?=w.heap[b]?:=fun hb=>hbel.2 _ (kprest h2 h1 hb)
          exact(hI.heap.box i b0 h2).keep (Box.rel_map (kls L) (kls_p L) b0) h3 hsz (fun b hb=>⟨hkb hb,(hI.heap.blk h2 hb).1⟩) (fun b hlt hok=>ok_old b hlt hok) fun s u s' hs es=>by subst es;exact keepS hs
      · rcases split hi with⟨m,bm,h1,h2,_,h3⟩|⟨h1,b0,h2,_,h3⟩
        · rcases split hj with⟨n,bn,q1,q2,_,q3⟩|⟨q1,c0,q2,_,q3⟩
          · rw[h3]at hib;rw[q3]at hjb;have e:=hh.inj m n _ _ b h2 q2 hib hjb;subst e;have e1:=backσ h1;rw[backσ q1]at e1;cases e1;rfl
          · rw[h3]at hib;rw[q3]at hjb;exact absurd (kprest q2 q1 hjb) (hh.blk h2 hib).1
        · rcases split hj with⟨n,bn,q1,q2,_,q3⟩|⟨q1,c0,q2,_,q3⟩
          · rw[h3]at hib;rw[q3]at hjb;exact absurd (kprest h2 h1 hib) (hh.blk q2 hjb).1
          · rw[h3]at hib;rw[q3]at hjb;exact hI.heap.inj i j _ _ b h2 q2 hib hjb
     have hS:Sim w0 Sx γ2 ⟨st.n,st.fr.map (fun p=>(p.1,kls L p.2)),oo++qbf ρ L st.own⟩ a w':=⟨hI.below.step (hbel.1.mono (Yl _)) fun b hb=>hbel.2 b (kpsub hb),hI.size,hI.defers,fun t s ht=>by
      have ht':(lk t st.fr).map (kls L)=some s:=by rw[<-lk_map];exact ht
      obtain⟨s0,p1,rfl⟩:=YP.1 ht';exact keepS (hI.fr t s0 p1),hheap⟩
     refine⟨γ2,_,hQ,hS.put hd (hrel.mapR (fun b _ h=>ok_new b h) hp_new hr'),⟨hsz,fun b hlt hv=>hbel.2 b ⟨hlt,fun m bx hm hmb=>?_⟩⟩,fun K hK b hlt hv=>?_⟩
     · obtain⟨i,by_,k0,k1,k2⟩:=s3 m bx hm;rw[k2]at hmb;exact hv i by_ k1 (List.elem_eq_true_of_mem (Y1.2 ⟨(i,m),qas k0,rfl⟩)) hmb
     · rw[qaE];intro i bx hi hiK hib;rcases split hi with⟨m,bm,_,h2,_,h3⟩|⟨_,b0,h2,_,h3⟩
       · rw[h3]at hib;rcases newblk h2 hib with hge|⟨j,bj,q1,q2,q3⟩
         · omega
         · obtain⟨n,q4⟩:=Yv.1 q2;exact hv j bj q1 (List.elem_eq_true_of_mem (hK j (Y1.2 ⟨(j,n),qas q4,rfl⟩))) q3
       · rw[h3]at hib;exact hv i b0 h2 hiK hib
   · cases hst'
 · cases hst'
theorem mapRs_p (ρ:List (Nat×Nat)):∀l:List PV,mapRs ρ (l.map .p)=some (l.map .p)
 |[]=>rfl
 |x::r=>by
  have:=mapRs_p ρ r;simp only[Y2,mapRs,SV.mapR,this]
theorem act_call_R {o:Oper} {cl:Call} {fo:Operand} {f:FuncId} {caps:List PV} (ρ:List (Nat×Nat)) {args:List SV} {own:List (Nat×Box)} {R:SV->List (Nat×Box)->Prop} (ho:o.op=.call cl) (hcl:cl.callee=.value fo) (hfo:evS st fo=some (.p (.fn f caps)))
 (hown:ownR ρ st.own ρ=some own) (hρ:((dist (ρ.map (·.1))&&dist (ρ.map (·.2)))&&ρ.all (fun p=>Nat.ble 1000000 p.2))=true) (hargs:argWs st ρ cl.args.toList=some args)
 (H:HoldsR P f (args++caps.map .p) own R) (hd:jW st o.dst=true) {Q:St->Prop} (h:∀r own',R r own'->∃st',st.back ρ o.dst r own'=some st'/\backOk st ρ o.dst own'=true/\Q st'):ActOk P (ρ.map (·.1)) o st Q:=
 act_call_RS ρ ho hcl hfo rfl (mapRs_p ρ caps) hown hρ hargs H hd h
theorem act_call_W {o:Oper} {cl:Call} {fo:Operand} {f:FuncId} {caps:List PV} (ρ:List (Nat×Nat)) {args:List SV} {own:List (Nat×Box)} {r:SV} {own':List (Nat×Box)} (ho:o.op=.call cl) (hcl:cl.callee=.value fo) (hfo:evS st fo=some (.p (.fn f caps)))
 (hown:ownR ρ st.own ρ=some own) (hρ:((dist (ρ.map (·.1))&&dist (ρ.map (·.2)))&&ρ.all (fun p=>Nat.ble 1000000 p.2))=true) (hargs:argWs st ρ cl.args.toList=some args)
 (H:HoldsW P f (args++caps.map .p) own r own') (hd:jW st o.dst=true) {st':St} (hb:st.back ρ o.dst r own'=some st') (hk:backOk st ρ o.dst own'=true) {Q:St->Prop} (h:Q st'):ActOk P (ρ.map (·.1)) o st Q:=
 act_call_R ρ ho hcl hfo hown hρ hargs H hd fun r' o' ⟨hr,ho'⟩=>by subst hr;subst ho';exact⟨st',hb,hk,h⟩
end
section
variable {P:Program} {T:TT} (hT:zm P T) {st:St}
theorem act_makeMap {o:Oper} {t:TypeId} (ho:o.op=.makeMap t none) {d:Nat} (hdst:o.dst=some d) (hd:lk d st.own=none) (hn:Nat.blt d st.n=true) {Q:St->Prop} (h:Q ⟨st.n,(d,.row d)::st.fr,(d,.mp [])::st.own⟩):ActOk P [] o st Q:=by
 intro w0 Sx γ a w QQ hI;have hw:Below w.heap.size w (w.alloc (.map #[] 0)):=(Below.refl _ w).alloc (Yk _) _;have hbx:BoxOk w0 Sx (upd γ d (.map (some w.heap.size))) ((d,.mp [])::st.own) (w.alloc (.map #[] 0)) d (.mp []):=
  .mp (ens:=[]) (clock:=0) (b:=w.heap.size) (Yi rfl) (fun hk=>by have:=hI.heap.sx.lt _ hk;omega) (heap_alloc_new w _) rfl (fun j x e hs=>by simp at hs)
 have key:=hI.addBox hw hd hn (s:=.row d) (v:=.map (some w.heap.size)) (g:=.map (some w.heap.size)) (fun b hb=>by simp only[zg,Ye]at hb;omega) hbx (.row EO);unfold Oper.wp;have:(execOp a.eval o).run P w=.ok (.value (.map (some w.heap.size))) (w.alloc (.map #[] 0)):=by
  simp[execOp,ho,Instr.makeMap]
 refine R8 ?_;exact Ki
theorem Sim.setBox {w0:Base} {Sx:Nat->Prop} {γ:Nat->Value} {a:Act} {w w':World} (hI:Sim w0 Sx γ st a w) {j:Nat} {bx bx':Box} (hj:lk j st.own=some bx) {b:Nat} (hblk:zg (γ j)=some b) (hw:Below 0 w w') (hother:∀k,k≠b->w'.heap[k]?=w.heap[k]?)
 (hbx:∀own',own'=setB j bx' st.own->(∀c,okO Sx γ own' c↔okO Sx γ st.own c)->(∀{s:SV} {u:Value},RelS (okO Sx γ st.own) (hp γ st.own) w s u->RelS (okO Sx γ own') (hp γ own') w' s u)->BoxOk w0 Sx γ own' w' j bx'):
 Sim w0 Sx γ ⟨st.n,st.fr,setB j bx' st.own⟩ a w'/\SameOn (vis [j] γ st.own) w w'/\∀K:List Nat,(∀i∈[j],i∈K)->∀c,c<w.heap.size->vis K γ st.own c->vis K γ (setB j bx' st.own) c:=by
 have lk':∀i,lk i (setB j bx' st.own)=if i=j then some bx' else lk i st.own:=fun i=>by
  rw[lk_setB,hj];rfl
 have hsome:∀i,(lk i (setB j bx' st.own)).isSome=(lk i st.own).isSome:=fun i=>by
  rw[lk'];split
  · rename_i e;subst e;rw[hj];rfl
  · rfl
 generalize hown':setB j bx' st.own=own' at*;have hp':∀i,hp γ own' i=hp γ st.own i:=fun i=>by
  have:=hsome i;unfold hp;cases h2:lk i own'<;>cases h3:lk i st.own<;>rw[h2,h3]at this<;>first|rfl|cases this
 have okc:∀c,okO Sx γ own' c↔okO Sx γ st.own c:=fun c=>by
  refine and_congr Iff.rfl ⟨fun hk i bx hi=>?_,fun hk i bx hi=>?_⟩
  · have:=hsome i;rw[hi]at this;obtain⟨by_,h3⟩:=Yv.1 this;exact hk i by_ h3
  · have:=hsome i;rw[hi]at this;obtain⟨by_,h3⟩:=Yv.1 this.symm;exact hk i by_ h3
 have okb:∀i c,wE Sx γ own' i c↔wE Sx γ st.own i c:=fun i c=>by
  refine and_congr Iff.rfl ⟨fun hk k bx hi=>?_,fun hk k bx hi=>?_⟩
  · have:=hsome k;rw[hi]at this;obtain⟨by_,h3⟩:=Yv.1 this;exact hk k by_ h3
  · have:=hsome k;rw[hi]at this;obtain⟨by_,h3⟩:=Yv.1 this.symm;exact hk k by_ h3
 have keepS:∀{s:SV} {u:Value},RelS (okO Sx γ st.own) (hp γ st.own) w s u->RelS (okO Sx γ own') (hp γ own') w' s u:=fun h=>by
  refine h.keep2 hw.size (fun c hc hok=>⟨hother c fun e=>?_,(okc c).2 hok⟩) fun i _=>hp' i
  subst e;exact hok.2 j _ hj hblk
 have hbj:=hbx own' rfl okc keepS;refine⟨⟨hI.below.step hw fun k hk=>hother k fun e=>by subst e;exact(hI.heap.blk hj hblk).1 hk,hI.size,hI.defers,fun t s ht=>keepS (hI.fr t s ht),⟨fun i bx hi=>?_,fun i k bi bk c hi hk hbi hbk=>?_,hI.heap.sx.keep hw.size fun i bx hi=>Or.inr ⟨rfl,by rw[<-hsome i,hi];rfl⟩⟩⟩,⟨hw.size,fun c hc hv=>hother c fun e=>?_⟩,fun K _ c hc hv i bx hi hK=>?_⟩
 · rw[lk']at hi;by_cases e:i=j
   · subst e;rw[Yi rfl]at hi;cases hi;exact hbj
   · rw[Yc e]at hi;exact(hI.heap.box i bx hi).keep (Box.rel_refl _) rfl hw.size (fun c hc=>⟨hother c fun ec=>by subst ec;exact e (hI.heap.inj i j _ _ c hi hj hc hblk),(hI.heap.blk hi hc).1⟩) (fun c hc hok=>⟨hother c fun ec=>by subst ec;exact hok.2 j _ hj hblk,(okc c).2 hok⟩) fun s u s' hs es=>by subst es;exact keepS hs
 · have h2:=hsome i;rw[hi]at h2;have h3:=hsome k;rw[hk]at h3;obtain⟨x1,h4⟩:=Yv.1 h2.symm;obtain⟨x2,h5⟩:=Yv.1 h3.symm;exact hI.heap.inj i k _ _ c h4 h5 hbi hbk
 · subst e;exact hv j _ hj DQ hblk
 · have h2:=hsome i;rw[hi]at h2;obtain⟨x1,h4⟩:=Yv.1 h2.symm;exact hv i x1 h4 hK
include hT in
theorem act_mapUpdate {o:Oper} {t kt et:TypeId} {m k x:Operand} (ho:o.op=.mapUpdate t m k x) (hdst:o.dst=none) {ti ki:TyI} (ht:lk t T=some ti) (hte:ti.d=.mp kt et) (hk:lk kt T=some ki) {j:Nat} (hm:evS st m=some (.row j)) {es:List (Value×PV)} (hj:lk j st.own=some (.mp es))
 {kv:Value} (hkv:evS st k=some (.p (.v kv))) (hd:kdOk ki.d kv=true) (hall:es.all (fun x=>kdOk ki.d x.1)=true) (hno:mfind kv es=none) {p:PV} (hx:evS st x=some (.p p)) {Q:St->Prop} (h:Q ⟨st.n,st.fr,setB j (.mp (es++[(kv,p)])) st.own⟩):ActOk P [j] o st Q:=by
 intro w0 Sx γ a w QQ hI;have hu:=(hT t ti ht).und;rw[hte]at hu;simp only[jV]at hu;obtain⟨td,q1,q2⟩:=kd_und (hT kt _ hk).und hd;cases hI.heap.box j _ hj with
 |@mp _ ens clock b hg hB hh hl hr=>
 have hkv':=(qK hI hkv).v_inv;have hxv:=(qK hI hx).p_inv;have hmv:a.eval m=.map (some b):=by
  have:=qK hI hm;generalize a.eval m=u at this⊢;cases this with
  |row h0=>rw[zb hj,hg]at h0;cases h0;rfl
 have hfind:Instr.findNow td kv ens 0=some none:=by
  rcases qbl q2 hd (es:=es) (ens:=ens) 0 hl (fun j x e h1 h2=>(hr j x e h1 h2).1) hall with⟨_,h2⟩|⟨n,x,e,h1,_⟩
  · exact h2
  · rw[hno]at h1;cases h1
 have hlt:b<w.heap.size:=lt_of_block hh;have run:(execOp a.eval o).run P w=.ok .skip {w with heap:=w.heap.setIfInBounds b (.map (ens++[(⟨kv,a.eval x,clock⟩:MapEntry)]).toArray (clock+1))}:=by
  simp[execOp,ho,hmv,hkv',Instr.mapUpdate,run_underlying hu,MapKept.run_getObj_map hh,MapKept.run_checkKey q1 (q2 _ hd),MapKept.run_findKey q1 hfind,MapKept.run_setObj_map _ hh,Result.andThen]
 have hset:=MapKept.heap_set (o':=.map (ens++[(⟨kv,a.eval x,clock⟩:MapEntry)]).toArray (clock+1)) hh;have key:=Sim.setBox (w':={w with heap:=w.heap.setIfInBounds b (.map (ens++[(⟨kv,a.eval x,clock⟩:MapEntry)]).toArray (clock+1))}) (bx':=.mp (es++[(kv,p)])) hI hj (b:=b) DD ⟨rfl,rfl,rfl,by simp,fun k hk=>absurd hk (Nat.not_lt_zero _)⟩ hset.2 fun own' _ hok hkeep=>by
  refine .mp (ens:=ens++[(⟨kv,a.eval x,clock⟩:MapEntry)]) (clock:=clock+1) hg hB hset.1 DK fun i y e hs hu'=>?_
  have up:∀{y:PV} {u:Value},RelP (okO Sx γ st.own) w y u->RelP (okO Sx γ own') {w with heap:=w.heap.setIfInBounds b (.map (ens++[(⟨kv,a.eval x,clock⟩:MapEntry)]).toArray (clock+1))} y u:=fun h=>(hkeep (.p h)).p_inv
  by_cases hi:i<es.length
  · rw[Yw hi]at hs;rw[Yw DP]at hu';exact⟨(hr i y e hs hu').1,up (hr i y e hs hu').2⟩
  · rw[Yy DP]at hs;rw[Yy DP,hl]at hu';cases hii:i-es.length with
    |zero=>
     rw[hii]at hs hu';simp at hs hu';subst hs;subst hu';exact⟨rfl,up hxv⟩
    |succ n=>rw[hii]at hs;simp at hs
 unfold Oper.wp;rw[run,Oper.upon_skip,hdst];exact⟨γ,_,h,key.1,key.2.1,key.2.2⟩
theorem flat_take {α:Type} {size:Nat} {f:α->List Value} (hf:∀x,(f x).length=size):∀(l:List α) (k:Nat),k<=l.length->(l.take k).flatMap f=(l.flatMap f).take (k*size)
 |l,0,_=>by simp
 |[],k+1,h=>by simp at h
 |x::l,k+1,h=>by
  have ih:=flat_take hf l k DA;have e1:(f x).take ((k+1)*size)=f x:=YN (by rw[hf x,Nat.succ_mul];omega);have e2:(k+1)*size-(f x).length=k*size:=by rw[hf x,Nat.succ_mul];omega
  rw[Y4,YW,YW,ih,List.take_append,e1,e2]
theorem RowO.take {R:RF (List PV)} {size:Nat} {ok:Nat->Prop} {w:World} {e:TypeId} {A:Option Addr} {n c k:Nat} {l:List (List PV)} (h:RowO R size ok w 0 e (.slice A n c) l) (hk:k<=l.length):RowO R size ok w 0 e (.slice A k c) (l.take k):=by
 obtain⟨css,h1,h2,h3⟩:=h;have hok:okR ok (.slice A k c)=okR ok (.slice A n c):=by
  cases A<;>rfl
 refine⟨css.take k,⟨?_,?_⟩,by simp[h2],fun i a b=>?_⟩
 · rw[zU (fun x:Cel size=>x.2.1)]
 · rcases h1.2 with⟨hv,h0⟩|⟨g,cap,cur,hv,hb,hg,hnc,hcm,hcs,htk⟩
   · cases hv;refine Or.inl ⟨?_,by simp;omega⟩;have:k=0:=by omega
     rw[this]
   · cases hv;refine Or.inr ⟨g,c,cur,by simp;omega,hb,hg,by simp;omega,hcm,hcs,?_⟩;have e1:(css.take k).length=k:=by simp;omega
     rw[e1];have e2:(css.take k).flatMap Subtype.val=(css.flatMap Subtype.val).take (k*size):=flat_take (fun x:Cel size=>x.2.1) css k DP;rw[e2,<-htk,List.take_take];congr 1;have:=Xl size (show k<=css.length by omega);omega
 · rw[hok];have:=h3 i (by simp at a;omega) (by simp at b;omega);simpa using this
end
section
variable {P:Program} {st:St}
theorem ActOk.shrink {o:Oper} {Q:St->Prop} (t:Tmp) {j z k:Nat} {e:TypeId} {l:List (List PV)} (d:Nat) (ht:lk t st.fr=some (.view j z 0 k)) (hj:lk j st.own=some (.row e z l)) (hd:lk d st.own=none) (hn:Nat.blt d 1000000=true)
 (h:ActOk P [d] o ⟨st.n,(t,.row d)::killF j st.fr,(d,.row e z (l.take k))::killO j st.own⟩ Q):ActOk P [j] o st Q:=by
 intro w0 Sx γ a w QQ hI;have hdj:d≠j:=fun e=>by subst e;rw[hj]at hd;cases hd
 have hlt:d<1000000:=by simpa [Nat.blt,YJ]using hn
 have hv:=hI.fr t _ ht;generalize hu:a.tmps.getD t undef=u at hv;cases hI.heap.box j _ hj with
 |row hrow hel hml hkj=>
 obtain⟨A0,c0,hsh,hlc,_⟩:=hrow.shape;have hub:∃c,u=.slice A0 k c/\k<=l.length/\c=c0:=by
  cases hv with
  |@view _ _ _ _ n c A A' hg h1 h2 h3 h4=>
   rw[zb hj,hsh]at hg;cases hg;refine⟨c0,?_,h2,rfl⟩;rw[h4 (Or.inr rfl),Nat.zero_mul];cases A0 with
   |none=>rfl
   |some ad=>simp[Addr.add]
 obtain⟨c,rfl,hkl,rfl⟩:=hub;have hublk:∀b,zg (.slice A0 k c)=some b->zg (γ j)=some b:=fun b hb=>by rw[hsh];cases A0<;>first|exact hb|cases hb
 generalize hown':((d,Box.row e z (l.take k))::killO j st.own)=own' at*;have lk':∀i,lk i own'=if i=d then some (.row e z (l.take k))else if i=j then none else(lk i st.own).map (klB j):=fun i=>by
  rw[<-hown',qL,lk_killO]
 have hud:upd γ d (.slice A0 k c) d=.slice A0 k c:=Yi rfl;have huo:∀i,i≠d->upd γ d (.slice A0 k c) i=γ i:=fun i hi=>Yc hi
 have old:∀{i bx},lk i own'=some bx->i≠d->i≠j/\∃by_,lk i st.own=some by_/\bx=klB j by_:=fun{i bx} hi hid=>by
  rw[lk',Yc hid]at hi;by_cases e:i=j
  · rw[Yi e]at hi;cases hi
  · rw[Yc e]at hi;cases h2:lk i st.own with
    |none=>rw[h2]at hi;cases hi
    |some by_=>rw[h2]at hi;cases hi;exact⟨e,by_,rfl,rfl⟩
 have okn:∀b,okO Sx γ st.own b->okO Sx (upd γ d (.slice A0 k c)) own' b:=fun b hok=>⟨hok.1,fun i bx hi hib=>by
  by_cases e:i=d
  · subst e;rw[hud]at hib;exact hok.2 j _ hj (hublk b hib)
  · obtain⟨_,by_,h2,_⟩:=old hi e;rw[huo i e]at hib;exact hok.2 i by_ h2 hib⟩
 have keepS:∀{s:SV} {u:Value},RelS (okO Sx γ st.own) (hp γ st.own) w s u->RelS (okO Sx (upd γ d (.slice A0 k c)) own') (hp (upd γ d (.slice A0 k c)) own') w (kl j s) u:=fun{s u} h=>by
  have h1:=h.kl j;refine h1.keep2 (Yk _) (fun b _ hok=>⟨rfl,okn b hok⟩) fun i hi=>?_
  have hij:i≠j:=fun e=>by subst e;rw[noRef_kl]at hi;cases hi
  have hs:=qaF hi;cases h2:lk i st.own with
  |none=>rw[h.live (jO h2)]at hs;cases hs.1
  |some by_=>
   have hid:i≠d:=fun e=>by subst e;rw[hd]at h2;cases h2
   exact G6
 have hS:Sim w0 Sx (upd γ d (.slice A0 k c)) ⟨st.n,(t,.row d)::killF j st.fr,own'⟩ a w:=by
  refine⟨hI.below,hI.size,hI.defers,fun t' s ht'=>?_,fun i bx hi=>?_,fun i m bi bm b hi hm hbi hbm=>?_,hI.heap.sx.keep (Yk _) fun i bx hi=>?_⟩
  · have ht2:(if t'=t then some (SV.row d)else lk t' (killF j st.fr))=some s:=by rw[<-qL];exact ht'
    by_cases e1:t'=t
    · rw[Yi e1]at ht2;cases ht2;subst e1;rw[hu];exact .row (by rw[zb (bx:=.row e z (l.take k)) (by rw[lk',Yi rfl]),hud])
    · rw[Yc e1]at ht2;have ht3:(lk t' st.fr).map (kl j)=some s:=by rw[<-lk_killF];exact ht2
      obtain⟨s0,p1,rfl⟩:=YP.1 ht3;exact keepS (hI.fr t' s0 p1)
  · by_cases e1:i=d
    · subst e1;rw[lk',Yi rfl]at hi;cases hi;refine .row ?_ (fun x hx=>hel x (Xd hx)) DE (fun b hb=>by rw[hud]at hb;exact hkj b (hublk b hb));rw[hud];rw[hsh]at hrow;refine(hrow.take hkl).keep2 good_PV (Yk _) (fun _ _=>rfl) fun b _ hok _=>⟨rfl,hok.1,fun m bm hm hmd hmb=>?_⟩
      obtain⟨h1,by_,h2,_⟩:=old hm hmd;rw[huo m hmd]at hmb;exact hok.2 m by_ h2 h1 hmb
    · obtain⟨hij,by_,h2,rfl⟩:=old hi e1;exact(hI.heap.box i by_ h2).keep (Box.rel_map (kl j) (fun _=>rfl) by_) (huo i e1) (Yk _) (fun b hb=>⟨rfl,(hI.heap.blk h2 hb).1⟩) (fun b hb hok=>⟨rfl,okn b hok⟩) fun s u s' hs es=>by subst es;exact keepS hs
  · by_cases e1:i=d
    · by_cases e2:m=d
      · rw[e1,e2]
      · obtain⟨q1,b0,q2,_⟩:=old hm e2;subst e1;rw[hud]at hbi;rw[huo m e2]at hbm;exact absurd (hI.heap.inj m j _ _ b q2 hj hbm (hublk b hbi)) q1
    · obtain⟨p1,c1,p2,_⟩:=old hi e1;rw[huo i e1]at hbi;by_cases e2:m=d
      · subst e2;rw[hud]at hbm;exact absurd (hI.heap.inj i j _ _ b p2 hj hbi (hublk b hbm)) p1
      · obtain⟨q1,b0,q2,_⟩:=old hm e2;rw[huo m e2]at hbm;exact hI.heap.inj i m _ _ b p2 q2 hbi hbm
  · by_cases e1:i=d
    · exact Or.inl DP
    · obtain⟨_,by_,h2,_⟩:=old hi e1;exact Or.inr ⟨huo i e1,by rw[h2];rfl⟩
 have visd:∀{K:List Nat} {b:Nat},j∈K->vis K γ st.own b->vis (d::K) (upd γ d (.slice A0 k c)) own' b:=fun{K b} hjK hv i bx hi hK hib=>by
  by_cases e1:i=d
  · subst e1;rw[hud]at hib;exact hv j _ hj (List.elem_eq_true_of_mem hjK) (hublk b hib)
  · obtain⟨_,by_,h2,_⟩:=old hi e1;rw[huo i e1]at hib;refine hv i by_ h2 ?_ hib;have hm:=List.mem_of_elem_eq_true hK;rcases Y0.1 hm with e2|hm
    · exact absurd e2 e1
    · exact List.elem_eq_true_of_mem hm
 have:=h w0 Sx _ a w QQ hS;refine Oper.wp_mono (fun a' w' hq=>?_) this;obtain⟨γ',st',h1,h2,h3,h4⟩:=hq;refine⟨γ',st',h1,h2,⟨h3.size,fun b hb hv=>h3.block b hb ?_⟩,fun K hK b hb hv=>?_⟩
 · have:=visd (K:=[j]) DQ hv;intro i bx hi hK hib;refine this i bx hi ?_ hib;have hm:=List.mem_of_elem_eq_true hK;simp only[YA]at hm;exact List.elem_eq_true_of_mem (by simp[hm])
 · have:=h4 (d::K) DQ b hb (visd (hK j DQ) hv);exact fun i bx hi hiK hib=>this i bx hi (List.elem_eq_true_of_mem (Y3 _ (List.mem_of_elem_eq_true hiK))) hib
end
end Go.Proofs.YtblgnefkgkchhaaGreatDoor
