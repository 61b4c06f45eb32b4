/- Part 9. -/
import Derived.Test.YtblgnefkgkchhaaGreatDoorRows
import Derived.Lib.LaidTab
import Derived.Lib.LaidU8
import Derived.LaidLaws
import Derived.LaidHandle
import Derived.Stop.Joined
import Derived.ChangeSame
import Derived.ChangeVars
import Derived.JoinedOf
import Derived.RowKitTokens
import Derived.Test.YtblgnefkgkchhaaGreatDoorTOw8
set_option maxHeartbeats 4000000
set_option maxRecDepth 100000
set_option linter.unusedSimpArgs false
set_option linter.unusedVariables false
namespace Go.Proofs.YtblgnefkgkchhaaGreatDoor
open _root_.Go.Proofs.Tryz
section
open Go.RowKit
def ownT:Bs:=[112,111,108,105,99,121,32,112,32,100,101,110,121,111,118,101,114,32,123,32,100,101,110,121,32,119,32,119,104,101,110,32,40,97,99,116,105,111,110,46,110,97,109,101,32,61,32,35,119,114,105,116,101,41,32,105,102,32,40,110,111,116,32,40,101,113,32,40,111,110,101,32,99,97,115,101,46,111,119,110,101,114,41,32,40,111,110,101,32,115,117,98,106,101,99,116,46,105,100,41,41,41,59,32,100,101,110,121,32,113,32,119,104,101,110,32,40,97,99,116,105,111,110,46,110,97,109,101,32,61,32,35,112,111,108,105,99,121,41,59,32,112,101,114,109,105,116,32,114,59,32,125]
def atrA:Atr:=⟨2,⟨#[110,97,109,101]⟩,false⟩
def atrO:Atr:=⟨3,⟨#[111,119,110,101,114]⟩,false⟩
def atrS:Atr:=⟨1,⟨#[105,100]⟩,false⟩
def matWr (w:EQ):Mat:=⟨atrA,1,idV w⟩
def condO:List Nod:=[⟨2,noVal,atrO⟩,⟨3,noVal,noAtr⟩,⟨2,noVal,atrS⟩,⟨3,noVal,noAtr⟩,⟨6,noVal,noAtr⟩,⟨11,noVal,noAtr⟩]
def rulWr:Rul:=⟨⟨#[119]⟩,true,[[[matWr wWrite]]],condO,[]⟩
def rulPo:Rul:=⟨⟨#[113]⟩,true,[[[matWr wPol]]],[],[]⟩
def rulPe:Rul:=⟨⟨#[114]⟩,false,[],[],[]⟩
def polO:Pol:=.mk ⟨#[112]⟩ false 1 [] [rulWr,rulPo,rulPe] [] []
theorem met_one (m:Mat) (g:List Giv):metT [[[m]]] g=jS m g:=by
 have:=matchT_range m g;unfold metT anyTT;simp only[Xx,List.foldl_nil];unfold allTT;simp only[Xx,List.foldl_nil];omega
theorem bag_name (s:Sto) (o:Opn):getS atrA (askC s o)=([idV (actC o.kind)],0):=by
 have:(askC s o).find? (isG 2 ⟨#[110,97,109,101]⟩)=some (gv 2 [110,97,109,101] [idV (actC o.kind)]):=rfl
 unfold getS bagS atrA;dsimp only;rw[this];rfl
theorem bag_subj (s:Sto) (o:Opn):getS atrS (askC s o)=([idV o.subj],0):=by
 have:(askC s o).find? (isG 1 ⟨#[105,100]⟩)=some (gv 1 [105,100] [idV o.subj]):=rfl
 unfold getS bagS atrS;dsimp only;rw[this];rfl
theorem bag_own (s:Sto) (o:Opn) {c:Cas} (hc:zZ s.cases o.case_=some c) (hk:o.kind≠6):getS atrO (askC s o)=([idV c.owner],0):=by
 have:(askC s o).find? (isG 3 ⟨#[111,119,110,101,114]⟩)=some (gv 3 [111,119,110,101,114] [idV c.owner]):=by
  unfold askC;rw[hc];dsimp only;rw[Yc hk];cases emB o.field<;>cases emB o.to_<;>rfl
 unfold getS bagS atrO;dsimp only;rw[this];rfl
theorem match_name (s:Sto) (o:Opn) (w:EQ):jS (matWr w) (askC s o)=if actC o.kind=w then 2 else 0:=by
 have h1:okT (matWr w) (idV (actC o.kind))=decide (actC o.kind=w):=by
  unfold okT qbg;refine Gs ?_;show jX (idV (actC o.kind)) (idV w)=_;unfold jX idV;simp
 have h2:badT (matWr w) (idV (actC o.kind))=false:=by
  unfold badT qbg;refine Gs ?_;rfl
 unfold jS;rw[show(matWr w).attr=atrA from rfl,bag_name];dsimp only;rw[Yc EL];simp only[List.any_cons,List.any_nil,Bool.or_false,h1,h2];by_cases h:actC o.kind=w
 · rw[Yg Ez,Yg h]
 · rw[Yc Ez,Yc EL,Yc h]
theorem cond_own {g:List Giv} {a b:EQ} (hO:getS atrO g=([idV a],0)) (hS:getS atrS g=([idV b],0)) (hab:a≠b):condS condO g≠0:=by
 have hne:condO≠[]:=by unfold condO;simp
 have hex:exprS condO=0:=by kernel_rfl
 have e1:evalI g condO=[jH ⟨11,noVal,noAtr⟩ [jH ⟨6,noVal,noAtr⟩ [⟨[],idV a,0⟩,⟨[],idV b,0⟩] g] g]:=by
  unfold evalI condO;simp only[Xx,List.foldl_nil];have s1:stepI g [] ⟨2,noVal,atrO⟩=[⟨[idV a],noVal,0⟩]:=by
   show [jH ⟨2,noVal,atrO⟩ [] g]=_;unfold jH;rw[Yc EL,Yg rfl];dsimp only;rw[hO]
  have s2:stepI g [⟨[idV a],noVal,0⟩] ⟨3,noVal,noAtr⟩=[⟨[],idV a,0⟩]:=rfl;have s3:stepI g [⟨[],idV a,0⟩] ⟨2,noVal,atrS⟩=[⟨[],idV a,0⟩,⟨[idV b],noVal,0⟩]:=by
   show [⟨[],idV a,0⟩,jH ⟨2,noVal,atrS⟩ [] g]=_;unfold jH;rw[Yc EL,Yg rfl];dsimp only;rw[hS]
  have s4:stepI g [⟨[],idV a,0⟩,⟨[idV b],noVal,0⟩] ⟨3,noVal,noAtr⟩=[⟨[],idV a,0⟩,⟨[],idV b,0⟩]:=rfl;rw[s1,s2,s3,s4];rfl
 unfold condS valueS;rw[Yc hne,Yc (fun h=>h.elim hne fun h=>h hex),e1];show condV ((jH ⟨11,noVal,noAtr⟩ [jH ⟨6,noVal,noAtr⟩ [⟨[],idV a,0⟩,⟨[],idV b,0⟩] g] g).v,(jH ⟨11,noVal,noAtr⟩ [jH ⟨6,noVal,noAtr⟩ [⟨[],idV a,0⟩,⟨[],idV b,0⟩] g] g).e)≠0;have e6:jH ⟨6,noVal,noAtr⟩ [⟨[],idV a,0⟩,⟨[],idV b,0⟩] g=⟨[],(ja 6 [idV a,idV b]).1,(ja 6 [idV a,idV b]).2⟩:=rfl;rw[e6];have ec:ja 6 [idV a,idV b]=(noVal,1)\/ja 6 [idV a,idV b]=(qao false,0):=by
  unfold ja;cases mayS 6 [idV a,idV b]with
  |false=>exact .inl rfl
  |true=>
   right;have:jX (idV a) (idV b)=false:=by
    unfold jX idV;simp[hab]
   show(qao (jX (idV a) (idV b)),(0:Int))=_;rw[this]
 rcases ec with h|h
 · rw[h];show condV (noVal,1)≠0;decide
 · rw[h];show condV (qao true,0)≠0;decide
theorem own_eval (g:List Giv):ji polO g=(qR g 4 polO,0):=by
 unfold ji;rw[Yg (show zO polO=0 by kernel_rfl)]
theorem own_marks (g:List Giv):(qR g 4 polO).m=overM (wm (wm (wm (0,0) (js g rulWr).m) (js g rulPo).m) (2,0)):=by
 have h:(qR g 4 polO)=joinR polO 2 [js g rulWr,js g rulPo,js g rulPe]:=rfl;have hp:(js g rulPe).m=(2,0):=rfl;rw[h];unfold joinR;rw[Yc EL,Yc EL];have e:allM polO.alg ([js g rulWr,js g rulPo,js g rulPe].map Rs.m)=overM (wm (wm (wm (0,0) (js g rulWr).m) (js g rulPo).m) (2,0)):=by
  rw[<-hp];rfl
 rw[e];split<;>rfl
theorem ruleR_m (g:List Giv) (r:Rul):(js g r).m=if metT r.target g=0\/(metT r.target g=2/\condS r.cond g=0)then(0,0)else if metT r.target g=1\/condS r.cond g=1 then indetM (effM r)else effM r:=by
 unfold js effectS;split
 · rfl
 · split<;>rfl
theorem own_write {s:Sto} (hp:s.pol=polO) {o:Opn} (hk:o.kind=3) {c:Cas} (hc:zZ s.cases o.case_=some c) (hab:c.owner≠o.subj):(rsC s o).m≠(2,0):=by
 unfold rsC;rw[hp,own_eval,own_marks];have h1:metT rulWr.target (askC s o)=2:=by
  show metT [[[matWr wWrite]]] _=2;rw[met_one,match_name,hk];rfl
 have h2:=cond_own (bag_own s o hc EM) (bag_subj s o) hab;have h3:(js (askC s o) rulWr).m=(0,1)\/(js (askC s o) rulWr).m=(0,2):=by
  rw[ruleR_m,h1,Yc (by
   show¬((2:Int)=0\/(2:Int)=2/\condS condO _=0);omega)]
  split
  · exact .inl rfl
  · exact .inr rfl
 have h4:(js (askC s o) rulPo).m=(0,0):=by
  rw[ruleR_m];have:metT rulPo.target (askC s o)=0:=by
   show metT [[[matWr wPol]]] _=0;rw[met_one,match_name,hk];rfl
  rw[this,Yg (.inl rfl)]
 rw[h4];rcases h3 with h|h<;>rw[h]<;>decide
theorem own_policy {s:Sto} (hp:s.pol=polO) {o:Opn} (hk:o.kind=7):(rsC s o).m=(0,2):=by
 unfold rsC;rw[hp,own_eval,own_marks];have h4:(js (askC s o) rulPo).m=(0,2):=by
  rw[ruleR_m];have:metT rulPo.target (askC s o)=2:=by
   show metT [[[matWr wPol]]] _=2;rw[met_one,match_name,hk];rfl
  rw[this];rfl
 have h3:(js (askC s o) rulWr).m=(0,0):=by
  rw[ruleR_m];have:metT rulWr.target (askC s o)=0:=by
   show metT [[[matWr wWrite]]] _=0;rw[met_one,match_name,hk];rfl
  rw[this,Yg (.inl rfl)]
 rw[h3,h4];decide
theorem glass_on {o:Opn} (hf:jY o=true) (hg:o.glass=true):1<=o.kind/\o.kind<=4:=by
 unfold jY at hf;simp only[Yo]at hf;have h:=hf.2.1;unfold reaC at h;rw[Yg hg]at h;simp only[Yo,onC,Yh]at h;exact h.1
theorem done_pv {s:Sto} {o:Opn} (h:o.kind≠7):(za s o).pol=s.pol/\(za s o).ver=s.ver:=by
 have on:∀id f,(jT s id f).pol=s.pol/\(jT s id f).ver=s.ver:=fun id f=>by unfold jT;split<;>exact⟨rfl,rfl⟩
 unfold za;rw[Yc h]
 repeat' split
 all_goals first|exact⟨rfl,rfl⟩|exact on _ _
theorem caseC_of {l:List Cas} (h:Srt Cas.id l) {d:Cas} (hd:d∈l):zZ l d.id=some d:=by
 obtain⟨i,hi,rfl⟩:=List.mem_iff_getElem.1 hd;have h1:jh l (l[i]).id=i:=srt_plc h hi;unfold zZ;rw[h1,Yi hi];dsimp only;rw[Yg rfl]
theorem mem_set_or {α:Type} {l:List α} {c:α} (hc:c∈l) (i:Nat) (x:α):l[i]?=some c\/c∈l.set i x:=by
 obtain⟨j,hj,rfl⟩:=List.mem_iff_getElem.1 hc;by_cases h:i=j
 · subst h;exact .inl (Yi hj)
 · refine .inr (List.mem_iff_getElem.2 ⟨j,by rw[Xd];exact hj,?_⟩);rw[List.getElem_set_ne h]
theorem on_mem {s:Sto} {id:EQ} {f:Cas->Cas} {c:Cas} (hc:c∈s.cases):c∈(jT s id f).cases\/(s.cases[jh s.cases id]?=some c/\f c∈(jT s id f).cases):=by
 unfold jT;cases h:s.cases[jh s.cases id]? with
 |none=>exact .inl hc
 |some d=>
  dsimp only;rcases mem_set_or hc (jh s.cases id) (f d)with h2|h2
  · rw[h]at h2;cases h2;exact .inr ⟨rfl,List.mem_iff_getElem.2 ⟨jh s.cases id,by rw[Xd];exact(Yr.1 h).1,by rw[List.getElem_set_self]⟩⟩
  · exact .inl h2
theorem done_face {s:Sto} {o:Opn} (hr:rdyC s o=0) {c:Cas} (hc:c∈s.cases):∃m∈(za s o).cases,m.id=c.id/\m.owner=c.owner/\(m.fields=c.fields\/(o.kind=3/\o.case_=c.id/\zZ s.cases o.case_=some c)):=by
 have keep:c∈(za s o).cases->∃m∈(za s o).cases,m.id=c.id/\m.owner=c.owner/\(m.fields=c.fields\/(o.kind=3/\o.case_=c.id/\zZ s.cases o.case_=some c)):=fun h=>⟨c,h,rfl,rfl,.inl rfl⟩
 have hf:=rdy_form hr;unfold rdyC at hr;rw[Yc (by rw[hf];decide)]at hr;by_cases k1:o.kind=1
 · apply keep;unfold za;rw[Yg k1];show c∈s.cases.take _++_::s.cases.drop _;have h2:c∈s.cases.take (jh s.cases o.case_)++s.cases.drop (jh s.cases o.case_):=by rw[Xl];exact hc
   rcases YH.1 h2 with h|h
   · exact YH.2 (.inl h)
   · exact YH.2 (.inr (YZ _ h))
 by_cases k3:o.kind=3
 · rw[Yc k1,Yg (.inr (.inl k3))]at hr;have hd:za s o=jT s o.case_ fun c=>hapC s {c with fields:=wrtC c.fields o.field o.val} o.subj wWrite:=by
    unfold za;rw[Yc k1,Yg k3]
   rw[hd]at keep⊢;rcases on_mem (s:=s) (id:=o.case_) (f:=fun c=>hapC s {c with fields:=wrtC c.fields o.field o.val} o.subj wWrite) hc with h|⟨h,h2⟩
   · exact keep h
   · have hcc:zZ s.cases o.case_=some c:=by
      unfold qaG at hr;cases hq:zZ s.cases o.case_ with
      |none=>rw[hq]at hr;exact absurd hr (show(10:Int)≠0 by decide)
      |some c'=>
       unfold zZ at hq;rw[h]at hq;dsimp only at hq;split at hq
       · exact hq.symm▸rfl
       · cases hq
     exact⟨_,h2,rfl,rfl,.inr ⟨k3,(caseC_mem hcc).2.symm,hcc⟩⟩
 by_cases k4:o.kind=4
 · have hd:za s o=jT s o.case_ fun c=>hapC s {c with state:=o.to_} o.subj o.to_:=by
    unfold za;rw[Yc k1,Yc k3,Yg k4]
   rw[hd]at keep⊢;rcases on_mem (s:=s) (id:=o.case_) (f:=fun c=>hapC s {c with state:=o.to_} o.subj o.to_) hc with h|⟨h,h2⟩
   · exact keep h
   · exact⟨_,h2,rfl,rfl,.inl rfl⟩
 apply keep;unfold za;rw[Yc k1,Yc k3,Yc k4]
 repeat' split
 all_goals exact hc
theorem own_law {x:Eng} {k:Nat} (hx:x.Iv k) (hp:x.sto.pol=polO) {q:Bs} (hq:q.length<=4096):
 (jq x q).1.sto.pol=polO/\(jq x q).1.sto.ver=x.sto.ver/\∀c∈x.sto.cases,∃d,zZ (jq x q).1.sto.cases c.id=some d/\d.owner=c.owner/\(d.fields=c.fields\/(jq x q).2=qay\/∃o,lineW q=some o/\o.kind=3/\o.subj=c.owner/\o.case_=c.id):=by
 have same:x.sto.pol=polO/\x.sto.ver=x.sto.ver/\∀c∈x.sto.cases,∃d,zZ x.sto.cases c.id=some d/\d.owner=c.owner/\d.fields=c.fields:=
  ⟨hp,rfl,fun c hc=>⟨c,caseC_of hx.in_.sto.g0.srt hc,rfl,rfl⟩⟩
 have hin:=in_line hx.in_ hq;rcases line_cases x q with⟨h,hc⟩|⟨o,ho,⟨e,a,he,hc⟩|⟨hk,hc⟩⟩
 · rw[hc];refine⟨same.1,same.2.1,fun c hcm=>?_⟩;obtain⟨d,h1,h2,h3⟩:=same.2.2 c hcm;exact⟨d,h1,h2,.inl h3⟩
 · rw[hc];refine⟨same.1,same.2.1,fun c hcm=>?_⟩;obtain⟨d,h1,h2,h3⟩:=same.2.2 c hcm;exact⟨d,h1,h2,.inl h3⟩
 rw[hc]at hin⊢;dsimp only at hin⊢;have hsrt:=hin.sto.g0.srt;have hD:=act_dut x.sto o (rsC x.sto o);have ht:(goneE x o).sto=(actR x.sto o (rsC x.sto o)).1:=rfl;rw[ht]at hsrt⊢;have hb7:o.kind=7->dneB x.sto o (rsC x.sto o).m=false:=fun k7=>by
  have hm:=own_policy hp k7;unfold dneB;rw[hm];cases hb:brkC x.sto o (0,2)with
  |false=>decide
  |true=>
   have:=glass_on hk.form (brk_mark hb).1;omega
 have hpv:(midS x.sto o (rsC x.sto o).m).pol=x.sto.pol/\(midS x.sto o (rsC x.sto o).m).ver=x.sto.ver:=by
  have hg:(glsS x.sto o (rsC x.sto o).m).pol=x.sto.pol/\(glsS x.sto o (rsC x.sto o).m).ver=x.sto.ver:=by unfold glsS;split<;>exact⟨rfl,rfl⟩
  unfold midS;cases hd:dneB x.sto o (rsC x.sto o).m with
  |false=>exact hg
  |true=>
   have h7:o.kind≠7:=fun k7=>by rw[hb7 k7]at hd;cases hd
   have:=done_pv (s:=glsS x.sto o (rsC x.sto o).m) h7;exact⟨this.1.trans hg.1,this.2.trans hg.2⟩
 refine⟨hD.pol.trans (hpv.1.trans hp),hD.ver.trans hpv.2,fun c hcm=>?_⟩;have hm:∃m∈(midS x.sto o (rsC x.sto o).m).cases,m.id=c.id/\m.owner=c.owner/\(m.fields=c.fields\/(dneB x.sto o (rsC x.sto o).m=true/\o.kind=3/\o.case_=c.id/\zZ x.sto.cases o.case_=some c)):=by
  have hgc:(glsS x.sto o (rsC x.sto o).m).cases=x.sto.cases:=by unfold glsS;split<;>rfl
  unfold midS;cases hd:dneB x.sto o (rsC x.sto o).m with
  |false=>exact⟨c,by rw[Yc EL,hgc];exact hcm,rfl,rfl,.inl rfl⟩
  |true=>
   rw[Yg rfl];have hr2:rdyC (glsS x.sto o (rsC x.sto o).m) o=0:=by
    unfold glsS;split
    · rename_i hb;rw[rdy_opn _ (glass_kind hk.form (brk_mark hb).1)];exact hk.rdy
    · exact hk.rdy
   obtain⟨m,h1,h2,h3,h4⟩:=done_face hr2 (c:=c) (by rw[hgc];exact hcm);refine⟨m,h1,h2,h3,?_⟩;rcases h4 with h4|⟨h5,h6,h7⟩
   · exact .inl h4
   · rw[hgc]at h7;exact .inr ⟨rfl,h5,h6,h7⟩
 obtain⟨m,h1,h2,h3,h4⟩:=hm;have h5:faceC m∈(actR x.sto o (rsC x.sto o)).1.cases.map faceC:=by
  rw[hD.face];exact List.mem_map_of_mem h1
 obtain⟨d,hd1,hd2⟩:=YY.1 h5;unfold faceC at hd2;simp only[Ys]at hd2;obtain⟨d1,d2,d3,d4⟩:=hd2;refine⟨d,?_,d2.trans h3,?_⟩
 · rw[<-h2,<-d1];exact caseC_of hsrt hd1
 · rcases h4 with h4|⟨h6,h7,h8,h9⟩
   · exact .inl (d4.trans h4)
   · right;by_cases hb:brkC x.sto o (rsC x.sto o).m=true
     · exact .inl ((ans_glass _ _ _).2 hb)
     · right;refine⟨o,ho,h7,?_,h8⟩;apply Y5;intro hne;have:=own_write hp h7 h9 (fun h=>hne h.symm);unfold dneB at h6;rcases Bool.or_eq_true_iff.1 h6 with h|h
       · exact this (Y0 h)
       · exact hb h
noncomputable def eqB {α:Type} (a b:α):Bool:=@decide (a=b) (Classical.propDecidable _)
theorem eqB_true {α:Type} {a b:α} (h:a=b):eqB a b=true:=by unfold eqB;exact@decide_eq_true _ (Classical.propDecidable _) h
theorem eqB_false {α:Type} {a b:α} (h:a≠b):eqB a b=false:=by unfold eqB;exact@decide_eq_false _ (Classical.propDecidable _) h
theorem fld_ext {x y:Fld}:x=y↔x.name=y.name/\x.val.kind=y.val.kind/\x.val.n=y.val.n/\x.val.s=y.val.s:=by
 obtain⟨n,k,m,s⟩:=x;obtain⟨n',k',m',s'⟩:=y;simp
theorem row_ne {α:Type} {a b:List α} {k:Nat} (h1:k<a.length) (h2:k<b.length) (h:a[k]≠b[k]):a≠b:=fun e=>by
 subst e;exact h rfl
theorem row_eq {α:Type} {a b:List α} (h:a.length=b.length) (hk:∀j (h1:j<a.length) (h2:j<b.length),a[j]=b[j]):a=b:=List.ext_getElem h hk
theorem twoFld_h (a b:List Fld) (ha:a.length<=1000000) (hb:b.length<=1000000):Holds prog 36 [fldsP a,fldsP b] (.p (pB (eqB a b))) []:=by
 refine qo (ts:=[4]) func36 EF rfl rfl rfl ?_;refine MJ ?_;refine uC (fun h0=>?_) (fun h0=>?_)
 · rw[eqB_false (fun e=>by subst e;simp at h0)];refine MH ?_;exact Gg
 refine qh ?_;have hlen:a.length=b.length:=by simp at h0;omega
 refine M0 ?_;refine uZ [0,1,4,5] [] ?_;refine qI (fun m s=>∃(k:Nat) (kk:Int),k<=a.length/\m=a.length-k/\kk=k/\(∀j (h1:j<a.length) (h2:j<b.length),j<k->a[j]=b[j])/\s=⟨26,[(0,.p (fldsP a)),(1,.p (fldsP b)),(4,.p (pB false)),(5,.p (pI kk))],[]⟩) a.length ⟨0,0,Yl _,rfl,rfl,fun j _ _ h=>absurd h (Nat.not_lt_zero _),rfl⟩ ?_;rintro m s ⟨k,_,hk,rfl,rfl,hall,rfl⟩;refine uA ?_;refine uC (fun hlt=>?_) (fun hlt=>?_)
 · refine qh ?_;simp only[Yb,Yh]at hlt;have hlt':k<a.length:=by omega
   have hlt2:k<b.length:=by omega
   obtain⟨x,hx⟩:∃x,x=a[k]:=⟨_,rfl⟩;obtain⟨y,hy⟩:∃y,y=b[k]:=⟨_,rfl⟩;refine uB ?_;refine uD [] [1,3,5,7,9,11,13,15,17] ?_;refine U0 ?_;rw[qH hlt',<-hx];refine uT ?_;refine U0 ?_;rw[qH hlt2,<-hy];refine uT ?_;refine qU qc rfl rfl rfl (rfl) rfl ?_;refine Kd ?_;refine uC (fun hp=>?_) (fun hp=>?_)
   · have hne:x≠y:=fun e=>by
      subst e;simp at hp
     rw[eqB_false (row_ne hlt' hlt2 (by rw[<-hx,<-hy];exact hne))];refine MH ?_;exact Gg
   have heq:x=y:=by
    simp[beqB]at hp;exact fld_ext.2 Eo
   refine MR ?_;refine⟨_,_,?_,qk [0,1,4,5] [] rfl rfl,k+1,_,hlt',rfl,qu hlt' EM,fun j h1 h2 h3=>?_,rfl⟩
   · omega
   · by_cases e:j=k
     · subst e;rw[<-hx,<-hy];exact heq
     · exact hall j h1 h2 EM
 · simp only[Yb,Yk]at hlt;rw[eqB_true (row_eq hlen fun j h1 h2=>hall j h1 h2 EM)];refine qF ?_;refine MH ?_;exact Gg
def ow1:Bs:=[98,111,115,115,32,110,101,119,32,99]
def ow2:Bs:=[98,111,115,115,32,119,114,105,116,101,32,99,32,102,32,49]
def ow3:Bs:=[98,111,115,115,32,112,111,108,105,99,121,32]++ownT
def ox0:Eng:=newE 200000
def ox1:Eng:=(jq ox0 ow1).1
def ox2:Eng:=(jq ox1 ow2).1
def ox3:Eng:=(jq ox2 ow3).1
theorem ow_1:(jq ox0 ow1).2=wOk:=by kernel_rfl
theorem ow_2:(jq ox1 ow2).2=wOk:=by kernel_rfl
theorem ow_3:(jq ox2 ow3).2=wOk:=by kernel_rfl
theorem ow_pol:ox3.sto.pol=polO:=by kernel_rfl
theorem ox1_iv:ox1.Iv 1:=new_iv.line EL
theorem ox2_iv:ox2.Iv 2:=ox1_iv.line EL
theorem ox3_iv:ox3.Iv 3:=ox2_iv.line EL
theorem ol1:HoldsW prog 16 [.ptr 1000000 0,.p (pL ow1)] (engO ox0 1000003 1000004) (.p (pS wOk)) (engO ox1 0 1):=by
 have h:=line_h ox0 (new_iv.in_.ok EL) ow1 EL;rw[ow_1]at h;exact h
theorem ol2:HoldsW prog 16 [.ptr 1000000 0,.p (pL ow2)] (engO ox1 1000003 1000004) (.p (pS wOk)) (engO ox2 0 1):=by
 have h:=line_h ox1 (ox1_iv.in_.ok EL) ow2 EL;rw[ow_2]at h;exact h
theorem ol3:HoldsW prog 16 [.ptr 1000000 0,.p (pL ow3)] (engO ox2 1000003 1000004) (.p (pS wOk)) (engO ox3 0 1):=by
 have h:=line_h ox2 (ox2_iv.in_.ok EL) ow3 EL;rw[ow_3]at h;exact h
theorem topFour_h:HoldsW prog 34 [.p (pL ownT)] [] (.ptr 0 0) (engG ox3 0 1 2 3 4):=by
 have L1:=ol1;have L2:=ol2;have L3:=ol3;have F0:HoldsW prog 13 [.p (pI 200000)] [] (.tup [.ptr 0 0,.ptr 2 0]) (engG ox0 0 1 2 3 4):=fresh_h 200000 EL;have hcat:((⟨#[98,111,115,115,32,112,111,108,105,99,121,32]⟩:EQ)++bs ownT)=bs ow3:=by kernel_rfl
 have hsz:(bs ownT).size<=1000:=by decide
 generalize ox0=x0 at*;generalize ox1=x1 at*;generalize ox2=x2 at*;generalize ox3=x3 at*;refine qC (ts:=[2]) func34 EF rfl rfl rfl ?_;refine MI ?_;refine uW [] F0 ?_;refine MG ?_;refine uZ [0,3] [(7000,7000),(7001,7001),(7002,7002),(7003,7003),(7004,7004)] ?_;change SW _ _ _ ⟨29,[(0,.p (pL ownT)),(3,.ptr 7000 0)],engG x0 7000 7001 7002 7003 7004⟩;have hOk:(wOk.toList==(⟨#[111,107]⟩:EQ).toList)=true:=by rw[beqB];exact YC rfl
 refine uR ?_;refine U9 ?_;refine uS ?_;refine uW [(7000,1000000),(7001,1000001),(7002,1000002),(7003,1000003),(7004,1000004)] L1 ?_;refine uS ?_;rw[hOk];refine uS ?_;refine uW [(7000,1000000),(7001,1000001),(7002,1000002),(14000,1000003),(14001,1000004)] L2 ?_;refine uS ?_;rw[hOk];refine uS ?_;refine qm qc rfl rfl (by refine cat_ok ?_;rw[show(⟨#[98,111,115,115,32,112,111,108,105,99,121,32]⟩:EQ).size=12 from rfl];have:(⟨⟨ownT⟩⟩:EQ).size<=1000:=hsz;omega) rfl ?_;rw[show((⟨#[98,111,115,115,32,112,111,108,105,99,121,32]⟩:EQ)++(⟨⟨ownT⟩⟩:EQ))=bs ow3 from hcat];refine uS ?_;refine uW [(7000,1000000),(7001,1000001),(7002,1000002),(19000,1000003),(19001,1000004)] L3 ?_;refine uS ?_;rw[hOk];refine MG ?_;refine uC (fun hc=>?_) (fun hc=>?_)
 · cases hc
 refine MS ?_;exact uF [(7000,0),(7001,1),(7002,2),(26000,3),(26001,4)]
theorem topOwner_h (l:List EQ) (hl:l.length<=reachBytes):Holds prog 8 [strsP l] (.p (pB true)) []:=by
 have HW:=awake_h;have F0:=topFour_h;have E0:=ox3_iv;have P0:=ow_pol;have HL:=lines_h l 40 EM hl;have hLs:∀q∈wo l 40,q.size<=4096:=fun q hq=>linesB_mem hq
 have hLn:=linesB_len l 40;generalize wo l 40=L at*;generalize ox3=X0 at*;have lL:(L.map fun s=>[pS s]).length=L.length:=Yb _;refine Ve ?_;show HoldsW _ _ [.p (strsP l)] [] _ _;refine qC (ts:=[2]) func8 EF rfl rfl rfl ?_;refine MI ?_;refine uW [] F0 ?_;refine MG ?_;refine uZ [0,3] [(16000,16000),(16001,16001),(16002,16002),(16003,16003),(16004,16004)] ?_;change SW _ _ _ ⟨99,[(0,.p (strsP l)),(3,.ptr 16000 0)],engG X0 16000 16001 16002 16003 16004⟩;refine uR ?_;refine U9 ?_;refine MG ?_;refine uC (fun hc=>?_) (fun hc=>?_)
 · cases hc
 refine MN ?_;refine uO HL ?_;refine MG ?_;rw[lL];refine uB ?_;refine uZ [3,19,20,21] [(16000,16000),(16001,16001),(16002,16002),(16003,16003),(16004,16004)] ?_;refine qI (fun m s=>∃(k:Nat) (X:Eng),k<=L.length/\m=L.length-k/\X.Iv (k+3)/\X.sto.pol=polO/\s=⟨99,[(3,.ptr 16000 0),(19,.p (strsP L)),(20,.p (pI (L.length:Int))),(21,.p (pI (k:Int)))],engG X 16000 16001 16002 16003 16004⟩) L.length ⟨0,X0,Yl _,rfl,E0,P0,rfl⟩ ?_;clear E0 F0 P0
 rintro m s ⟨k,X,hk,rfl,hX,hXp,rfl⟩;refine uA ?_;by_cases hlt:k<L.length;rotate_left
 · rw[show decide ((k:Int)<(L.length:Int))=false by rw[Yk];omega];refine uC (fun hc=>?_) (fun hc=>?_)
   · cases hc
   refine qF ?_;refine uR ?_;refine uK HW ?_;exact KZ
 rw[show decide ((k:Int)<(L.length:Int))=true by rw[Yh];omega];refine uC (fun hc=>?_) (fun hc=>?_);rotate_left
 · cases hc
 refine qh ?_;refine uB ?_;obtain⟨q,hq⟩:∃q,q=L[k]:=⟨_,rfl⟩;have hqs:q.size<=4096:=by rw[hq];exact hLs _ (Yp hlt)
 have LX:=lineS_h X (hX.in_.ok EM) q hqs;have hX':(jq X q.data.toList).1.Iv (k+1+3):=by rw[show k+1+3=k+3+1 by omega];exact hX.line hqs
 obtain⟨hp2,hv2,OL⟩:=own_law hX hXp (q:=q.data.toList) hqs;have HP:=parseQ_h q hqs;have HSt:=store_h (jq X q.data.toList).1;have hg:=hX.in_.sto;have hg':=hX'.in_.sto;have HCs:=fun id=>case_h (jq X q.data.toList).1.sto hg'.sm.ok id
 have hcm:=fun id d h=>(caseC_mem (l:=(jq X q.data.toList).1.sto.cases) (id:=id) (c:=d) h).1
 generalize jq X q.data.toList=D at*;generalize lineW q.data.toList=O at*;have lC:(X.sto.cases.map Cas.pv).length=X.sto.cases.length:=Yb _;have hc64:=hg.g0.cases;refine uR ?_;refine qm qc rfl rfl (by rw[lL];omega) rfl ?_;rw[qH hlt,<-hq];refine ML ?_;refine uW [(16000,1000000),(16001,1000001),(16002,1000002),(16003,1000003),(16004,1000004)] (store_h X) ?_;refine MG ?_;refine uZ [3,5,6,19,20,21] [(6,6),(16000,16000),(16001,16001),(16002,16002),(16003,16003),(16004,16004)] ?_;change SW _ _ _ ⟨99,[(3,.ptr 16000 0),(5,.p (pS q)),(6,.ptr 6 0),(19,.p (strsP L)),(20,.p (pI (L.length:Int))),(21,.p (pI (k:Int)))],(6,.cells (X.sto.pv.map .p))::engG X 16000 16001 16002 16003 16004⟩;refine uR ?_;refine uW [(16000,1000000),(16001,1000001),(16002,1000002),(16003,1000003),(16004,1000004)] LX ?_;refine MG ?_;refine uZ [3,5,6,7,19,20,21] [(6,6),(16000,16000),(16001,16001),(16002,16002),(30000,16003),(30001,16004)] ?_;change SW _ _ _ ⟨99,[(3,.ptr 16000 0),(5,.p (pS q)),(6,.ptr 6 0),(7,.p (pS D.2)),(19,.p (strsP L)),(20,.p (pI (L.length:Int))),(21,.p (pI (k:Int)))],(6,.cells (X.sto.pv.map .p))::engG D.1 16000 16001 16002 16003 16004⟩;refine uR ?_;refine uW [(16000,1000000),(16001,1000001),(16002,1000002),(16003,1000003),(16004,1000004)] HSt ?_;refine ML ?_;refine uK HP ?_;refine MG ?_;refine uZ [3,6,7,8,9,19,20,21] [(6,6),(8,8),(9,9),(16000,16000),(16001,16001),(16002,16002),(16003,16003),(16004,16004)] ?_;change SW _ _ _ ⟨99,[(3,.ptr 16000 0),(6,.ptr 6 0),(7,.p (pS D.2)),(8,.ptr 8 0),(9,.ptr 9 0),(19,.p (strsP L)),(20,.p (pI (L.length:Int))),(21,.p (pI (k:Int)))],(6,.cells (X.sto.pv.map .p))::(8,.cells (D.1.sto.pv.map .p))::(9,.cells ((O.getD noOp).pv.map .p))::engG D.1 16000 16001 16002 16003 16004⟩;refine uR ?_;rw[lC];refine qe ?_;refine uB ?_;refine uZ [3,6,7,8,9,19,20,21,38,39,40] [(6,6),(8,8),(9,9),(16000,16000),(16001,16001),(16002,16002),(16003,16003),(16004,16004)] ?_;refine qI (fun m s=>∃(j:Nat),j<=X.sto.cases.length/\m=X.sto.cases.length-j/\s=⟨99,[(3,.ptr 16000 0),(6,.ptr 6 0),(7,.p (pS D.2)),(8,.ptr 8 0),(9,.ptr 9 0),(19,.p (strsP L)),(20,.p (pI (L.length:Int))),(21,.p (pI (k:Int))),(38,.p (wJ X.sto.cases)),(39,.p (pI (X.sto.cases.length:Int))),(40,.p (pI (j:Int)))],(6,.cells (X.sto.pv.map .p))::(8,.cells (D.1.sto.pv.map .p))::(9,.cells ((O.getD noOp).pv.map .p))::engG D.1 16000 16001 16002 16003 16004⟩) X.sto.cases.length ⟨0,Yl _,rfl,rfl⟩ ?_;rintro m s ⟨j,hj,rfl,rfl⟩;refine uA ?_;by_cases hj2:j<X.sto.cases.length;rotate_left
 · rw[show decide ((j:Int)<(X.sto.cases.length:Int))=false by rw[Yk];omega];refine uC (fun hc=>?_) (fun hc=>?_)
   · cases hc
   refine qF ?_;refine uR ?_;rw[hv2,bne_self_eq_false];refine qe ?_;refine uC (fun hc2=>?_) (fun hc2=>?_)
   · cases hc2
   refine MR ?_;refine⟨_,_,?_,qk [3,19,20,21] [(16000,16000),(16001,16001),(16002,16002),(16003,16003),(16004,16004)] rfl rfl,k+1,D.1,hlt,rfl,hX',hp2,by rw[qu hlt EM];rfl⟩;omega
 rw[show decide ((j:Int)<(X.sto.cases.length:Int))=true by rw[Yh];omega];refine uC (fun hc=>?_) (fun hc=>?_);rotate_left
 · cases hc
 refine qh ?_;refine uB ?_;obtain⟨c,hc2⟩:∃c,c=X.sto.cases[j]:=⟨_,rfl⟩;have hcM:c∈X.sto.cases:=by rw[hc2];exact Yp hj2
 obtain⟨d,hd,hdo,hlaw⟩:=OL c hcM;have HC1:=HCs c.id;rw[hd]at HC1;have hdM:=hcm _ _ hd;have HF:=twoFld_h c.fields d.fields (by have:=(hg.g0.each c hcM).nf;omega) (by have:=(hg'.g0.each d hdM).nf;omega);refine uR ?_;refine qm qc rfl rfl (by rw[lC];omega) rfl ?_;rw[qH hj2,<-hc2];refine ML ?_;refine uO HC1 ?_;refine MG ?_;refine uZ [3,6,7,8,9,12,13,14,19,20,21,38,39,40] [(6,6),(8,8),(9,9),(12,12),(13,13),(16000,16000),(16001,16001),(16002,16002),(16003,16003),(16004,16004)] ?_;change SW _ _ _ ⟨99,[(3,.ptr 16000 0),(6,.ptr 6 0),(7,.p (pS D.2)),(8,.ptr 8 0),(9,.ptr 9 0),(12,.ptr 12 0),(13,.ptr 13 0),(14,.p (pB true)),(19,.p (strsP L)),(20,.p (pI (L.length:Int))),(21,.p (pI (k:Int))),(38,.p (wJ X.sto.cases)),(39,.p (pI (X.sto.cases.length:Int))),(40,.p (pI (j:Int)))],(6,.cells (X.sto.pv.map .p))::(8,.cells (D.1.sto.pv.map .p))::(9,.cells ((O.getD noOp).pv.map .p))::(12,.cells (c.pv.map .p))::(13,.cells (d.pv.map .p))::engG D.1 16000 16001 16002 16003 16004⟩;refine uR ?_;rw[show(d.owner.toList==c.owner.toList)=true by rw[beqB];exact YC hdo];refine uS ?_;refine uK HF ?_;refine uS ?_;cases hb:eqB c.fields d.fields with
 |true=>
  refine MG ?_;refine uC (fun hc3=>?_) (fun hc3=>?_)
  · cases hc3
  refine MR ?_;refine Vo ?_;omega
 |false=>
  refine uS ?_;by_cases hgl:D.2=qay
  · rw[show(D.2.toList==(⟨#[103,108,97,115,115]⟩:EQ).toList)=true by rw[beqB];exact YC hgl];refine MG ?_;refine uC (fun hc3=>?_) (fun hc3=>?_)
    · cases hc3
    refine MR ?_;refine Vo ?_;omega
  rw[show(D.2.toList==(⟨#[103,108,97,115,115]⟩:EQ).toList)=false by rw[beqB];exact YE hgl];refine uS ?_;obtain⟨o,hO,k3,hsub,hcas⟩:∃o,O=some o/\o.kind=3/\o.subj=c.owner/\o.case_=c.id:=by
   rcases hlaw with h|h|h
   · rw[eqB_true h.symm]at hb;cases hb
   · exact absurd h hgl
   · exact h
  subst hO;rw[show((some o).getD noOp).kind=o.kind from rfl,show(o.kind !=3)=false by simp[k3]];refine uS ?_;rw[show((some o).getD noOp).subj=o.subj from rfl,show(o.subj.toList==c.owner.toList)=true by rw[beqB];exact YC hsub];refine uS ?_;rw[show((some o).getD noOp).case_=o.case_ from rfl,show(o.case_.toList==c.id.toList)=true by rw[beqB];exact YC hcas];refine MG ?_;refine uC (fun hc3=>?_) (fun hc3=>?_)
  · cases hc3
  refine MR ?_;refine Vo ?_;omega
theorem opens_strs:Opens prog 22 1 (rSl rStr 1):=opens_sl underlying22 EF Ep EM opens_tstr
theorem str_pv {w:World} {cs:List Value} {x:EQ} (h:rStr w cs x):rPV (fun _=>True) w cs [pS x]:=by
 obtain⟨rfl,_⟩:=h;refine⟨rfl,fun j s u hs hu=>?_⟩
 match j with
 |0=>cases hs;cases hu;exact .v rfl
 |j+1=>simp at hs
theorem strs_rel {w:World} {A:Option Addr} {c:Nat} {l:List EQ} (h:SlAt rStr 1 w A l) (hl:l.length<=c) (hc:l.length<=reachBytes/\c<=maxLen):RelP (fun _=>True) w (strsP l) (.slice A l.length c):=
 rel_sl h hl hc (fun _=>⟨rfl,rfl⟩) fun x _ cs hcs=>str_pv hcs
inductive RelsP (w:World):List PV->List Value->Prop
 |nil:RelsP w [] []
 |cons {x:PV} {u:Value} {xs:List PV} {us:List Value} (h:RelP (fun _=>True) w x u) (r:RelsP w xs us):RelsP w (x::xs) (u::us)
theorem RelsP.get {w:World} {xs:List PV} {us:List Value} (h:RelsP w xs us):us.length=xs.length/\∀(i:Nat) (s:PV) (u:Value),xs[i]?=some s->us[i]?=some u->RelP (fun _=>True) w s u:=by
 induction h with
 |nil=>exact⟨rfl,fun i s u h=>by simp at h⟩
 |cons h r ih=>
  refine⟨by simp[ih.1],fun i s u hs hu=>?_⟩;cases i with
  |zero=>simp at hs hu;subst hs;subst hu;exact h
  |succ i=>exact ih.2 i s u (by simpa using hs) Ej
theorem law_callsG {P:Program} {f:FuncId} {args:List PV} {us:List Value} {W:World} (hg:GlOk (entry W) fun _=>False) (H:Holds P f args (.p (.v (.bool true))) []) (hr:RelsP W args us):Calls P f us.toArray W fun e w'=>e=.returned (.bool true)/\Below W.heap.size W w':=by
 obtain⟨h1,h2⟩:=hr.get;refine(H.2 W (fun _=>False) us ⟨fun _ h=>h.elim,hg⟩ h1 fun i s u hs hu=>(h2 i s u hs hu).weak fun _ _ _=>fun h=>h).mono fun e w' ⟨v,γ,he,hb,_,hv⟩=>?_
 have:=hv.v_inv;subst this;exact⟨he,hb⟩
end
section
open Go.ChangeShapes Go.WideShapes Go.ChangeAt Go.RowKit
theorem law_liftL {H:Type} {enc:TypeId×Value->H} {C:Checked} {os:Os} {f:FuncId} {fn:Func} {s:ChangeSpec} {bt:TypeId} {laid:List (String×DataW Unit)}
 (own:ownKnob C.prog.godebug=none) (started:os.Started) (noInit:C.prog.inits.idxOf? f=none) (hfn:C.prog.funcs[f]?=some fn)
 (witness:∃(w:World) (tape:Tape) (i:Input),w.os=os/\(w.forCall tape i).Shaped C.prog/\i.vars=[]/\Input.okWide C.prog (w.forCall tape i) .any w.heap.size f i/\
  ((s.pre enc C.prog fn [] false (w.forCall tape i).memory i.args/\laidMetH C.prog laid (w.forCall tape i).memory)/\sizedMet enc C.prog fn (OpenSpec.ofChange s) false (w.forCall tape i).memory i.args)/\({}:Assume).holds C.prog (lone (Frame.enter C.prog f i.args .normal) [] (w.forCall tape i)))
 (hl:laidOutB C.prog=true) (hts:∀t∈fn.params.toList,C.prog.readableRec t=true/\t<C.prog.types.size) (hvars:s.vars=[]) (hvt:s.plain.varTypes C.prog=[])
 (hspec:∀(W:World) (args:Array Value) (ds:List (DataW H)) (ps:List MemPlace),DataW.TrodAll enc C.prog W 0 (fun _=>true) true fn.params.toList args.toList ds ps->s.fn H ds={results:=[.lit (.bool true)],args:=ds})
 (hres:fn.resultTypes=#[bt]) (hbt:C.prog.underlying bt=some .bool)
 (walk:∀(W:World) (base:Nat) (args:Array Value) (ds:List (DataW H)) (ps:List MemPlace),laidMetH C.prog laid W->
  (∀(j:Nat) t v,fn.params[j]?=some t->args[j]?=some v->Value.okWide C.prog W .any base t v)->
  DataW.TrodAll enc C.prog W 0 (fun _=>true) true fn.params.toList args.toList ds ps->
  (∀n∈DataW.weightsEach C.prog fn.params.toList ds,n<=reachBytes)->
  Calls C.prog f args W fun e W'=>e=.returned (.bool true)/\Below W.heap.size W W'):
 ReturnsInHanded {} C os f .any (fun w args=>(s.pre enc C.prog fn [] false w args/\laidMetH C.prog laid w)/\sizedMet enc C.prog fn (OpenSpec.ofChange s) false w args) (s.post enc C.prog fn false true false false):=by
 refine returnsInHanded_of_change_and (X:=fun w _=>laidMetH C.prog laid w) (fun _ _ _ hh h=>h.of_heap hh) own started noInit hfn witness ?_;intro W base args ds gs before hval hW _ hsz hL _;have hlt:∀p∈before,p.block<W.heap.size:=fun p hp=>hW.lt p hp
 have hW0:=hW;obtain⟨p,q,hA,hV,rfl,hz,hn⟩:=hW0;rw[hvars]at hV;obtain⟨rfl,rfl⟩:=trodVars_none hV;have hsp:=hspec W args ds p hA;refine(walk W base args ds p hL hval hA ?_).mono fun e W' ⟨he,hb⟩=>?_
 · intro n hn;rw[hvt,Xa,Xa]at hsz;exact Y0 (YF.1 hsz n hn)
 · subst he;refine⟨_,rfl,ds,[],p++[],[],p,[],hW,?_,?_,?_,World.keptBut_mono (fun x hx=>⟨hx,Or.inr (Or.inl Em)⟩) (hb.frame (·∈p++[])),fun h=>by cases h⟩
   · rw[Xa,hsp,hres];exact trodAll_mk1 (shut_bool hbt _)
   · rw[Xa,hsp];exact trodAll_below hl hb hts (fun x hx=>hlt x Em) (fun x hx=>by simpa using hlt x Em) hA
   · rw[Xa,hsp,hvars];rfl
theorem jV {P:Program} {x:String×DataW Unit} {l:List (String×DataW Unit)} {W:World} (h:laidMet P (x::l) W):laidMet P l W:=by
 obtain⟨ps,⟨g,t,cs,fuel,p,q,h1,h2,h3,h4,h5,h6⟩,hn,hb⟩:=h;subst h6;exact⟨q,h5,(List.nodup_append.1 hn).2.1,fun b off hm=>hb b off (List.mem_append_right _ hm)⟩
theorem block_of_tab {P:Program} {W:World} {name:String} {k:IntKind} {zs:List Int} {g:Nat} (h:Lib.TabIs P W name k zs) (hg:P.globalNamed name=some g) {us:List Value} (hu:us=zs.map fun z=>Value.int k z):g<W.heap.size/\∃ty m,W.heap[g]?=some (.cells us.toArray ty m):=by
 unfold Lib.TabIs World.var? at h;rw[hg]at h;simp only[Option.bind_some]at h;split at h
 · rename_i cs ty m hb;cases h;exact⟨(Array.getElem?_eq_some_iff.1 hb).1,ty,m,by rw[hb,hu]⟩
 · cases h
theorem err_of_reads {P:Program} {W:World} {name nm:String} {g t:Nat} {ms:Array (String×TypeId)} {d:DataW Unit} (hg:P.globalNamed name=some g) (ht:(P.globals[g]?).map (·.type)=some t) (hu:P.underlying t=some (.interface ms)) (h:Lib.VarReads P W name (.iface nm d)):
 g<W.heap.size/\∃ev ty m,W.heap[g]?=some (.cells #[ev] ty m)/\errV ev=true:=by
 obtain⟨g',t',cs,fuel,p,h1,h2,h3,h4⟩:=h;rw[hg]at h1;cases h1;rw[ht]at h2;cases h2;have hc:∃u v,cs.toList=[.iface u v]:=by
  cases fuel with
  |zero=>cases h4
  |succ fuel=>
   unfold DataW.trod at h4;rw[hu]at h4;generalize cs.toList=l at h4
   match l,h4 with
   |[.iface u v],_=>exact⟨u,v,rfl⟩
   |[.nilIface],h4=>simp at h4
   |[],h4=>simp at h4
   |_::_::_,h4=>simp at h4
 obtain⟨u,v,hc⟩:=hc;have hc':cs=#[.iface u v]:=Xw.1 hc;subst hc';unfold World.var? at h3;rw[hg]at h3;simp only[Option.bind_some]at h3;split at h3
 · rename_i cs ty m hb;cases h3;exact⟨(Array.getElem?_eq_some_iff.1 hb).1,_,ty,m,hb,rfl⟩
 · cases h3
end
section
open Go.RowKit
theorem own_none:ownKnob prog.godebug=none:=by kernel_rfl
theorem gl_of_laid {rest:List (String×DataW Unit)} {W:World} (h:laidMet prog (("math/bits.deBruijn32tab",Rows.laid_math_bits_deBruijn32tab)::("math/bits.deBruijn64tab",Rows.laid_math_bits_deBruijn64tab)::("internal/strconv.uint64pow10",Rows.laid_internal_strconv_uint64pow10)::("strconv.ErrRange",Rows.laid_strconv_ErrRange)::rest) W):GlOk (entry W) fun _=>False:=by
 have b0:=block_of_tab (g:=4) (us:=[.int .u8 0,.int .u8 1,.int .u8 28,.int .u8 2,.int .u8 29,.int .u8 14,.int .u8 24,.int .u8 3,.int .u8 30,.int .u8 22,.int .u8 20,.int .u8 15,.int .u8 25,.int .u8 17,.int .u8 4,.int .u8 8,.int .u8 31,.int .u8 27,.int .u8 13,.int .u8 23,.int .u8 21,.int .u8 19,.int .u8 16,.int .u8 7,.int .u8 26,.int .u8 12,.int .u8 18,.int .u8 6,.int .u8 11,.int .u8 5,.int .u8 10,.int .u8 9]) (Lib.tabIs_of_head (k:=.u8) (zs:=[0,1,28,2,29,14,24,3,30,22,20,15,25,17,4,8,31,27,13,23,21,19,16,7,26,12,18,6,11,5,10,9]) (g:=4) (t:=407) (e:=5) (n:=32) EF EF underlying407 underlying5 EF EF h) EF rfl;have b1:=block_of_tab (g:=5) (us:=[.int .u8 0,.int .u8 1,.int .u8 56,.int .u8 2,.int .u8 57,.int .u8 49,.int .u8 28,.int .u8 3,.int .u8 61,.int .u8 58,.int .u8 42,.int .u8 50,.int .u8 38,.int .u8 29,.int .u8 17,.int .u8 4,.int .u8 62,.int .u8 47,.int .u8 59,.int .u8 36,.int .u8 45,.int .u8 43,.int .u8 51,.int .u8 22,.int .u8 53,.int .u8 39,.int .u8 33,.int .u8 30,.int .u8 24,.int .u8 18,.int .u8 12,.int .u8 5,.int .u8 63,.int .u8 55,.int .u8 48,.int .u8 27,.int .u8 60,.int .u8 41,.int .u8 37,.int .u8 16,.int .u8 46,.int .u8 35,.int .u8 44,.int .u8 21,.int .u8 52,.int .u8 32,.int .u8 23,.int .u8 11,.int .u8 54,.int .u8 26,.int .u8 40,.int .u8 15,.int .u8 34,.int .u8 20,.int .u8 31,.int .u8 10,.int .u8 25,.int .u8 14,.int .u8 19,.int .u8 9,.int .u8 13,.int .u8 8,.int .u8 7,.int .u8 6]) (Lib.tabIs_of_head (k:=.u8) (zs:=[0,1,56,2,57,49,28,3,61,58,42,50,38,29,17,4,62,47,59,36,45,43,51,22,53,39,33,30,24,18,12,5,63,55,48,27,60,41,37,16,46,35,44,21,52,32,23,11,54,26,40,15,34,20,31,10,25,14,19,9,13,8,7,6]) (g:=5) (t:=408) (e:=5) (n:=64) EF EF underlying408 underlying5 EF EF (jV h)) EF rfl;have b2:=block_of_tab (g:=3) (us:=[.int .u64 1,.int .u64 10,.int .u64 100,.int .u64 1000,.int .u64 10000,.int .u64 100000,.int .u64 1000000,.int .u64 10000000,.int .u64 100000000,.int .u64 1000000000,.int .u64 10000000000,.int .u64 100000000000,.int .u64 1000000000000,.int .u64 10000000000000,.int .u64 100000000000000,.int .u64 1000000000000000,.int .u64 10000000000000000,.int .u64 100000000000000000,.int .u64 1000000000000000000,.int .u64 10000000000000000000]) (Lib.tabIs_of_head (k:=.u64) (zs:=[1,10,100,1000,10000,100000,1000000,10000000,100000000,1000000000,10000000000,100000000000,1000000000000,10000000000000,100000000000000,1000000000000000,10000000000000000,100000000000000000,1000000000000000000,10000000000000000000]) (g:=3) (t:=371) (e:=97) (n:=20) EF EF underlying371 underlying97 EF EF (jV (jV h))) EF rfl;have bE:=err_of_reads (g:=2) (t:=184) EF EF underlying184 (Lib.laidMet.reads (jV (jV (jV h))) (List.mem_cons_self ..));refine⟨?_,fun g hg=>?_⟩;rotate_left
 · have e:g=2:=by simpa [ETab]using hg
   subst e;exact⟨bE.1,fun h=>h,bE.2⟩
 intro g us hg;simp only[GTab,qK]at hg
 repeat' split at hg
 all_goals first|cases hg;done|skip
 all_goals(subst_vars;cases hg)
 all_goals first|exact⟨b0.1,fun h=>h,b0.2⟩|exact⟨b1.1,fun h=>h,b1.2⟩|exact⟨b2.1,fun h=>h,b2.2⟩
noncomputable def lowB:Nat:=(World.holding prog default ⟨#[],#[],[]⟩).heap.size
noncomputable def worldB (os:Os):World:=
 let w0:=World.holding prog os ⟨#[.cells #[.string ⟨#[118,97,108,117,101,32,111,117,116,32,111,102,32,114,97,110,103,101]⟩] 382,.cells #[.string ⟨#[105,110,118,97,108,105,100,32,115,121,110,116,97,120]⟩] 382],#[],[]⟩
 {w0 with heap:=((((((((((w0.heap).modify 4 fun| .cells _ t frozen=>.cells #[.int .u8 0,.int .u8 1,.int .u8 28,.int .u8 2,.int .u8 29,.int .u8 14,.int .u8 24,.int .u8 3,.int .u8 30,.int .u8 22,.int .u8 20,.int .u8 15,.int .u8 25,.int .u8 17,.int .u8 4,.int .u8 8,.int .u8 31,.int .u8 27,.int .u8 13,.int .u8 23,.int .u8 21,.int .u8 19,.int .u8 16,.int .u8 7,.int .u8 26,.int .u8 12,.int .u8 18,.int .u8 6,.int .u8 11,.int .u8 5,.int .u8 10,.int .u8 9] t frozen|o=>o)).modify 5 fun| .cells _ t frozen=>.cells #[.int .u8 0,.int .u8 1,.int .u8 56,.int .u8 2,.int .u8 57,.int .u8 49,.int .u8 28,.int .u8 3,.int .u8 61,.int .u8 58,.int .u8 42,.int .u8 50,.int .u8 38,.int .u8 29,.int .u8 17,.int .u8 4,.int .u8 62,.int .u8 47,.int .u8 59,.int .u8 36,.int .u8 45,.int .u8 43,.int .u8 51,.int .u8 22,.int .u8 53,.int .u8 39,.int .u8 33,.int .u8 30,.int .u8 24,.int .u8 18,.int .u8 12,.int .u8 5,.int .u8 63,.int .u8 55,.int .u8 48,.int .u8 27,.int .u8 60,.int .u8 41,.int .u8 37,.int .u8 16,.int .u8 46,.int .u8 35,.int .u8 44,.int .u8 21,.int .u8 52,.int .u8 32,.int .u8 23,.int .u8 11,.int .u8 54,.int .u8 26,.int .u8 40,.int .u8 15,.int .u8 34,.int .u8 20,.int .u8 31,.int .u8 10,.int .u8 25,.int .u8 14,.int .u8 19,.int .u8 9,.int .u8 13,.int .u8 8,.int .u8 7,.int .u8 6] t frozen|o=>o)).modify 3 fun| .cells _ t frozen=>.cells #[.int .u64 1,.int .u64 10,.int .u64 100,.int .u64 1000,.int .u64 10000,.int .u64 100000,.int .u64 1000000,.int .u64 10000000,.int .u64 100000000,.int .u64 1000000000,.int .u64 10000000000,.int .u64 100000000000,.int .u64 1000000000000,.int .u64 10000000000000,.int .u64 100000000000000,.int .u64 1000000000000000,.int .u64 10000000000000000,.int .u64 100000000000000000,.int .u64 1000000000000000000,.int .u64 10000000000000000000] t frozen|o=>o)).modify 2 fun| .cells _ t frozen=>.cells #[.iface 380 (.pointer (some ⟨lowB+0,0,none⟩))] t frozen|o=>o)).modify 1 fun| .cells _ t frozen=>.cells #[.iface 380 (.pointer (some ⟨lowB+1,0,none⟩))] t frozen|o=>o)}
theorem worldB_met (os:Os) (args:Array Value):laidMet prog [("math/bits.deBruijn32tab",Rows.laid_math_bits_deBruijn32tab),("math/bits.deBruijn64tab",Rows.laid_math_bits_deBruijn64tab),("internal/strconv.uint64pow10",Rows.laid_internal_strconv_uint64pow10),("strconv.ErrRange",Rows.laid_strconv_ErrRange),("strconv.ErrSyntax",Rows.laid_strconv_ErrSyntax)] ((worldB os).forCall (fun _ _=>0) ⟨#[],args,[]⟩).memory:=
 laidMet_of_run' 100 EF EF
end
end Go.Proofs.YtblgnefkgkchhaaGreatDoor
