/- Part 9. -/
import Derived.Test.YtblgnefkgkchhaaGreatDoorRows
import Derived.Lib.LaidTab
import Derived.Lib.LaidU8
import Derived.LaidLaws
import Derived.LaidHandle
import Derived.Stop.Joined
import Derived.ChangeSame
import Derived.ChangeVars
import Derived.JoinedOf
import Derived.RowKitTokens
import Derived.Test.YtblgnefkgkchhaaGreatDoorPk8
set_option maxHeartbeats 4000000
set_option linter.unusedSimpArgs false
set_option linter.unusedVariables false
namespace Go.Proofs.YtblgnefkgkchhaaGreatDoor
open _root_.Go.Proofs.Tryz
section
open Go.RowKit
theorem newS_gd:newS.Gd:=⟨⟨⟨Int.le_refl 0,show(0:Int)<=1099511627776 by decide⟩,List.Pairwise.nil,Nat.zero_le _,fun c hc=>(nomatch hc),Nat.zero_le _,fun r hr=>(nomatch hr),parse_pol,by have:=parse_size leastB;show(zk leastB).1.sz<=_;omega⟩,Nat.zero_le _,Nat.zero_le _,fun c hc=>(nomatch hc)⟩
theorem newE_in {n:Int} (hn:0<=n/\n<=4000000):(newE n).In 0:=⟨newS_gd,Nat.le_refl _,Nat.le_refl _,by show(0:Nat)<_;omega,hn.1,hn⟩
theorem ax0_in:ax0.In 0:=newE_in DO
theorem ax1_in:ax1.In 1:=in_line ax0_in DO
theorem ax2_in:ax2.In 2:=in_line ax1_in DO
theorem ax3_in:ax3.In 3:=in_line ax2_in DO
theorem ax4_in:ax4.In 4:=in_line ax3_in DO
def wDD:DT:=⟨#[100,101,110,105,101,100,32,68,101,110,121]⟩
def wO7:DT:=⟨#[111,107,32,55]⟩
theorem al1:HoldsW prog 16 [.ptr 1000000 0,.p (pL aw1)] (engO ax0 1000003 1000004) (.p (pS wOk)) (engO ax1 0 1):=by
 have h:=line_h ax0 (ax0_in.ok DO) aw1 DO;rw[aw_1]at h;exact h
theorem al2:HoldsW prog 16 [.ptr 1000000 0,.p (pL aw2)] (engO ax1 1000003 1000004) (.p (pS wOk)) (engO ax2 0 1):=by
 have h:=line_h ax1 (ax1_in.ok DO) aw2 DO;rw[aw_2]at h;exact h
theorem al3:HoldsW prog 16 [.ptr 1000000 0,.p (pL aw3)] (engO ax2 1000003 1000004) (.p (pS wOk)) (engO ax3 0 1):=by
 have h:=line_h ax2 (ax2_in.ok DO) aw3 DO;rw[aw_3]at h;exact h
theorem al4:HoldsW prog 16 [.ptr 1000000 0,.p (pL aw4)] (engO ax3 1000003 1000004) (.p (pS wDD)) (engO ax4 0 1):=by
 have h:=line_h ax3 (ax3_in.ok DO) aw4 DO;rw[aw_4]at h;exact h
theorem al5:HoldsW prog 16 [.ptr 1000000 0,.p (pL aw5)] (engO ax4 1000003 1000004) (.p (pS wO7)) (engO (zy ax4 aw5).1 0 1):=by
 have h:=line_h ax4 (ax4_in.ok DO) aw5 DO;rw[aw_5]at h;exact h
theorem awake_h:Holds prog 23 [] (.p (pB true)) []:=by
 have L1:=al1;have L2:=al2;have L3:=al3;have L4:=al4;have L5:=al5;have F0:HoldsW prog 13 [.p (pI 4000)] [] (.tup [.ptr 0 0,.ptr 2 0]) (engG ax0 0 1 2 3 4):=fresh_h 4000 DO;generalize ax0=x0 at*;generalize ax1=x1 at*;generalize ax2=x2 at*;generalize ax3=x3 at*;generalize ax4=x4 at*;generalize (zy x4 aw5).1=x5 at*;refine Vd ?_;show HoldsW _ _ [] [] _ _;refine qE (ts:=[0]) func23 DG rfl rfl rfl ?_;refine Kq ?_;refine uW [] F0 ?_;refine Kt ?_;refine V4 ?_;refine Ko ?_;refine uC (fun hc=>?_) (fun hc=>?_)
 · cases hc
 refine qh ?_;refine uZ [1] [(9000,9000),(9001,9001),(9002,9002),(9003,9003),(9004,9004)] ?_;change SW _ _ _ ⟨40,[(1,.ptr 9000 0)],engG x0 9000 9001 9002 9003 9004⟩;refine uR ?_;refine uW [(9000,1000000),(9001,1000001),(9002,1000002),(9003,1000003),(9004,1000004)] L1 ?_;refine uS ?_;refine uW [(9000,1000000),(9001,1000001),(9002,1000002),(15000,1000003),(15001,1000004)] L2 ?_;refine Ko ?_;refine uZ [1,3,4] [(9000,9000),(9001,9001),(9002,9002),(17000,9003),(17001,9004)] ?_;change SW _ _ _ ⟨40,[(1,.ptr 9000 0),(3,.p (pS wOk)),(4,.p (pS wOk))],engG x2 9000 9001 9002 9003 9004⟩;refine uR ?_;refine uW [(9000,1000000),(9001,1000001),(9002,1000002),(9003,1000003),(9004,1000004)] L3 ?_;refine uS ?_;refine uW [(9000,1000000),(9001,1000001),(9002,1000002),(19000,1000003),(19001,1000004)] L4 ?_;refine Ko ?_;refine uZ [1,3,4,5,6] [(9000,9000),(9001,9001),(9002,9002),(21000,9003),(21001,9004)] ?_;change SW _ _ _ ⟨40,[(1,.ptr 9000 0),(3,.p (pS wOk)),(4,.p (pS wOk)),(5,.p (pS wOk)),(6,.p (pS wDD))],engG x4 9000 9001 9002 9003 9004⟩;have hOk:(wOk.toList==(⟨#[111,107]⟩:DT).toList)=true:=by rw[beqB];exact Yz rfl
 have hDD:(wDD.toList==(⟨#[100,101,110,105,101,100,32,68,101,110,121]⟩:DT).toList)=true:=by rw[beqB];exact Yz rfl
 have hO7:(wO7.toList==(⟨#[111,107,32,55]⟩:DT).toList)=true:=by rw[beqB];exact Yz rfl
 refine uR ?_;rw[hOk];refine uS ?_;rw[hOk];refine uS ?_;rw[hOk];refine uS ?_;rw[hDD];refine uS ?_;refine uW [(9000,1000000),(9001,1000001),(9002,1000002),(9003,1000003),(9004,1000004)] L5 ?_;refine uS ?_;rw[hO7];exact Lo
theorem lineS_h (x:Eng) (hx:x.Ok) (q:DT) (hq:q.size<=4096):HoldsW prog 16 [.ptr 1000000 0,.p (pS q)] (engO x 1000003 1000004) (.p (pS (zy x q.data.toList).2)) (engO (zy x q.data.toList).1 0 1):=by
 obtain⟨⟨l⟩⟩:=q;exact line_h x hx l hq
theorem cut6_size (s:DT):(cut6 s).size<=600:=by
 unfold cut6;rw[ByteArray.size_extract];omega
theorem qai {l:List DT} {n:Nat} {q:DT} (h:q∈jc l n):q.size<=4096:=by
 unfold jc at h;obtain⟨s,_,rfl⟩:=Y1.1 h;have:=cut6_size s;omega
theorem qaO (l:List DT) (n:Nat):(jc l n).length<=n:=by
 unfold jc;rw[Yb,Yd];omega
theorem qag:Opens prog 22 1 (rSl rStr 1):=opens_sl underlying22 DG Do DP opens_tstr
theorem str_pv {w:World} {cs:List Value} {x:DT} (h:rStr w cs x):rPV (fun _=>True) w cs [pS x]:=by
 obtain⟨rfl,_⟩:=h;refine⟨rfl,fun j s u hs hu=>?_⟩
 match j with
 |0=>cases hs;cases hu;exact .v rfl
 |j+1=>simp at hs
theorem strs_rel {w:World} {A:Option Addr} {c:Nat} {l:List DT} (h:SlAt rStr 1 w A l) (hl:l.length<=c) (hc:l.length<=reachBytes/\c<=maxLen):RelP (fun _=>True) w (zF l) (.slice A l.length c):=
 rel_sl h hl hc (fun _=>⟨rfl,rfl⟩) fun x _ cs hcs=>str_pv hcs
inductive RelsP (w:World):List PV->List Value->Prop
 |nil:RelsP w [] []
 |cons {x:PV} {u:Value} {xs:List PV} {us:List Value} (h:RelP (fun _=>True) w x u) (r:RelsP w xs us):RelsP w (x::xs) (u::us)
theorem RelsP.get {w:World} {xs:List PV} {us:List Value} (h:RelsP w xs us):us.length=xs.length/\∀(i:Nat) (s:PV) (u:Value),xs[i]?=some s->us[i]?=some u->RelP (fun _=>True) w s u:=by
 induction h with
 |nil=>exact⟨rfl,fun i s u h=>by simp at h⟩
 |cons h r ih=>
  refine⟨by simp[ih.1],fun i s u hs hu=>?_⟩;cases i with
  |zero=>simp at hs hu;subst hs;subst hu;exact h
  |succ i=>exact ih.2 i s u (by simpa using hs) Dj
theorem qaN {P:Program} {f:FuncId} {args:List PV} {us:List Value} {W:World} (hg:GlOk (entry W) fun _=>False) (H:Holds P f args (.p (.v (.bool true))) []) (hr:RelsP W args us):Calls P f us.toArray W fun e w'=>e=.returned (.bool true)/\Below W.heap.size W w':=by
 obtain⟨h1,h2⟩:=hr.get;refine(H.2 W (fun _=>False) us ⟨fun _ h=>h.elim,hg⟩ h1 fun i s u hs hu=>(h2 i s u hs hu).weak fun _ _ _=>fun h=>h).mono fun e w' ⟨v,γ,he,hb,_,hv⟩=>?_
 have:=hv.v_inv;subst this;exact⟨he,hb⟩
end
section
open Go.ChangeShapes Go.WideShapes Go.ChangeAt Go.RowKit
theorem law_liftL {H:Type} {enc:TypeId×Value->H} {C:Checked} {os:Os} {f:FuncId} {fn:Func} {s:ChangeSpec} {bt:TypeId} {laid:List (String×DataW Unit)}
 (own:ownKnob C.prog.godebug=none) (started:os.Started) (noInit:C.prog.inits.idxOf? f=none) (hfn:C.prog.funcs[f]?=some fn)
 (witness:∃(w:World) (tape:Tape) (i:Input),w.os=os/\(w.forCall tape i).Shaped C.prog/\i.vars=[]/\Input.okWide C.prog (w.forCall tape i) .any w.heap.size f i/\
  ((s.pre enc C.prog fn [] false (w.forCall tape i).memory i.args/\laidMetH C.prog laid (w.forCall tape i).memory)/\sizedMet enc C.prog fn (OpenSpec.ofChange s) false (w.forCall tape i).memory i.args)/\({}:Assume).holds C.prog (lone (Frame.enter C.prog f i.args .normal) [] (w.forCall tape i)))
 (hl:laidOutB C.prog=true) (hts:∀t∈fn.params.toList,C.prog.readableRec t=true/\t<C.prog.types.size) (hvars:s.vars=[]) (hvt:s.plain.varTypes C.prog=[])
 (hspec:∀(W:World) (args:Array Value) (ds:List (DataW H)) (ps:List MemPlace),DataW.TrodAll enc C.prog W 0 (fun _=>true) true fn.params.toList args.toList ds ps->s.fn H ds={results:=[.lit (.bool true)],args:=ds})
 (hres:fn.resultTypes=#[bt]) (hbt:C.prog.underlying bt=some .bool)
 (walk:∀(W:World) (base:Nat) (args:Array Value) (ds:List (DataW H)) (ps:List MemPlace),laidMetH C.prog laid W->
  (∀(j:Nat) t v,fn.params[j]?=some t->args[j]?=some v->Value.okWide C.prog W .any base t v)->
  DataW.TrodAll enc C.prog W 0 (fun _=>true) true fn.params.toList args.toList ds ps->
  (∀n∈DataW.weightsEach C.prog fn.params.toList ds,n<=reachBytes)->
  Calls C.prog f args W fun e W'=>e=.returned (.bool true)/\Below W.heap.size W W'):
 ReturnsInHanded {} C os f .any (fun w args=>(s.pre enc C.prog fn [] false w args/\laidMetH C.prog laid w)/\sizedMet enc C.prog fn (OpenSpec.ofChange s) false w args) (s.post enc C.prog fn false true false false):=by
 refine returnsInHanded_of_change_and (X:=fun w _=>laidMetH C.prog laid w) (fun _ _ _ hh h=>h.of_heap hh) own started noInit hfn witness ?_;intro W base args ds gs before hval hW _ hsz hL _;have hlt:∀p∈before,p.block<W.heap.size:=fun p hp=>hW.lt p hp
 have hW0:=hW;obtain⟨p,q,hA,hV,rfl,hz,hn⟩:=hW0;rw[hvars]at hV;obtain⟨rfl,rfl⟩:=trodVars_none hV;have hsp:=hspec W args ds p hA;refine(walk W base args ds p hL hval hA ?_).mono fun e W' ⟨he,hb⟩=>?_
 · intro n hn;rw[hvt,Y9,Y9]at hsz;exact YM (YE.1 hsz n hn)
 · subst he;refine⟨_,rfl,ds,[],p++[],[],p,[],hW,?_,?_,?_,World.keptBut_mono (fun x hx=>⟨hx,Or.inr (Or.inl Dm)⟩) (hb.frame (·∈p++[])),fun h=>by cases h⟩
   · rw[Y9,hsp,hres];exact trodAll_mk1 (shut_bool hbt _)
   · rw[Y9,hsp];exact trodAll_below hl hb hts (fun x hx=>hlt x Dm) (fun x hx=>by simpa using hlt x Dm) hA
   · rw[Y9,hsp,hvars];rfl
theorem jR {P:Program} {x:String×DataW Unit} {l:List (String×DataW Unit)} {W:World} (h:laidMet P (x::l) W):laidMet P l W:=by
 obtain⟨ps,⟨g,t,cs,fuel,p,q,h1,h2,h3,h4,h5,h6⟩,hn,hb⟩:=h;subst h6;exact⟨q,h5,(List.nodup_append.1 hn).2.1,fun b off hm=>hb b off (List.mem_append_right _ hm)⟩
theorem block_of_tab {P:Program} {W:World} {name:String} {k:IntKind} {zs:List Int} {g:Nat} (h:Lib.TabIs P W name k zs) (hg:P.globalNamed name=some g) {us:List Value} (hu:us=zs.map fun z=>Value.int k z):g<W.heap.size/\∃ty m,W.heap[g]?=some (.cells us.toArray ty m):=by
 unfold Lib.TabIs World.var? at h;rw[hg]at h;simp only[Option.bind_some]at h;split at h
 · rename_i cs ty m hb;cases h;exact⟨(Array.getElem?_eq_some_iff.1 hb).1,ty,m,by rw[hb,hu]⟩
 · cases h
theorem err_of_reads {P:Program} {W:World} {name nm:String} {g t:Nat} {ms:Array (String×TypeId)} {d:DataW Unit} (hg:P.globalNamed name=some g) (ht:(P.globals[g]?).map (·.type)=some t) (hu:P.underlying t=some (.interface ms)) (h:Lib.VarReads P W name (.iface nm d)):
 g<W.heap.size/\∃ev ty m,W.heap[g]?=some (.cells #[ev] ty m)/\errV ev=true:=by
 obtain⟨g',t',cs,fuel,p,h1,h2,h3,h4⟩:=h;rw[hg]at h1;cases h1;rw[ht]at h2;cases h2;have hc:∃u v,cs.toList=[.iface u v]:=by
  cases fuel with
  |zero=>cases h4
  |succ fuel=>
   unfold DataW.trod at h4;rw[hu]at h4;generalize cs.toList=l at h4
   match l,h4 with
   |[.iface u v],_=>exact⟨u,v,rfl⟩
   |[.nilIface],h4=>simp at h4
   |[],h4=>simp at h4
   |_::_::_,h4=>simp at h4
 obtain⟨u,v,hc⟩:=hc;have hc':cs=#[.iface u v]:=Xw.1 hc;subst hc';unfold World.var? at h3;rw[hg]at h3;simp only[Option.bind_some]at h3;split at h3
 · rename_i cs ty m hb;cases h3;exact⟨(Array.getElem?_eq_some_iff.1 hb).1,_,ty,m,hb,rfl⟩
 · cases h3
end
section
open Go.RowKit
theorem own_none:ownKnob prog.godebug=none:=by kernel_rfl
theorem qaP {rest:List (String×DataW Unit)} {W:World} (h:laidMet prog (("math/bits.deBruijn32tab",Rows.laid_math_bits_deBruijn32tab)::("math/bits.deBruijn64tab",Rows.laid_math_bits_deBruijn64tab)::("internal/strconv.uint64pow10",Rows.laid_internal_strconv_uint64pow10)::("strconv.ErrRange",Rows.laid_strconv_ErrRange)::rest) W):GlOk (entry W) fun _=>False:=by
 have b0:=block_of_tab (g:=4) (us:=[.int .u8 0,.int .u8 1,.int .u8 28,.int .u8 2,.int .u8 29,.int .u8 14,.int .u8 24,.int .u8 3,.int .u8 30,.int .u8 22,.int .u8 20,.int .u8 15,.int .u8 25,.int .u8 17,.int .u8 4,.int .u8 8,.int .u8 31,.int .u8 27,.int .u8 13,.int .u8 23,.int .u8 21,.int .u8 19,.int .u8 16,.int .u8 7,.int .u8 26,.int .u8 12,.int .u8 18,.int .u8 6,.int .u8 11,.int .u8 5,.int .u8 10,.int .u8 9]) (Lib.tabIs_of_head (k:=.u8) (zs:=[0,1,28,2,29,14,24,3,30,22,20,15,25,17,4,8,31,27,13,23,21,19,16,7,26,12,18,6,11,5,10,9]) (g:=4) (t:=407) (e:=5) (n:=32) DG DG underlying407 underlying5 DG DG h) DG rfl;have b1:=block_of_tab (g:=5) (us:=[.int .u8 0,.int .u8 1,.int .u8 56,.int .u8 2,.int .u8 57,.int .u8 49,.int .u8 28,.int .u8 3,.int .u8 61,.int .u8 58,.int .u8 42,.int .u8 50,.int .u8 38,.int .u8 29,.int .u8 17,.int .u8 4,.int .u8 62,.int .u8 47,.int .u8 59,.int .u8 36,.int .u8 45,.int .u8 43,.int .u8 51,.int .u8 22,.int .u8 53,.int .u8 39,.int .u8 33,.int .u8 30,.int .u8 24,.int .u8 18,.int .u8 12,.int .u8 5,.int .u8 63,.int .u8 55,.int .u8 48,.int .u8 27,.int .u8 60,.int .u8 41,.int .u8 37,.int .u8 16,.int .u8 46,.int .u8 35,.int .u8 44,.int .u8 21,.int .u8 52,.int .u8 32,.int .u8 23,.int .u8 11,.int .u8 54,.int .u8 26,.int .u8 40,.int .u8 15,.int .u8 34,.int .u8 20,.int .u8 31,.int .u8 10,.int .u8 25,.int .u8 14,.int .u8 19,.int .u8 9,.int .u8 13,.int .u8 8,.int .u8 7,.int .u8 6]) (Lib.tabIs_of_head (k:=.u8) (zs:=[0,1,56,2,57,49,28,3,61,58,42,50,38,29,17,4,62,47,59,36,45,43,51,22,53,39,33,30,24,18,12,5,63,55,48,27,60,41,37,16,46,35,44,21,52,32,23,11,54,26,40,15,34,20,31,10,25,14,19,9,13,8,7,6]) (g:=5) (t:=408) (e:=5) (n:=64) DG DG underlying408 underlying5 DG DG (jR h)) DG rfl;have b2:=block_of_tab (g:=3) (us:=[.int .u64 1,.int .u64 10,.int .u64 100,.int .u64 1000,.int .u64 10000,.int .u64 100000,.int .u64 1000000,.int .u64 10000000,.int .u64 100000000,.int .u64 1000000000,.int .u64 10000000000,.int .u64 100000000000,.int .u64 1000000000000,.int .u64 10000000000000,.int .u64 100000000000000,.int .u64 1000000000000000,.int .u64 10000000000000000,.int .u64 100000000000000000,.int .u64 1000000000000000000,.int .u64 10000000000000000000]) (Lib.tabIs_of_head (k:=.u64) (zs:=[1,10,100,1000,10000,100000,1000000,10000000,100000000,1000000000,10000000000,100000000000,1000000000000,10000000000000,100000000000000,1000000000000000,10000000000000000,100000000000000000,1000000000000000000,10000000000000000000]) (g:=3) (t:=371) (e:=97) (n:=20) DG DG underlying371 underlying97 DG DG (jR (jR h))) DG rfl;have bE:=err_of_reads (g:=2) (t:=184) DG DG underlying184 (Lib.laidMet.reads (jR (jR (jR h))) (List.mem_cons_self ..));refine⟨?_,fun g hg=>?_⟩;rotate_left
 · have e:g=2:=by simpa [ETab]using hg
   subst e;exact⟨bE.1,fun h=>h,bE.2⟩
 intro g us hg;simp only[GTab,qL]at hg
 repeat' split at hg
 all_goals first|cases hg;done|skip
 all_goals(subst_vars;cases hg)
 all_goals first|exact⟨b0.1,fun h=>h,b0.2⟩|exact⟨b1.1,fun h=>h,b1.2⟩|exact⟨b2.1,fun h=>h,b2.2⟩
noncomputable def lowB:Nat:=(World.holding prog default ⟨#[],#[],[]⟩).heap.size
noncomputable def worldB (os:Os):World:=
 let w0:=World.holding prog os ⟨#[.cells #[.string ⟨#[118,97,108,117,101,32,111,117,116,32,111,102,32,114,97,110,103,101]⟩] 382,.cells #[.string ⟨#[105,110,118,97,108,105,100,32,115,121,110,116,97,120]⟩] 382],#[],[]⟩
 {w0 with heap:=((((((((((w0.heap).modify 4 fun| .cells _ t frozen=>.cells #[.int .u8 0,.int .u8 1,.int .u8 28,.int .u8 2,.int .u8 29,.int .u8 14,.int .u8 24,.int .u8 3,.int .u8 30,.int .u8 22,.int .u8 20,.int .u8 15,.int .u8 25,.int .u8 17,.int .u8 4,.int .u8 8,.int .u8 31,.int .u8 27,.int .u8 13,.int .u8 23,.int .u8 21,.int .u8 19,.int .u8 16,.int .u8 7,.int .u8 26,.int .u8 12,.int .u8 18,.int .u8 6,.int .u8 11,.int .u8 5,.int .u8 10,.int .u8 9] t frozen|o=>o)).modify 5 fun| .cells _ t frozen=>.cells #[.int .u8 0,.int .u8 1,.int .u8 56,.int .u8 2,.int .u8 57,.int .u8 49,.int .u8 28,.int .u8 3,.int .u8 61,.int .u8 58,.int .u8 42,.int .u8 50,.int .u8 38,.int .u8 29,.int .u8 17,.int .u8 4,.int .u8 62,.int .u8 47,.int .u8 59,.int .u8 36,.int .u8 45,.int .u8 43,.int .u8 51,.int .u8 22,.int .u8 53,.int .u8 39,.int .u8 33,.int .u8 30,.int .u8 24,.int .u8 18,.int .u8 12,.int .u8 5,.int .u8 63,.int .u8 55,.int .u8 48,.int .u8 27,.int .u8 60,.int .u8 41,.int .u8 37,.int .u8 16,.int .u8 46,.int .u8 35,.int .u8 44,.int .u8 21,.int .u8 52,.int .u8 32,.int .u8 23,.int .u8 11,.int .u8 54,.int .u8 26,.int .u8 40,.int .u8 15,.int .u8 34,.int .u8 20,.int .u8 31,.int .u8 10,.int .u8 25,.int .u8 14,.int .u8 19,.int .u8 9,.int .u8 13,.int .u8 8,.int .u8 7,.int .u8 6] t frozen|o=>o)).modify 3 fun| .cells _ t frozen=>.cells #[.int .u64 1,.int .u64 10,.int .u64 100,.int .u64 1000,.int .u64 10000,.int .u64 100000,.int .u64 1000000,.int .u64 10000000,.int .u64 100000000,.int .u64 1000000000,.int .u64 10000000000,.int .u64 100000000000,.int .u64 1000000000000,.int .u64 10000000000000,.int .u64 100000000000000,.int .u64 1000000000000000,.int .u64 10000000000000000,.int .u64 100000000000000000,.int .u64 1000000000000000000,.int .u64 10000000000000000000] t frozen|o=>o)).modify 2 fun| .cells _ t frozen=>.cells #[.iface 380 (.pointer (some ⟨lowB+0,0,none⟩))] t frozen|o=>o)).modify 1 fun| .cells _ t frozen=>.cells #[.iface 380 (.pointer (some ⟨lowB+1,0,none⟩))] t frozen|o=>o)}
theorem qaS (os:Os) (args:Array Value):laidMet prog [("math/bits.deBruijn32tab",Rows.laid_math_bits_deBruijn32tab),("math/bits.deBruijn64tab",Rows.laid_math_bits_deBruijn64tab),("internal/strconv.uint64pow10",Rows.laid_internal_strconv_uint64pow10),("strconv.ErrRange",Rows.laid_strconv_ErrRange),("strconv.ErrSyntax",Rows.laid_strconv_ErrSyntax)] ((worldB os).forCall (fun _ _=>0) ⟨#[],args,[]⟩).memory:=
 laidMet_of_run' 100 DG DG
end
end Go.Proofs.YtblgnefkgkchhaaGreatDoor
