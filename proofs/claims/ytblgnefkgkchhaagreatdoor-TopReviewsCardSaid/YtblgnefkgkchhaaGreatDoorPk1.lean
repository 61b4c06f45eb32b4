/- Part 1. -/
import Derived.WalkKit
import Derived.ProofKit
import Derived.SizedLaws
import Derived.Deep.Slices
import Derived.Deep.Quiet
import Derived.Deep.QuietTactic
import Derived.Maps.AppendAt
import Derived.OwnWalk
import Derived.BigQuiet
import Derived.StillTail
import Derived.Deep.RegionHeld3
import Derived.MapKept
namespace Go.Proofs.YtblgnefkgkchhaaGreatDoor
abbrev DT:=ByteArray
theorem Ya.{u}:∀{α:Type u} {as bs:List α},(as++bs).length=as.length+bs.length:=@List.length_append
theorem Yb.{u,v}:∀{α:Type u} {β:Type v} {as:List α} (f:α->β),(List.map f as).length=as.length:=@List.length_map
theorem Yc.{u}:∀{c:Prop} {_:Decidable c},¬c->∀{α:Sort u} {t e:α},(if c then t else e)=e:=@if_neg
theorem Yd.{u}:∀{α:Type u} {i:Nat} {l:List α},(List.take i l).length=min i l.length:=@List.length_take
theorem Ye.{u}:∀{α:Type u} (val val_1:α),(some val=some val_1)=(val=val_1):=@Option.some.injEq
theorem Yf:∀{p:Prop} [Decidable p],(decide p=true)=p:=@decide_eq_true_eq
theorem Yg.{u}:∀{α:Type u} {a:α} {as:List α},(a::as).length=as.length+1:=@List.length_cons
theorem Yh:∀{p:Prop} {_:Decidable p},decide p=false↔¬p:=@decide_eq_false_iff_not
theorem Yi.{u}:∀{c:Prop} {_:Decidable c},c->∀{α:Sort u} {t e:α},(if c then t else e)=t:=@if_pos
theorem Yj.{u}:∀{α:Type u} {l:List α} {i:Nat} (h:i<l.length),l[i]?=some l[i]:=@List.getElem?_eq_getElem
theorem Yk:∀(n:Nat),n<=n:=@Nat.le_refl
theorem Yl:∀(n:Nat),0<=n:=@Nat.zero_le
theorem Ym.{u}:∀{α:Type u} {i:Nat} {l:List α} (h:i<l.length),List.take (i+1) l=List.take i l++[l[i]]:=@List.take_succ_eq_append_getElem
theorem Yn.{u}:∀{α:Type u} {l:List α} {n:Nat} (h:n<l.length),l[n]∈l:=@List.getElem_mem
theorem Yo.{u}:∀{α:Type u} {i:Nat} {l:List α},(List.drop i l).length=l.length-i:=@List.length_drop
theorem Yp:∀(a b:Bool),((a&&b)=true)=(a=true/\b=true):=@Bool.and_eq_true
theorem Yq.{u}:∀{α:Type u} {i:Nat} {a:α} {l:List α},l[i]?=some a↔∃h,l[i]=a:=@List.getElem?_eq_some_iff
theorem Yr.{u,v}:∀{α:Type u} {β:Type v} {f:α->β} {l₁ l₂:List α},List.map f (l₁++l₂)=List.map f l₁++List.map f l₂:=@List.map_append
theorem Ys:∀{α β:Type} (a:α) (w:World) (f:α->World->Result β),(Result.ok a w).andThen f=f a w:=@Result.andThen_ok
theorem Yt.{u,v}:∀{α:Type u} {β:Type v} (fst:α) (snd:β) (fst_1:α) (snd_1:β),((fst,snd)=(fst_1,snd_1))=(fst=fst_1/\snd=snd_1):=@Prod.mk.injEq
theorem Yu.{u}:∀{α:Type u} {l:List α},List.take l.length l=l:=@List.take_length
theorem Yv.{u}:∀{α:Type u} {x:Option α},x.isSome=true↔∃a,x=some a:=@Option.isSome_iff_exists
theorem Yw.{u}:∀{α:Type u} {l₁ l₂:List α} {i:Nat},i<l₁.length->(l₁++l₂)[i]?=l₁[i]?:=@List.getElem?_append_left
theorem Yx.{u}:∀{α:Type u} {xs:Array α},xs.toList.length=xs.size:=@Array.length_toList
theorem Yy.{u}:∀{α:Type u} {l₁ l₂:List α} {i:Nat},l₁.length<=i->(l₁++l₂)[i]?=l₂[i-l₁.length]?:=@List.getElem?_append_right
theorem Yz:∀{p:Prop} [Decidable p],p->decide p=true:=@decide_eq_true
theorem YA.{u}:∀{α:Type u} {a b:α},a∈[b]↔a=b:=@List.mem_singleton
theorem YB:∀{p:Prop} [Decidable p],¬p->decide p=false:=@decide_eq_false
theorem YC:(false=true)=False:=@Bool.false_eq_true
theorem YD:∀(n:Int),-9223372036854775808<=n/\n<=9223372036854775807->IntKind.i64.wrap n=n:=@IntWalk.i64_in
theorem YE.{u}:∀{α:Type u} {p:α->Bool} {l:List α},l.all p=true↔∀(x:α),x∈l->p x=true:=@List.all_eq_true
theorem YF.{u}:∀{α:Type u} {a:α},[a].length=1:=@List.length_singleton
theorem YG:∀{α β:Type} (P:Program) (w:World) (x:Sem α) (f:α->Sem β),Sem.run P (x >>=f) w=(Sem.run P x w).andThen fun a w' ↦ Sem.run P (f a) w':=@Sem.run_bind
theorem YH.{u,v}:∀{α:Type u} {β:Type v} {f:α->β} {l:List α} {i:Nat},(List.map f l)[i]?=Option.map f l[i]?:=@List.getElem?_map
theorem YI.{u}:∀{α:Type u} {l:List α} {i:Nat} {a:α},l[i]?=some a->a∈l:=@List.mem_of_getElem?
theorem YJ:∀{m n:Nat},m<n↔m+1<=n:=@Nat.lt_iff_add_one_le
theorem YK:∀{n m:Nat},n.beq m=true->n=m:=@Nat.eq_of_beq_eq_true
theorem YL.{u}:∀{α:Type u} {a:α} {s t:List α},a∈s++t↔a∈s\/a∈t:=@List.mem_append
theorem YM:∀{p:Prop} [Decidable p],decide p=true->p:=@of_decide_eq_true
theorem YN.{u}:∀{α:Type u} {i:Nat} {l:List α},l.length<=i->List.take i l=l:=@List.take_of_length_le
theorem YO:∀{a b:Bool},a=b↔(a=true↔b=true):=@Bool.eq_iff_iff
theorem YP.{u,v}:∀{α:Type u} {b:α} {α_1:Type v} {x:Option α_1} {f:α_1->α},Option.map f x=some b↔∃a,x=some a/\f a=b:=@Option.map_eq_some_iff
theorem YQ.{u}:∀{α:Type u} (l:List α) (i:Nat) (a:α),l.toArray.setIfInBounds i a=(l.set i a).toArray:=@List.setIfInBounds_toArray
theorem YR:∀{α:Type} (P:Program) (w:World) (a:α),Sem.run P (pure a) w=Result.ok a w:=@Sem.run_pure
theorem YS.{u}:∀{α:Type u} {val val_1:α},some val=some val_1->val=val_1:=@Option.some.inj
theorem YT.{u}:∀{α:Type u} {l:List α} {i:Nat},l.length<=i->l[i]?=none:=@List.getElem?_eq_none
theorem YU.{u}:∀{α:Type u} (as bs cs:List α),as++bs++cs=as++(bs++cs):=@List.append_assoc
theorem YV.{u}:∀{α:Type u} {xs:List α} {i j:Nat},(List.drop i xs)[j]?=xs[i+j]?:=@List.getElem?_drop
theorem YW.{u,v}:∀{α:Type u} {β:Type v} {x:α} {xs:List α} {f:α->List β},List.flatMap f (x::xs)=f x++List.flatMap f xs:=@List.flatMap_cons
theorem YX.{u}:∀{α:Type u} {a:α} {i:Nat} {l:List α},a∈List.drop i l->a∈l:=@List.mem_of_mem_drop
theorem YY:∀(w:World) (o:Obj),(w.alloc o).heap.size=w.heap.size+1:=@World.size_alloc
theorem YZ:∀(w:World),w.drew.heap.size=w.heap.size:=@World.size_drew
theorem Y0.{u}:∀{α:Type u} {b:α} {l:List α} {a:α},a∈b::l↔a=b\/a∈l:=@List.mem_cons
theorem Y1.{u,v}:∀{α:Type u} {β:Type v} {b:β} {f:α->β} {l:List α},b∈List.map f l↔∃a,a∈l/\f a=b:=@List.mem_map
theorem Y2.{u,v}:∀{α:Type u} {β:Type v} {f:α->β} {a:α} {l:List α},List.map f (a::l)=f a::List.map f l:=@List.map_cons
theorem Y3.{u}:∀{α:Type u} (y:α) {a:α} {l:List α},a∈l->a∈y::l:=@List.mem_cons_of_mem
theorem Y4.{u}:∀{α:Type u} {a:α} {as:List α} {i:Nat},List.take (i+1) (a::as)=a::List.take i as:=@List.take_succ_cons
theorem Y5.{u}:∀{α:Type u} {a:α} {as bs:List α},a::as++bs=a::(as++bs):=@List.cons_append
theorem Y6.{u}:∀{α:Type u} {x:α} {xs:List α} {a:α},(x::xs).set 0 a=a::xs:=@List.set_cons_zero
theorem Y7.{u}:∀{α:Type u} {l₁ l₂:List α} {i:Nat},i<=l₁.length->List.take i (l₁++l₂)=List.take i l₁:=@List.take_append_of_le_length
theorem Y8:∀{n m:Nat},n.ble m=true->n<=m:=@Nat.le_of_ble_eq_true
theorem Y9.{u}:∀{α:Type u} (as:List α),as++[]=as:=@List.append_nil
theorem Xa:∀{p:Prop},(¬p->False)->p:=@Classical.byContradiction
theorem Xb.{u}:∀{α:Type u} {x:α} {xs:List α} {i:Nat} {a:α},(x::xs).set (i+1) a=x::xs.set i a:=@List.set_cons_succ
theorem Xc.{u}:∀{α:Type u} {xs:Array α},xs.toList.toArray=xs:=@Array.toArray_toList
theorem Xd.{u}:∀{α:Type u} {i:Nat} {a:α} {l:List α},a∈List.take i l->a∈l:=@List.mem_of_mem_take
theorem Xe.{u}:∀{α:Type u} (as:List α),[]++as=as:=@List.nil_append
theorem Xf.{u}:∀{α:Type u} {i:Nat} {l:List α} (h:i<l.length),List.drop i l=l[i]::List.drop (i+1) l:=@List.drop_eq_getElem_cons
theorem Xg.{u}:∀{α:Type u} {p:α->Bool} {xs:List α},(∀(x:α),x∈xs->p x=false)->List.findIdx p xs=xs.length:=@List.findIdx_eq_length_of_false
theorem Xh.{u}:∀{α:Type u} {as:List α} {i:Nat} {a:α},(as.set i a).length=as.length:=@List.length_set
theorem Xi.{u}:∀{α:Type u} {l:List α},l.length=0->l=[]:=@List.eq_nil_of_length_eq_zero
theorem Xj:∀{n m k:Nat},n<=m->m<=k->n<=k:=@Nat.le_trans
theorem Xk:∀(n:Nat),0+n=n:=@Nat.zero_add
theorem Xl:∀{n m:Nat} (k:Nat),n<=m->n*k<=m*k:=@Nat.mul_le_mul_right
theorem Xm:∀(a b:Bool),((a||b)=true)=(a=true\/b=true):=@Bool.or_eq_true
theorem Xn.{u}:∀{α:Type u} {a:α},¬a∈[]:=@List.not_mem_nil
theorem Xo:∀(b:Bool),((!b)=true)=(b=false):=@Bool.not_eq_true'
theorem Xp:∀(c t:Bool),(bif c then t else false)=(c&&t):=@Bool.cond_false_right
theorem Xq.{u}:∀{α:Type u} (i:Nat) (l:List α),List.take i l++List.drop i l=l:=@List.take_append_drop
theorem Xr:∀(n:Nat),n<=n.succ:=@Nat.le_succ
theorem Xs:∀{n m k:Nat},n<m->m<=k->n<k:=@Nat.lt_of_lt_of_le
theorem Xt.{u}:∀{α:Type u} {as:List α},as.toArray.size=as.length:=@List.size_toArray
theorem Xu.{u}:∀{α:Type u} (a:α) (as:List α) (h:0<(a::as).length),(a::as)[0]=a:=@List.getElem_cons_zero
theorem Xv.{u}:∀{α:Type u} {l:List α} {i j:Nat},(List.take i l)[j]?=if j<i then l[j]? else none:=@List.getElem?_take
theorem Xw.{u}:∀{α:Type u} {xs ys:Array α},xs.toList=ys.toList↔xs=ys:=@Array.toList_inj
theorem Xx.{u}:∀{α:Type u} {p:α->Bool} {xs:List α} {i:Nat} (h:i<xs.length),List.findIdx p xs=i↔p xs[i]=true/\∀(j:Nat) (hji:j<i),p xs[j]=false:=@List.findIdx_eq
section
variable{A B:Prop}
theorem Es(h:A:=by repeat(first|exact Below.refl _ _|assumption|refine Below.alloc1 ?_ _|refine Below.drew ?_|refine qI ?_|refine Below.setCell ?_ Ey _|refine Below.lift ?_ DI)):A:=h
theorem Et(h:A:=by unfold Func.isWrapper;first|(rw[Yi Do];kernel_rfl)|(rw[Yc Do];exact⟨rfl,rfl⟩)):A:=h
theorem Eu(h:A:=by refine cat_ok ?_;rw[show(⟨#[101,114,114,111,114,32]⟩:DT).size=6 from rfl];omega):A:=h
theorem Ev(h:A:=by have:=Nat.mul_le_mul (show n+1-i<=1001 by omega) hzb4;omega):A:=h
theorem Ew(h:A:=by simp only[Ya,Yb,Yd,Yg,List.length_nil];unfold reachBytes;omega):A:=h
theorem Ey(h:A:=by first|exact Yk _|(simp;done)|omega|(simp;omega)):A:=h
theorem Ez(h:A:=by simp[execOp,ho,resolve,hcl,hx',invoke,builtin]):A:=h
theorem EA(h:A:=by show o.text.data.toList.length<=_;rw[h9];omega):A:=h
theorem EB(h:A:=by obtain⟨h1,h2,_⟩:=zQ hc;exact h2▸Yn h1):A:=h
theorem EC(h:A:=by simp only[Ya,Yb,Yd,Yg,List.length_nil];omega):A:=h
theorem ED(h:A:=by rw[Int.toNat_natCast,YH,Yj hlt',<-hx];rfl):A:=h
theorem EE(h:A:=by rw[(hblk _ DD).1];exact hh):A:=h
theorem EF(h:A:=by rw[hnd (by unfold za;simp;omega)];rfl):A:=h
theorem EG(h:A:=by rw[hik];exact growslice_fits hroom hbig):A:=h
theorem EH(h:A:=by have:=hK j DQ;simpa using this):A:=h
theorem EI(h:A:=by simp only[l2,Int.toNat_natCast];omega):A:=h
theorem EJ(h:A:=by simp only[lf,Int.toNat_natCast];omega):A:=h
theorem EK(h:A:=by simp only[ll,Int.toNat_natCast];omega):A:=h
theorem EL(h:A:=by simp only[lc,Int.toNat_natCast];omega):A:=h
theorem EM(h:A:=by simp only[Ya,Yd,hvl,hcl,hdl];omega):A:=h
theorem EN(h:A:=by rw[hH i Dg];exact h):A:=h
theorem EO(h:A:=by unfold hp;rw[qL,Yi rfl];simp[upd]):A:=h
theorem EP(h:A:=by simpa [SV.noRef]using hn):A:=h
theorem EQ(h:A:=by simp only[Ya,Yb];omega):A:=h
theorem ER(h:A:=by simp[World.frozen?,hh2]):A:=h
theorem ES(h:A:=by simp only[Xh,l1];omega):A:=h
theorem ET(h:A:=by have:=hX.in_.log;omega):A:=h
theorem EU(h:A:=by simp[Act.eval,Act.put]):A:=h
theorem EV(h:A:=by rw[hH _ _ hm];exact h):A:=h
theorem EW(h:A:=by rw[hr]at h0;cases h0):A:=h
theorem EX(h:A:=by simp only[execOp,ho]):A:=h
theorem EY(h:A:=by have:=hs.revs;omega):A:=h
theorem EZ(h:A:=by rw[Yb,k1];exact hi):A:=h
theorem E1(h:A:=by simp only[Ya];omega):A:=h
theorem E2(h:A:=by unfold maxLen;omega):A:=h
theorem E3(h:A:=by simpa [YV]using hk):A:=h
theorem E4(h:A:=by simpa [YV]using hu):A:=h
theorem E5(h:A:=by rw[Yd,hcl];omega):A:=h
theorem E6(h:A:=by show 3<=5;omega):A:=h
theorem E7(h:A:=by simp[Op.operands]):A:=h
theorem E8(h:A:=by rw[ln];exact hk1):A:=h
theorem E9(h:A:=by rw[l2];exact hk2):A:=h
theorem Da(h:A:=by rw[Yb,k1];omega):A:=h
theorem Db(h:A:=by rw[hm];exact hdl):A:=h
theorem Dc(h:A:=by simp[reachBytes]):A:=h
theorem Dd(h:A:=by simp at h;omega):A:=h
theorem De(h:A:=by exact True.intro):A:=h
theorem Df(h:A:=by rw[<-hx];rfl):A:=h
theorem Dg(h:A:=by simp[SV.noRef]):A:=h
theorem Dh(h:A:=by rw[h.one];rfl):A:=h
theorem Di(h:A:=by simpa using hi):A:=h
theorem Dj(h:A:=by simpa using hu):A:=h
theorem Dk(h:A:=by simpa using hl):A:=h
theorem Dl(h:A:=by simpa using h2):A:=h
theorem Dm(h:A:=by simpa using hx):A:=h
theorem Dn(h:A:=by simpa using hk):A:=h
theorem Do(h:A:=by decide +kernel):A:=h
theorem Dq(h:A:=by rw[lt];omega):A:=h
theorem Dr(h:A:=by rw[lx];omega):A:=h
theorem Ds(h:A:=by rw[Yo];omega):A:=h
theorem Dt(h:A:=by rw[Yb];omega):A:=h
theorem Du(h:A:=by rw[ll];omega):A:=h
theorem Dv(h:A:=by rw[l1];omega):A:=h
theorem Dw(h:A:=by rw[Yd];omega):A:=h
theorem Dx(h:A:=by rw[ls];omega):A:=h
theorem Dy(h:A:=by rw[hm];omega):A:=h
theorem Dz(h:A:=by rw[lc];omega):A:=h
theorem DA(h:A:=by simpa using h):A:=h
theorem DB(h:A:=by rw[hd];simp):A:=h
theorem DC(h:A:=by rw[hl];simp):A:=h
theorem DD(h:A:=by rw[hg];rfl):A:=h
theorem DE(h:A:=by simp;omega):A:=h
theorem DF(h:A:=by rw[h];rfl):A:=h
theorem DG(h:A:=by kernel_rfl):A:=h
theorem DH(h:A:=by simp[mks]):A:=h
theorem DI(h:A:=by assumption):A:=h
theorem DJ(h:A:=by simp[he0]):A:=h
theorem DK(h:A:=by simp[hl]):A:=h
theorem DM(h:A:=by exact hL0):A:=h
theorem DN(h:A:=by cases hi):A:=h
theorem DO(h:A:=by decide):A:=h
theorem DP(h:A:=by omega):A:=h
theorem DQ(h:A:=by simp):A:=h
theorem DR(h:A:=by rfl):A:=h
structure DS(p:Prop):Prop where x:p
theorem Xy(k:B)(h:DS B->A:=by intro ξ;(first|refine qd rfl rfl rfl (aM (h:=?_))|refine qd rfl rfl rfl (aB (h:=?_))|refine qd rfl rfl rfl (aA (h:=?_))|refine qd rfl rfl rfl (aS (h:=?_))|refine qd rfl rfl rfl (aL (h:=?_))|refine qd rfl rfl rfl (ql (K:=[]) (qf qc rfl De) rfl ?_));exact ξ.x):A:=h ⟨k⟩
theorem Xz(k:B)(h:DS B->A:=by intro ξ;(repeat(refine qn qc rfl De rfl ?_));exact ξ.x):A:=h ⟨k⟩
theorem XA(k:B)(h:DS B->A:=by intro ξ;refine qy rfl (qp qc rfl rfl rfl rfl rfl rfl rfl rfl rfl rfl rfl rfl rfl rfl rfl rfl Ew EC ?_);exact ξ.x):A:=h ⟨k⟩
theorem XB(k:B)(h:DS B->A:=by intro ξ;refine SW.wk (qj [0,3,4,5,6,7,8] [(3,3),(4,4),(5,5),(6,6),(7,7),(1000000,1000000),(1000001,1000001),(1000002,1000002),(1000003,1000003),(1000004,1000004)] rfl rfl) ?_;exact ξ.x):A:=h ⟨k⟩
theorem XC(h:A:=by exact⟨Or.inr rfl,_,_,[],_,Wk.refl _,rfl,rfl,.refl _,rfl,rfl⟩):A:=h
theorem XD(k:B)(h:DS B->A:=by intro ξ;(repeat refine qA ?_);refine qr DG ?_;exact ξ.x):A:=h ⟨k⟩
theorem XE(k:B)(h:DS B->A:=by intro ξ;refine qd rfl rfl rfl (qM qc rfl rfl rfl rfl rfl rfl rfl rfl rfl rfl rfl rfl ?_);exact ξ.x):A:=h ⟨k⟩
theorem XF(k:B)(h:DS B->A:=by intro ξ;refine qi (i:=17) (K:=[5,6,7]) DG DG rfl rfl (qf qc rfl De) rfl ?_;exact ξ.x):A:=h ⟨k⟩
theorem XG(h:A:=by exact⟨Or.inr rfl,_,_,[(1000000,1000000)],_,Wk.refl _,rfl,rfl,.refl _,rfl,rfl⟩):A:=h
theorem XH(k:B)(h:DS B->A:=by intro ξ;refine qF DG ?_;exact ξ.x):A:=h ⟨k⟩
theorem XI(k:B)(h:DS B->A:=by intro ξ;refine qd rfl rfl rfl (qp qc rfl rfl rfl rfl rfl rfl rfl rfl rfl rfl rfl rfl rfl rfl rfl rfl Ew EC ?_);exact ξ.x):A:=h ⟨k⟩
theorem XJ(k:B)(h:DS B->A:=by intro ξ;refine qi (i:=10) (K:=[5,6,7]) DG DG rfl rfl (qf qc rfl De) rfl ?_;exact ξ.x):A:=h ⟨k⟩
theorem XK(k:B)(h:DS B->A:=by intro ξ;refine qi (i:=6) (K:=[5,6,7]) DG DG rfl rfl (qf qc rfl De) rfl ?_;exact ξ.x):A:=h ⟨k⟩
theorem XL(k:B)(h:DS B->A:=by intro ξ;refine qi (i:=7) (K:=[5,6,7]) DG DG rfl rfl (qf qc rfl De) rfl ?_;exact ξ.x):A:=h ⟨k⟩
theorem XM(k:B)(h:DS B->A:=by intro ξ;refine qi (i:=8) (K:=[5,6,7]) DG DG rfl rfl (qf qc rfl De) rfl ?_;exact ξ.x):A:=h ⟨k⟩
theorem XN(k:B)(h:DS B->A:=by intro ξ;refine qi (i:=9) (K:=[5,6,7]) DG DG rfl rfl (qf qc rfl De) rfl ?_;exact ξ.x):A:=h ⟨k⟩
theorem XO(k:B)(h:DS B->A:=by intro ξ;refine qy rfl (qp qc rfl rfl rfl rfl rfl rfl rfl rfl rfl rfl rfl rfl rfl rfl rfl rfl (by simp[reachBytes];omega) DE ?_);exact ξ.x):A:=h ⟨k⟩
theorem XP(h:A:=by exact⟨Or.inr rfl,_,_,[(1000000,1000000)],_,Wk.refl _,rfl,rfl,.p (CvL.agg (.cons (.nil 3) (.refl _))),rfl,rfl⟩):A:=h
theorem XQ(k:B)(h:DS B->A:=by intro ξ;refine qy rfl (qP ((qu (k:=14003) rfl).trans ((qu (k:=14005) rfl).trans ((qaT (k:=14000) [c.pv] rfl rfl hone).trans ((qu (k:=14000) rfl).trans ((qu (k:=14001) rfl).trans (qu (k:=14002) rfl)))))) rfl rfl rfl rfl HFS rfl rfl ?_);exact ξ.x):A:=h ⟨k⟩
theorem XR(k:B)(h:DS B->A:=by intro ξ;refine qi (i:=1) (K:=[]) DG DG rfl rfl (qf qc rfl De) rfl ?_;exact ξ.x):A:=h ⟨k⟩
theorem XS(k:B)(h:DS B->A:=by intro ξ;refine qm qc rfl rfl Dx rfl ?_;exact ξ.x):A:=h ⟨k⟩
theorem XT(k:B)(h:DS B->A:=by intro ξ;refine qg 14 DG ?_;exact ξ.x):A:=h ⟨k⟩
theorem XU(h:A:=by exact⟨Or.inr rfl,_,_,wlkR,Wk.refl _,rfl,rfl,rfl,rfl⟩):A:=h
theorem XV(k:B)(h:DS B->A:=by intro ξ;refine⟨_,_,?_,qj [3,21,22,23] [(16000,16000),(16001,16001),(16002,16002),(16003,16003),(16004,16004)] rfl rfl,k+1,D.1,hlt,rfl,hX',by rw[qq hlt DP];rfl⟩;exact ξ.x):A:=h ⟨k⟩
theorem XW(k:B)(h:DS B->A:=by intro ξ;refine qi (i:=0) (K:=[]) DG DG rfl rfl (qf qc rfl De) rfl ?_;exact ξ.x):A:=h ⟨k⟩
theorem XX(k:B)(h:DS B->A:=by intro ξ;refine qi (i:=6) (K:=[]) DG DG rfl rfl (qf qc rfl De) rfl ?_;exact ξ.x):A:=h ⟨k⟩
theorem XY(h:A:=by exact⟨Or.inr rfl,_,_,[],_,Wk.refl _,rfl,rfl,.two (.refl _) (.refl _),rfl,rfl⟩):A:=h
theorem XZ(k:B)(h:DS B->A:=by intro ξ;refine qy rfl (qp qc rfl rfl rfl rfl rfl rfl rfl rfl rfl rfl rfl rfl rfl rfl rfl rfl (by simp only[Ya,Yb,Yd,Yo];unfold reachBytes;simp;omega) (by simp only[Ya,Yb,Yd,Yo];simp;omega) ?_);exact ξ.x):A:=h ⟨k⟩
theorem X3(k:B)(h:DS B->A:=by intro ξ;refine qJ qc rfl rfl rfl (by simp only[Yb];omega) rfl ?_;exact ξ.x):A:=h ⟨k⟩
theorem X4(k:B)(h:DS B->A:=by intro ξ;refine qi (i:=27) (K:=[]) DG DG rfl rfl (qf qc rfl De) rfl ?_;exact ξ.x):A:=h ⟨k⟩
theorem X5(k:B)(h:DS B->A:=by intro ξ;refine qi (i:=4) (K:=[]) DG DG rfl rfl (qf qc rfl De) rfl ?_;exact ξ.x):A:=h ⟨k⟩
theorem X6(k:B)(h:DS B->A:=by intro ξ;refine qm qc rfl (zC rfl rfl rfl rfl rfl (show(S.map Itm.pv).getD (lo+Int.toNat (k:Int)) []=(S.drop lo)[k].pv from zI hget) rfl) (by rw[Yb,Int.toNat_natCast];omega) rfl ?_;exact ξ.x):A:=h ⟨k⟩
theorem X7(k:B)(h:DS B->A:=by intro ξ;refine qz (T:=TTab) qc func74 DG rfl rfl rfl ?_;exact ξ.x):A:=h ⟨k⟩
theorem X8(k:B)(h:DS B->A:=by intro ξ;rw[show IntKind.i64.wrap (((Prs.mk sa sr 0 sp).at_:Int)+1)=((sa+1:Nat):Int)from YD ((sa:Int)+1) DP];exact ξ.x):A:=h ⟨k⟩
theorem X9(k:B)(h:DS B->A:=by intro ξ;refine qd rfl rfl rfl (qt rfl rfl rfl rfl (HD) rfl rfl rfl ?_);exact ξ.x):A:=h ⟨k⟩
theorem Va(k:B)(h:DS B->A:=by intro ξ;rw[show(o.kind==1)=false by rw[beq_eq_false_iff_ne];omega];exact ξ.x):A:=h ⟨k⟩
theorem Vb(k:B)(h:DS B->A:=by intro ξ;refine qi (i:=3) (K:=[]) DG DG rfl rfl (qf qc rfl De) rfl ?_;exact ξ.x):A:=h ⟨k⟩
theorem Vc(k:B)(h:DS B->A:=by intro ξ;refine qm qc rfl rfl (by simp only[Yb];omega) rfl ?_;exact ξ.x):A:=h ⟨k⟩
theorem Vd(k:B)(h:DS B->A:=by intro ξ;refine Holds.ofW ?_;exact ξ.x):A:=h ⟨k⟩
theorem Ve(h:A:=by exact⟨Or.inr rfl,_,_,[],_,Wk.refl _,rfl,rfl,.p (CvL.agg (.cons (.refl _) (.cons (.nil 3) .nil))),rfl,rfl⟩):A:=h
theorem Vf(h:A:=by exact uF []):A:=h
theorem Vg(k:B)(h:DS B->A:=by intro ξ;rw[show(o.kind==3)=false by rw[beq_eq_false_iff_ne];omega];exact ξ.x):A:=h ⟨k⟩
theorem Vh(k:B)(h:DS B->A:=by intro ξ;rw[show(o.kind==4)=false by rw[beq_eq_false_iff_ne];omega];exact ξ.x):A:=h ⟨k⟩
theorem Vi(h:A:=by exact⟨Or.inr rfl,_,_,[(14001,1),(14002,2),(14000,3),(14005,4)],_,Wk.refl _,rfl,rfl,.refl _,rfl,rfl⟩):A:=h
theorem Vj(h:A:=by exact uF [(1000000,1000000)]):A:=h
theorem Vk(k:B)(h:DS B->A:=by intro ξ;refine qg 15 DG ?_;exact ξ.x):A:=h ⟨k⟩
theorem Vl(k:B)(h:DS B->A:=by intro ξ;refine qd rfl rfl rfl (zj qc rfl rfl rfl rfl rfl rfl rfl rfl rfl rfl rfl rfl ?_);exact ξ.x):A:=h ⟨k⟩
theorem Vm(k:B)(h:DS B->A:=by intro ξ;refine qy rfl (qP ((qu (k:=14003) rfl).trans ((qu (k:=14001) rfl).trans (qu (k:=14002) rfl))) rfl rfl rfl rfl HF rfl rfl ?_);exact ξ.x):A:=h ⟨k⟩
theorem Vn(k:B)(h:DS B->A:=by intro ξ;refine⟨_,_,?_,qj [0,1,4,5] [] rfl rfl,k+1,_,hlt',rfl,qq hlt' DP,rfl⟩;exact ξ.x):A:=h ⟨k⟩
theorem Vo(k:B)(h:DS B->A:=by intro ξ;refine qg 5 DG ?_;exact ξ.x):A:=h ⟨k⟩
theorem Vp(k:B)(h:DS B->A:=by intro ξ;refine qg 16 DG ?_;exact ξ.x):A:=h ⟨k⟩
theorem Vq(k:B)(h:DS B->A:=by intro ξ;rw[show(o.kind==5)=false by rw[beq_eq_false_iff_ne];omega];exact ξ.x):A:=h ⟨k⟩
theorem Vr(k:B)(h:DS B->A:=by intro ξ;refine qg 12 DG ?_;exact ξ.x):A:=h ⟨k⟩
theorem Vs(k:B)(h:DS B->A:=by intro ξ;refine qz (T:=TTab) qc func266 DG rfl rfl rfl ?_;exact ξ.x):A:=h ⟨k⟩
theorem Vt(k:B)(h:DS B->A:=by intro ξ;refine⟨_,_,?_,qj [3,6,7,8,9,23,24,25,37,38,39] [(7,7),(9,9),(16000,16000),(16001,16001),(16002,16002),(16003,16003),(16004,16004)] rfl rfl,j+1,hj2,rfl,by rw[qq hj2 DP];rfl⟩;exact ξ.x):A:=h ⟨k⟩
theorem Vu(k:B)(h:DS B->A:=by intro ξ;refine qi (i:=8) (K:=[]) DG DG rfl rfl (qf qc rfl De) rfl ?_;exact ξ.x):A:=h ⟨k⟩
theorem Vv(k:B)(h:DS B->A:=by intro ξ;refine qg 13 DG ?_;exact ξ.x):A:=h ⟨k⟩
theorem Vw(k:B)(h:DS B->A:=by intro ξ;refine qm qc rfl rfl DP rfl ?_;exact ξ.x):A:=h ⟨k⟩
theorem Vx(k:B)(h:DS B->A:=by intro ξ;refine SW.wk (qj [3,6,7,8,9,11,12,13,14,15,23,24,25,37,38,39] [(7,7),(9,9),(11,11),(12,12),(14,14),(16000,16000),(16001,16001),(16002,16002),(16003,16003),(16004,16004)] rfl rfl) ?_;exact ξ.x):A:=h ⟨k⟩
theorem Vy(k:B)(h:DS B->A:=by intro ξ;simp only[junk,Act.put,YQ,Y6,Xb];exact ξ.x):A:=h ⟨k⟩
theorem Vz(k:B)(h:DS B->A:=by intro ξ;refine qd rfl rfl rfl (qt rfl rfl rfl rfl (G3) rfl rfl rfl ?_);exact ξ.x):A:=h ⟨k⟩
theorem VA(k:B)(h:DS B->A:=by intro ξ;refine qd rfl rfl rfl (qt rfl rfl rfl rfl (G4) rfl rfl rfl ?_);exact ξ.x):A:=h ⟨k⟩
theorem VB(k:B)(h:DS B->A:=by intro ξ;refine qd rfl rfl rfl (qt rfl rfl rfl rfl (TK) rfl rfl rfl ?_);exact ξ.x):A:=h ⟨k⟩
theorem VC(k:B)(h:DS B->A:=by intro ξ;refine qd rfl rfl rfl (qt rfl rfl rfl rfl (G5) rfl rfl rfl ?_);exact ξ.x):A:=h ⟨k⟩
theorem VD(k:B)(h:DS B->A:=by intro ξ;refine qn qc (zC rfl rfl rfl rfl rfl (show(S.map Itm.pv).getD (lo+Int.toNat 1) []=y.pv from zI h1') rfl) (by rw[Yb];show lo+1<_;omega) rfl ?_;exact ξ.x):A:=h ⟨k⟩
theorem VE(k:B)(h:DS B->A:=by intro ξ;refine uW [(1000000,1000000)] HT ?_;exact ξ.x):A:=h ⟨k⟩
theorem VF(h:A:=by exact⟨rfl,0,_,qj [2,4,5,6,12,13] [(2,2),(4,4),(5,5),(6,6)] rfl rfl,_,_,hT,rfl⟩):A:=h
theorem VG(k:B)(h:DS B->A:=by intro ξ;rw[Yi hb,show((Prs.mk sa sr sb sp).bad !=0)=true by simpa using hb];exact ξ.x):A:=h ⟨k⟩
theorem VH(h:A:=by exact⟨Or.inr rfl,_,_,[(14001,1),(14002,2)],_,Wk.refl _,rfl,rfl,.refl _,rfl,rfl⟩):A:=h
theorem VI(k:B)(h:DS B->A:=by intro ξ;refine zf rfl ?_;exact ξ.x):A:=h ⟨k⟩
theorem VJ(k:B)(h:DS B->A:=by intro ξ;refine qZ rfl ?_;exact ξ.x):A:=h ⟨k⟩
theorem VK(h:A:=by exact⟨rfl,qj [2,3,4,6] [(2,2),(4,4)] rfl rfl⟩):A:=h
theorem VL(h:A:=by exact⟨Or.inl rfl,_,_,[(1000000,1000000)],Wk.refl _,rfl,rfl,rfl,rfl⟩):A:=h
theorem VM(k:B)(h:DS B->A:=by intro ξ;refine⟨_,_,?_,qj [3,22,23,24] [(16000,16000),(16001,16001),(16002,16002),(16003,16003),(16004,16004)] rfl rfl,k+1,D.1,hlt,rfl,hX',by rw[qq hlt DP];rfl⟩;exact ξ.x):A:=h ⟨k⟩
theorem VN(k:B)(h:DS B->A:=by intro ξ;refine qi (i:=0) (K:=[900]) DG DG rfl rfl (qf qc rfl De) rfl ?_;exact ξ.x):A:=h ⟨k⟩
theorem VO(k:B)(h:DS B->A:=by intro ξ;refine qi (i:=1) (K:=[900]) DG DG rfl rfl (qf qc rfl De) rfl ?_;exact ξ.x):A:=h ⟨k⟩
theorem VP(k:B)(h:DS B->A:=by intro ξ;refine qi (i:=2) (K:=[900]) DG DG rfl rfl (qf qc rfl De) rfl ?_;exact ξ.x):A:=h ⟨k⟩
theorem VQ(k:B)(h:DS B->A:=by intro ξ;refine qi (i:=3) (K:=[900]) DG DG rfl rfl (qf qc rfl De) rfl ?_;exact ξ.x):A:=h ⟨k⟩
theorem VR(k:B)(h:DS B->A:=by intro ξ;refine qd rfl rfl rfl (qt rfl rfl rfl rfl (HE) rfl rfl rfl ?_);exact ξ.x):A:=h ⟨k⟩
theorem VS(k:B)(h:DS B->A:=by intro ξ;refine qi (i:=9) (K:=[]) DG DG rfl rfl (qf qc rfl De) rfl ?_;exact ξ.x):A:=h ⟨k⟩
theorem VT(k:B)(h:DS B->A:=by intro ξ;refine SW.wk (qj [3,6,7,8,9,10,11,12,13,21,22,23] [(7,7),(10,10),(12,12),(16000,16000),(16001,16001),(16002,16002),(16003,16003),(16004,16004)] rfl rfl) ?_;exact ξ.x):A:=h ⟨k⟩
theorem VU(k:B)(h:DS B->A:=by intro ξ;refine qn qc (zC rfl rfl rfl rfl rfl (show(S.map Itm.pv).getD (lo+Int.toNat 0) []=x.pv from zI h0) rfl) Dt rfl ?_;exact ξ.x):A:=h ⟨k⟩
theorem VV(k:B)(h:DS B->A:=by intro ξ;refine SW.wk (qj [2,5] [(2,2),(35,35)] rfl rfl) ?_;exact ξ.x):A:=h ⟨k⟩
theorem VW(k:B)(h:DS B->A:=by intro ξ;refine SW.wk (qj [3,7,8,9,10,11,12,21,22,23] [(7,7),(8,8),(9,9),(11,11),(16000,16000),(16001,16001),(16002,16002),(16003,16003),(16004,16004)] rfl rfl) ?_;exact ξ.x):A:=h ⟨k⟩
theorem VX(k:B)(h:DS B->A:=by intro ξ;refine uW [(16000,1000000),(16001,1000001),(16002,1000002),(16003,1000003),(16004,1000004)] LX ?_;exact ξ.x):A:=h ⟨k⟩
theorem VY(k:B)(h:DS B->A:=by intro ξ;refine qg 10 DG ?_;exact ξ.x):A:=h ⟨k⟩
theorem VZ(k:B)(h:DS B->A:=by intro ξ;refine qo (ts:=[2]) func25 DG rfl rfl rfl ?_;exact ξ.x):A:=h ⟨k⟩
theorem V0(k:B)(h:DS B->A:=by intro ξ;refine uZ [1,3,6,10,55,56,57] [(1000000,1000000),(3,3),(6,6),(900,0)] ?_;exact ξ.x):A:=h ⟨k⟩
theorem V1(k:B)(h:DS B->A:=by intro ξ;rw[qw hlt',<-hx];exact ξ.x):A:=h ⟨k⟩
theorem V2(k:B)(h:DS B->A:=by intro ξ;refine qd rfl rfl rfl (qt rfl rfl rfl rfl (I3) rfl rfl rfl ?_);exact ξ.x):A:=h ⟨k⟩
theorem V3(k:B)(h:DS B->A:=by intro ξ;refine SW.wk hw ?_;exact ξ.x):A:=h ⟨k⟩
theorem V4(k:B)(h:DS B->A:=by intro ξ;refine qy rfl (jf qc rfl rfl rfl rfl rfl ?_);exact ξ.x):A:=h ⟨k⟩
theorem V5(h:A:=by exact⟨by omega,by omega⟩):A:=h
theorem V6(h:A:=by exact⟨rfl,qj [3,7,8,9,10,11,12,13,22,23,24] [(11,11),(16000,16000),(16001,16001),(16002,16002),(16003,16003),(16004,16004)] rfl rfl⟩):A:=h
theorem V7(k:B)(h:DS B->A:=by intro ξ;refine qy rfl (qP ((qu (k:=14003) rfl).trans ((qu (k:=14005) rfl).trans ((qaT (k:=14000) [c.pv] rfl rfl hone).trans ((qu (k:=14000) rfl).trans ((qu (k:=14001) rfl).trans (qu (k:=14002) rfl)))))) rfl rfl rfl rfl HHS rfl rfl ?_);exact ξ.x):A:=h ⟨k⟩
theorem V8(k:B)(h:DS B->A:=by intro ξ;refine qy rfl (qp qc rfl rfl rfl rfl rfl rfl rfl rfl rfl rfl rfl rfl rfl rfl rfl rfl (by simp only[natsP,Ya,Yb,Yd,Yg,List.length_nil];unfold reachBytes;omega) (by simp only[natsP,Ya,Yb,Yd,Yg,List.length_nil];omega) ?_);exact ξ.x):A:=h ⟨k⟩
theorem V9(h:A:=by exact qZ rfl rfl):A:=h
theorem Ua(k:B)(h:DS B->A:=by intro ξ;rw[show(o.kind==6)=false by rw[beq_eq_false_iff_ne];omega];exact ξ.x):A:=h ⟨k⟩
theorem Ub(k:B)(h:DS B->A:=by intro ξ;refine uW [(16000,1000000),(16001,1000001),(16002,1000002),(16003,1000003),(16004,1000004)] (store_h X) ?_;exact ξ.x):A:=h ⟨k⟩
theorem Uc(k:B)(h:DS B->A:=by intro ξ;refine qg 9 DG ?_;exact ξ.x):A:=h ⟨k⟩
theorem Ud(k:B)(h:DS B->A:=by intro ξ;refine qJ qc rfl rfl rfl (rfl) rfl ?_;exact ξ.x):A:=h ⟨k⟩
theorem Ue(k:B)(h:DS B->A:=by intro ξ;refine SW.wk (qu (k:=14003) rfl) ?_;exact ξ.x):A:=h ⟨k⟩
theorem Uf(k:B)(h:DS B->A:=by intro ξ;refine qi (i:=11) (K:=[]) DG DG rfl rfl (qf qc rfl De) rfl ?_;exact ξ.x):A:=h ⟨k⟩
theorem Ug(k:B)(h:DS B->A:=by intro ξ;refine qi (i:=7) (K:=[]) DG DG rfl rfl (qf qc rfl De) rfl ?_;exact ξ.x):A:=h ⟨k⟩
theorem Uh(k:B)(h:DS B->A:=by intro ξ;refine qd rfl rfl rfl (qt rfl rfl rfl rfl (G2) rfl rfl rfl ?_);exact ξ.x):A:=h ⟨k⟩
theorem Ui(k:B)(h:DS B->A:=by intro ξ;refine qn qc rfl Du rfl ?_;exact ξ.x):A:=h ⟨k⟩
theorem Uj(k:B)(h:DS B->A:=by intro ξ;refine SW.wk (qu (k:=0) rfl) ?_;exact ξ.x):A:=h ⟨k⟩
theorem Uk(k:B)(h:DS B->A:=by intro ξ;refine uW [(16000,1000000),(16001,1000001),(16002,1000002),(16003,1000003),(16004,1000004)] HG' ?_;exact ξ.x):A:=h ⟨k⟩
theorem Ul(k:B)(h:DS B->A:=by intro ξ;refine qy rfl (qp qc rfl rfl rfl rfl rfl rfl rfl rfl rfl rfl rfl rfl rfl rfl rfl rfl (by simp only[zY,Ya,Yg,List.length_nil];unfold reachBytes;omega) (by simp only[zY,Ya,Yg,List.length_nil];omega) ?_);exact ξ.x):A:=h ⟨k⟩
theorem Um(h:A:=by simp only[execOp,ho,resolve,hcl,hfv,Deferred.ofValue,YG,YR,Ys,invoke,Array.empty_append,this]):A:=h
theorem Un(k:B)(h:DS B->A:=by intro ξ;refine qg 8 DG ?_;exact ξ.x):A:=h ⟨k⟩
theorem Uo(k:B)(h:DS B->A:=by intro ξ;(repeat refine qA ?_);refine wT ?_;exact ξ.x):A:=h ⟨k⟩
theorem Up(k:B)(h:DS B->A:=by intro ξ;refine qm qc rfl (zC rfl rfl rfl rfl rfl (show(S.map Itm.pv).getD (lo+Int.toNat 0) []=x.pv from zI h0) rfl) Dt rfl ?_;exact ξ.x):A:=h ⟨k⟩
theorem Uq(k:B)(h:DS B->A:=by intro ξ;rw[show IntKind.i64.wrap (((⟨⟨ji r⟩⟩:DT).size:Int)+1)=(((ji r).length+1:Nat):Int)from YD _ (by show _<=((ji r).length:Int)+1/\((ji r).length:Int)+1<=_;omega)];exact ξ.x):A:=h ⟨k⟩
theorem Ur(h:A:=by exact zf rfl rfl):A:=h
theorem Us(h:A:=by exact⟨valS r,fun _=>.nilIface,he.1,he.2,heap_nil' ((heap_nil hSx fun _=>.nilIface).sx.grow he.2.size),(hr w').flat hfl⟩):A:=h
theorem Ut(k:B)(h:DS B->A:=by intro ξ;(repeat refine qA ?_);exact ξ.x):A:=h ⟨k⟩
theorem Uu(k:B)(h:DS B->A:=by intro ξ;refine .inl ⟨rfl,_,{noOp with kind:=3,case_:=cs,field:=field,val:=val},?_,qj [3,4,5] [(3,3),(4,4)] rfl rfl⟩;exact ξ.x):A:=h ⟨k⟩
theorem Uv(k:B)(h:DS B->A:=by intro ξ;(repeat refine qA ?_);refine qD 7 rfl DG ?_;exact ξ.x):A:=h ⟨k⟩
theorem Uw(k:B)(h:DS B->A:=by intro ξ;rw[hfin,show allO (.ok (o++[⟨7,k,0,[]⟩]))=[(0,.row 141 4 (o.map Tok.pv++[[pI 7,pI (k:Int),pI 0,pL []]]))]by show [(0,Box.row 141 4 ((o++[_]).map Tok.pv))]=_;rw[Yr];rfl];exact ξ.x):A:=h ⟨k⟩
theorem Ux(k:B)(h:DS B->A:=by intro ξ;refine qm qc rfl rfl Du rfl ?_;exact ξ.x):A:=h ⟨k⟩
theorem Uy(k:B)(h:DS B->A:=by intro ξ;refine uD [] [1,3,5,7,9,11,13,15,17] ?_;exact ξ.x):A:=h ⟨k⟩
theorem Uz(k:B)(h:DS B->A:=by intro ξ;refine qi (i:=4) (K:=[1000004]) DG DG rfl rfl (qf qc (wf 4 rfl rfl rfl rfl (fun x hx=>(qbq _ x hx).1) hoff rfl (by show 4<=5;omega)) True.intro) rfl ?_;exact ξ.x):A:=h ⟨k⟩
theorem UA(k:B)(h:DS B->A:=by intro ξ;refine qg 24 DG ?_;exact ξ.x):A:=h ⟨k⟩
theorem UB(k:B)(h:DS B->A:=by intro ξ;refine qg 25 DG ?_;exact ξ.x):A:=h ⟨k⟩
theorem UC(k:B)(h:DS B->A:=by intro ξ;refine qd rfl rfl rfl (qt rfl rfl rfl rfl (HA) rfl rfl rfl ?_);exact ξ.x):A:=h ⟨k⟩
theorem UD(k:B)(h:DS B->A:=by intro ξ;rw[ext_l,show(l.drop (Int.toNat (k:Int))).take (Int.toNat ((⟨⟨l⟩⟩:DT).size:Int)-Int.toNat (k:Int))=ch::l.drop (k+1)from(YN (by simp[ls])).trans hdr];exact ξ.x):A:=h ⟨k⟩
theorem UE(h:A:=by exact⟨rfl,qj [2,3,4,5,6,8,9,10,11,13] [(2,2),(3,3),(8,8),(9,9),(10,10),(74001,901),(74002,902),(74003,903),(74004,904),(4,4),(5,5),(6,6)] rfl rfl⟩):A:=h
theorem UF(k:B)(h:DS B->A:=by intro ξ;refine qd rfl rfl rfl (zu qc rfl rfl rfl rfl rfl (by simp only[Xh,l1,Int.toNat_natCast];omega) rfl rfl rfl rfl rfl ?_);exact ξ.x):A:=h ⟨k⟩
theorem UG(k:B)(h:DS B->A:=by intro ξ;rw[show decide ((k:Int)<(L.length:Int))=false by rw[Yh];omega];exact ξ.x):A:=h ⟨k⟩
theorem UH(k:B)(h:DS B->A:=by intro ξ;rw[show decide ((k:Int)<(L.length:Int))=true by rw[Yf];omega];exact ξ.x):A:=h ⟨k⟩
theorem UI(k:B)(h:DS B->A:=by intro ξ;refine uZ [1,3,6] [(1000000,1000000),(3,3),(6,6)] ?_;exact ξ.x):A:=h ⟨k⟩
theorem UJ(h:A:=by exact⟨rfl,qj [2,3,4,5,6,8,9,10,11,13] [(2,2),(3,3),(8,8),(9,9),(10,10),(901,901),(902,902),(903,903),(904,904),(4,4),(5,5),(6,6)] rfl rfl⟩):A:=h
theorem UK(k:B)(h:DS B->A:=by intro ξ;refine qi (i:=10) (K:=[4,5,6]) DG DG rfl rfl (qf qc rfl De) rfl ?_;exact ξ.x):A:=h ⟨k⟩
theorem UL(k:B)(h:DS B->A:=by intro ξ;refine qi (i:=11) (K:=[4,5,6]) DG DG rfl rfl (qf qc rfl De) rfl ?_;exact ξ.x):A:=h ⟨k⟩
theorem UM(k:B)(h:DS B->A:=by intro ξ;refine qi (i:=15) (K:=[4,5,6]) DG DG rfl rfl (qf qc rfl De) rfl ?_;exact ξ.x):A:=h ⟨k⟩
theorem UN(k:B)(h:DS B->A:=by intro ξ;refine qi (i:=0) (K:=[4,5,6]) DG DG rfl rfl (qf qc rfl De) rfl ?_;exact ξ.x):A:=h ⟨k⟩
theorem UO(k:B)(h:DS B->A:=by intro ξ;refine qi (i:=1) (K:=[4,5,6]) DG DG rfl rfl (qf qc rfl De) rfl ?_;exact ξ.x):A:=h ⟨k⟩
theorem UP(k:B)(h:DS B->A:=by intro ξ;refine qi (i:=2) (K:=[4,5,6]) DG DG rfl rfl (qf qc rfl De) rfl ?_;exact ξ.x):A:=h ⟨k⟩
theorem UQ(k:B)(h:DS B->A:=by intro ξ;refine qi (i:=3) (K:=[4,5,6]) DG DG rfl rfl (qf qc rfl De) rfl ?_;exact ξ.x):A:=h ⟨k⟩
theorem UR(k:B)(h:DS B->A:=by intro ξ;refine qi (i:=4) (K:=[4,5,6]) DG DG rfl rfl (qf qc rfl De) rfl ?_;exact ξ.x):A:=h ⟨k⟩
theorem US(k:B)(h:DS B->A:=by intro ξ;refine qi (i:=5) (K:=[4,5,6]) DG DG rfl rfl (qf qc rfl De) rfl ?_;exact ξ.x):A:=h ⟨k⟩
theorem UT(k:B)(h:DS B->A:=by intro ξ;refine qi (i:=6) (K:=[4,5,6]) DG DG rfl rfl (qf qc rfl De) rfl ?_;exact ξ.x):A:=h ⟨k⟩
theorem UU(k:B)(h:DS B->A:=by intro ξ;refine qi (i:=7) (K:=[4,5,6]) DG DG rfl rfl (qf qc rfl De) rfl ?_;exact ξ.x):A:=h ⟨k⟩
theorem UV(k:B)(h:DS B->A:=by intro ξ;refine qi (i:=8) (K:=[4,5,6]) DG DG rfl rfl (qf qc rfl De) rfl ?_;exact ξ.x):A:=h ⟨k⟩
theorem UW(k:B)(h:DS B->A:=by intro ξ;refine qi (i:=9) (K:=[4,5,6]) DG DG rfl rfl (qf qc rfl De) rfl ?_;exact ξ.x):A:=h ⟨k⟩
theorem UX(k:B)(h:DS B->A:=by intro ξ;refine qg 11 DG ?_;exact ξ.x):A:=h ⟨k⟩
theorem UY(k:B)(h:DS B->A:=by intro ξ;refine qg 20 DG ?_;exact ξ.x):A:=h ⟨k⟩
theorem UZ(k:B)(h:DS B->A:=by intro ξ;refine qg 23 DG ?_;exact ξ.x):A:=h ⟨k⟩
theorem U0(k:B)(h:DS B->A:=by intro ξ;refine qg 26 DG ?_;exact ξ.x):A:=h ⟨k⟩
theorem U1(k:B)(h:DS B->A:=by intro ξ;refine qi (i:=11) (K:=[12]) DG DG rfl rfl (qf qc rfl De) rfl ?_;exact ξ.x):A:=h ⟨k⟩
theorem U2(k:B)(h:DS B->A:=by intro ξ;refine qi (i:=11) (K:=[11]) DG DG rfl rfl (qf qc rfl De) rfl ?_;exact ξ.x):A:=h ⟨k⟩
theorem U3(k:B)(h:DS B->A:=by intro ξ;refine qi (i:=11) (K:=[14]) DG DG rfl rfl (qf qc rfl De) rfl ?_;exact ξ.x):A:=h ⟨k⟩
theorem U4(k:B)(h:DS B->A:=by intro ξ;refine qm qc rfl (opR_loadL (x:=x.pv) rfl rfl rfl rfl ED rfl) EL rfl ?_;exact ξ.x):A:=h ⟨k⟩
theorem U5(k:B)(h:DS B->A:=by intro ξ;refine qi (i:=6) (K:=[12]) DG DG rfl rfl (qf qc rfl De) rfl ?_;exact ξ.x):A:=h ⟨k⟩
theorem U6(k:B)(h:DS B->A:=by intro ξ;refine qi (i:=7) (K:=[12]) DG DG rfl rfl (qf qc rfl De) rfl ?_;exact ξ.x):A:=h ⟨k⟩
theorem U7(k:B)(h:DS B->A:=by intro ξ;refine qi (i:=8) (K:=[12]) DG DG rfl rfl (qf qc rfl De) rfl ?_;exact ξ.x):A:=h ⟨k⟩
theorem U8(k:B)(h:DS B->A:=by intro ξ;refine qi (i:=6) (K:=[11]) DG DG rfl rfl (qf qc rfl De) rfl ?_;exact ξ.x):A:=h ⟨k⟩
theorem U9(k:B)(h:DS B->A:=by intro ξ;refine qi (i:=7) (K:=[11]) DG DG rfl rfl (qf qc rfl De) rfl ?_;exact ξ.x):A:=h ⟨k⟩
theorem Ga(k:B)(h:DS B->A:=by intro ξ;refine qi (i:=8) (K:=[11]) DG DG rfl rfl (qf qc rfl De) rfl ?_;exact ξ.x):A:=h ⟨k⟩
theorem Gb(k:B)(h:DS B->A:=by intro ξ;refine qi (i:=6) (K:=[14]) DG DG rfl rfl (qf qc rfl De) rfl ?_;exact ξ.x):A:=h ⟨k⟩
theorem Gc(k:B)(h:DS B->A:=by intro ξ;refine qi (i:=7) (K:=[14]) DG DG rfl rfl (qf qc rfl De) rfl ?_;exact ξ.x):A:=h ⟨k⟩
theorem Ge(k:B)(h:DS B->A:=by intro ξ;refine qi (i:=8) (K:=[14]) DG DG rfl rfl (qf qc rfl De) rfl ?_;exact ξ.x):A:=h ⟨k⟩
theorem Gf(k:B)(h:DS B->A:=by intro ξ;refine qi (i:=13) (K:=[]) DG DG rfl rfl (qf qc rfl De) rfl ?_;exact ξ.x):A:=h ⟨k⟩
theorem Gg(k:B)(h:DS B->A:=by intro ξ;refine qi (i:=2) (K:=[]) DG DG rfl rfl (qf qc rfl De) rfl ?_;exact ξ.x):A:=h ⟨k⟩
theorem Gh(k:B)(h:DS B->A:=by intro ξ;refine uZ [2,3,4,5,6,8,9,10,13] [(2,2),(3,3),(8,8),(9,9),(10,10),(4,4),(5,5),(6,6)] ?_;exact ξ.x):A:=h ⟨k⟩
theorem Gi(k:B)(h:DS B->A:=by intro ξ;refine qy rfl (act_call_E rfl rfl rfl rfl (atoi_range ⟨⟨sgn neg++d⟩⟩ (by show(sgn neg++d).length<=1000000;simp;omega) hv DG) rfl ?_);exact ξ.x):A:=h ⟨k⟩
theorem Gj(k:B)(h:DS B->A:=by intro ξ;refine uW [(1000000,1000000)] HL ?_;exact ξ.x):A:=h ⟨k⟩
theorem Gk(h:A:=by exact fin_t rfl (by rw[eR]) (by rw[eR];rfl)):A:=h
theorem Gl(h:A:=by exact ?fk3_112):A:=h
theorem Gm(h:A:=by exact⟨Or.inr rfl,_,_,[(1000000,1000000),(1000001,1000001),(1000002,1000002),(1000003,0),(1000004,1)],_,Wk.refl _,rfl,rfl,.refl _,rfl,rfl⟩):A:=h
theorem Gn(h:A:=by exact⟨rfl,qj [3,7,8,9,85,21,22,23] [(7,7),(8,8),(9,9),(16000,16000),(16001,16001),(16002,16002),(16003,16003),(16004,16004)] rfl rfl⟩):A:=h
theorem Gp(h:A:=by exact⟨rfl,qj [0,1,6] [(6,6),(1000000,1000000),(1000001,1)] rfl rfl⟩):A:=h
theorem Gq(h:A:=by exact⟨rfl,qj [2,3,4,5,6,8,9,10,11,13] [(2,2),(3,3),(8,8),(9,9),(10,10),(74001,901),(74002,902),(4,4),(5,5),(6,6)] rfl rfl⟩):A:=h
theorem Gr(k:B)(h:DS B->A:=by intro ξ;refine qd rfl rfl rfl (qt rfl rfl rfl rfl (HO) rfl rfl rfl ?_);exact ξ.x):A:=h ⟨k⟩
theorem Gs(k:B)(h:DS B->A:=by intro ξ;refine qd rfl rfl rfl (qt rfl rfl rfl rfl (I2) rfl rfl rfl ?_);exact ξ.x):A:=h ⟨k⟩
theorem Gt(h:A:=by exact⟨Or.inr rfl,_,_,[],_,Wk.refl _,rfl,rfl,.three noPol_cv (.refl _) (.refl _),rfl,rfl⟩):A:=h
theorem Gu(k:B)(h:DS B->A:=by intro ξ;rw[show((ch.toNat:Int)==32)=false by rw[beq_eq_false_iff_ne];omega];exact ξ.x):A:=h ⟨k⟩
theorem Gv(h:A:=by exact fin_s rfl rfl):A:=h
theorem Gw(h:A:=by exact⟨rfl,qj [2,3,4,5,6,8,9,10,11,13] [(2,2),(3,3),(8,8),(9,9),(10,10),(901,901),(902,902),(4,4),(5,5),(6,6)] rfl rfl⟩):A:=h
theorem Gx(k:B)(h:DS B->A:=by intro ξ;refine qg 7 DG ?_;exact ξ.x):A:=h ⟨k⟩
theorem Gy(k:B)(h:DS B->A:=by intro ξ;refine qg 4 DG ?_;exact ξ.x):A:=h ⟨k⟩
theorem Gz(h:A:=by simp only[Instr.sliceAt,Instr.slice,YG,run_underlying hu,Ys,Option.map_none,ends_ok hI (P:=P) (isSlice:=true) he hc hlc z,YR,hi'.size z]):A:=h
theorem GA(k:B)(h:DS B->A:=by intro ξ;refine uZ [3,6,7,8,9,10,11,21,22,23] [(7,7),(10,10),(16000,16000),(16001,16001),(16002,16002),(16003,16003),(16004,16004)] ?_;exact ξ.x):A:=h ⟨k⟩
theorem GB(h:A:=by exact⟨rfl,qj [0,2,3,4,8,9] [(2,2),(9,9),(23,23)] rfl rfl⟩):A:=h
theorem GC(k:B)(h:DS B->A:=by intro ξ;refine qaI DG ?_;exact ξ.x):A:=h ⟨k⟩
theorem GD(k:B)(h:DS B->A:=by intro ξ;(repeat refine qA ?_);refine qD 15 rfl DG ?_;exact ξ.x):A:=h ⟨k⟩
theorem GE(k:B)(h:DS B->A:=by intro ξ;simp only[execOp,ho,Instr.storeAt,hadv,Instr.sureAddr,storeVar,YG,YR,Ys,hsz,hcs,hvs];exact ξ.x):A:=h ⟨k⟩
theorem GF(k:B)(h:DS B->A:=by intro ξ;refine uW [(1000000,1000000)] HH ?_;exact ξ.x):A:=h ⟨k⟩
theorem GG(k:B)(h:DS B->A:=by intro ξ;refine uW [(1000000,1000000)] H1 ?_;exact ξ.x):A:=h ⟨k⟩
theorem GH(k:B)(h:DS B->A:=by intro ξ;refine qm qc rfl rfl (by rw[lm];omega) rfl ?_;exact ξ.x):A:=h ⟨k⟩
theorem GI(k:B)(h:DS B->A:=by intro ξ;refine qm qc rfl rfl (by rw[lL];omega) rfl ?_;exact ξ.x):A:=h ⟨k⟩
theorem GJ(k:B)(h:DS B->A:=by intro ξ;refine qm qc rfl rfl DO rfl ?_;exact ξ.x):A:=h ⟨k⟩
theorem GK(k:B)(h:DS B->A:=by intro ξ;refine qn qc rfl DP rfl ?_;exact ξ.x):A:=h ⟨k⟩
theorem GL(k:B)(h:DS B->A:=by intro ξ;rw[show upd γ d (.slice (some ⟨w.heap.size,0,none⟩) len len) d=.slice (some ⟨w.heap.size,0,none⟩) len len from Yi rfl];exact ξ.x):A:=h ⟨k⟩
theorem GM(h:A:=by exact⟨Or.inr rfl,_,_,[],_,Wk.refl _,rfl,rfl,.two (CvL.agg (.cons (.refl _) (.cons (.nil 3) .nil))) (.refl _),rfl,rfl⟩):A:=h
theorem GN(h:A:=by exact⟨rfl,qj [2,3,4,5,6,8,9,10,11,12,13] [(2,2),(3,3),(8,8),(9,9),(10,10),(4,4),(5,5),(6,6)] rfl rfl⟩):A:=h
theorem GO(k:B)(h:DS B->A:=by intro ξ;rw[lR,lS,show decide (((X.sto.revs.length+1+R.length:Nat):Int)<=(X.sto.revs.length:Int))=false by rw[Yh];omega];exact ξ.x):A:=h ⟨k⟩
theorem GP(h:A:=by simp only[execOp,ho,resolve,hcl,hargs',hts',YG,YR,Ys,invoke,builtin,List.map_toArray,Y2,List.map_nil,hsv,g1,hrun]):A:=h
theorem GQ(k:B)(h:DS B->A:=by intro ξ;refine qy rfl (qP ((qu (k:=14003) rfl).trans ((qu (k:=14001) rfl).trans (qu (k:=14002) rfl))) rfl rfl rfl rfl HH rfl rfl ?_);exact ξ.x):A:=h ⟨k⟩
theorem GR(k:B)(h:DS B->A:=by intro ξ;refine qJ qc rfl rfl (zC rfl rfl rfl rfl rfl (show([x].map Itm.pv).getD (Int.toNat 0) []=x.pv from rfl) rfl) DQ rfl ?_;exact ξ.x):A:=h ⟨k⟩
theorem GS(k:B)(h:DS B->A:=by intro ξ;refine uZ [0,1,7,8] [] ?_;exact ξ.x):A:=h ⟨k⟩
theorem GT(k:B)(h:DS B->A:=by intro ξ;refine uW [(1000000,1000000)] HS ?_;exact ξ.x):A:=h ⟨k⟩
theorem GU(k:B)(h:DS B->A:=by intro ξ;refine uW [(1000000,1000000)] HM ?_;exact ξ.x):A:=h ⟨k⟩
theorem GV(k:B)(h:DS B->A:=by intro ξ;refine qi (i:=26) (K:=[1000000,1000001]) DG DG rfl rfl (qf qc rfl De) rfl ?_;exact ξ.x):A:=h ⟨k⟩
theorem GW(k:B)(h:DS B->A:=by intro ξ;refine qi (i:=27) (K:=[1000000,1000001]) DG DG rfl rfl (qf qc rfl De) rfl ?_;exact ξ.x):A:=h ⟨k⟩
theorem GX(k:B)(h:DS B->A:=by intro ξ;refine qd rfl rfl rfl (qt rfl rfl rfl rfl (H2) rfl rfl rfl ?_);exact ξ.x):A:=h ⟨k⟩
theorem GY(k:B)(h:DS B->A:=by intro ξ;refine qd rfl rfl rfl (qt rfl rfl rfl rfl (H3) rfl rfl rfl ?_);exact ξ.x):A:=h ⟨k⟩
theorem GZ(k:B)(h:DS B->A:=by intro ξ;refine qd rfl rfl rfl (qt rfl rfl rfl rfl (G1) rfl rfl rfl ?_);exact ξ.x):A:=h ⟨k⟩
theorem G6(h:A:=by rw[zb h2,zb (bx:=klB j by_) (by rw[lk',Yc hid,Yc hij,h2];rfl),huo i hid]):A:=h
theorem G7(h:A:=by exact⟨Or.inr rfl,_,_,[],wk_nilp 4 900 44 3 rfl rfl,rfl,rfl,rfl,rfl⟩):A:=h
theorem G8(k:B)(h:DS B->A:=by intro ξ;refine SW.wk (zw 10 900 44 3 rfl rfl) ?_;exact ξ.x):A:=h ⟨k⟩
theorem G9(k:B)(h:DS B->A:=by intro ξ;refine qg 6 DG ?_;exact ξ.x):A:=h ⟨k⟩
theorem Ra(k:B)(h:DS B->A:=by intro ξ;rw[show(⟨⟨c::r⟩⟩:DT).extract (Int.toNat 0) (Int.toNat 1)=⟨⟨[c]⟩⟩from ext_l (c::r) 0 1];exact ξ.x):A:=h ⟨k⟩
theorem Rb(k:B)(h:DS B->A:=by intro ξ;refine qg 2 DG ?_;exact ξ.x):A:=h ⟨k⟩
theorem Rc(k:B)(h:DS B->A:=by intro ξ;refine qi (i:=16) (K:=[2,1000000]) DG DG rfl rfl (qf qc rfl De) rfl ?_;exact ξ.x):A:=h ⟨k⟩
theorem Re(k:B)(h:DS B->A:=by intro ξ;refine qi (i:=17) (K:=[2,1000000]) DG DG rfl rfl (qf qc rfl De) rfl ?_;exact ξ.x):A:=h ⟨k⟩
theorem Rf(k:B)(h:DS B->A:=by intro ξ;rw[lexF_fuel (f:=l.length-k) (g:=l.length-(k+bn)+1) (by simp only[Yo];omega) (by simp only[Yo];omega)];exact ξ.x):A:=h ⟨k⟩
theorem Rg(k:B)(h:DS B->A:=by intro ξ;refine qd rfl rfl rfl (zu qc rfl rfl rfl rfl rfl EL rfl rfl rfl rfl rfl ?_);exact ξ.x):A:=h ⟨k⟩
theorem Rh(k:B)(h:DS B->A:=by intro ξ;refine qm qc rfl rfl (by rw[l2];omega) rfl ?_;exact ξ.x):A:=h ⟨k⟩
theorem Ri(k:B)(h:DS B->A:=by intro ξ;rw[show IntKind.i64.wrap (((numR false r).2:Int)+1)=(((numR false r).2+1:Nat):Int)from YD _ DP];exact ξ.x):A:=h ⟨k⟩
theorem Rj(k:B)(h:DS B->A:=by intro ξ;refine qi (i:=10) (K:=[1000001]) DG DG rfl rfl (qf qc rfl De) rfl ?_;exact ξ.x):A:=h ⟨k⟩
theorem Rk(k:B)(h:DS B->A:=by intro ξ;refine qi (i:=11) (K:=[1000001]) DG DG rfl rfl (qf qc rfl De) rfl ?_;exact ξ.x):A:=h ⟨k⟩
theorem Rl(k:B)(h:DS B->A:=by intro ξ;refine qi (i:=12) (K:=[1000001]) DG DG rfl rfl (qf qc rfl De) rfl ?_;exact ξ.x):A:=h ⟨k⟩
theorem Rm(k:B)(h:DS B->A:=by intro ξ;refine qi (i:=13) (K:=[1000001]) DG DG rfl rfl (qf qc rfl De) rfl ?_;exact ξ.x):A:=h ⟨k⟩
theorem Rn(k:B)(h:DS B->A:=by intro ξ;refine qi (i:=14) (K:=[1000001]) DG DG rfl rfl (qf qc rfl De) rfl ?_;exact ξ.x):A:=h ⟨k⟩
theorem Ro(k:B)(h:DS B->A:=by intro ξ;refine qi (i:=15) (K:=[1000001]) DG DG rfl rfl (qf qc rfl De) rfl ?_;exact ξ.x):A:=h ⟨k⟩
theorem Rq(k:B)(h:DS B->A:=by intro ξ;refine qi (i:=16) (K:=[1000001]) DG DG rfl rfl (qf qc rfl De) rfl ?_;exact ξ.x):A:=h ⟨k⟩
theorem Rr(k:B)(h:DS B->A:=by intro ξ;refine qi (i:=17) (K:=[1000001]) DG DG rfl rfl (qf qc rfl De) rfl ?_;exact ξ.x):A:=h ⟨k⟩
theorem Rt(k:B)(h:DS B->A:=by intro ξ;refine qi (i:=18) (K:=[1000001]) DG DG rfl rfl (qf qc rfl De) rfl ?_;exact ξ.x):A:=h ⟨k⟩
theorem Ru(k:B)(h:DS B->A:=by intro ξ;refine qi (i:=19) (K:=[1000001]) DG DG rfl rfl (qf qc rfl De) rfl ?_;exact ξ.x):A:=h ⟨k⟩
theorem Rv(k:B)(h:DS B->A:=by intro ξ;refine qi (i:=20) (K:=[1000001]) DG DG rfl rfl (qf qc rfl De) rfl ?_;exact ξ.x):A:=h ⟨k⟩
theorem Rw(k:B)(h:DS B->A:=by intro ξ;refine qi (i:=22) (K:=[1000001]) DG DG rfl rfl (qf qc rfl De) rfl ?_;exact ξ.x):A:=h ⟨k⟩
theorem Rx(k:B)(h:DS B->A:=by intro ξ;refine qi (i:=23) (K:=[1000001]) DG DG rfl rfl (qf qc rfl De) rfl ?_;exact ξ.x):A:=h ⟨k⟩
theorem Ry(k:B)(h:DS B->A:=by intro ξ;(repeat refine qA ?_);refine qD 12 rfl DG ?_;exact ξ.x):A:=h ⟨k⟩
theorem Rz(k:B)(h:DS B->A:=by intro ξ;refine qi (i:=9) (K:=[1000000]) DG DG rfl rfl (qf qc rfl De) rfl ?_;exact ξ.x):A:=h ⟨k⟩
theorem RA(k:B)(h:DS B->A:=by intro ξ;(repeat refine qA ?_);refine qD 10 rfl DG ?_;exact ξ.x):A:=h ⟨k⟩
theorem RB(k:B)(h:DS B->A:=by intro ξ;refine qi (i:=0) (K:=[1000001]) DG DG rfl rfl (qf qc rfl De) rfl ?_;exact ξ.x):A:=h ⟨k⟩
theorem RC(k:B)(h:DS B->A:=by intro ξ;refine qi (i:=1) (K:=[1000001]) DG DG rfl rfl (qf qc rfl De) rfl ?_;exact ξ.x):A:=h ⟨k⟩
theorem RD(k:B)(h:DS B->A:=by intro ξ;refine qi (i:=2) (K:=[1000001]) DG DG rfl rfl (qf qc rfl De) rfl ?_;exact ξ.x):A:=h ⟨k⟩
theorem RE(k:B)(h:DS B->A:=by intro ξ;refine qi (i:=3) (K:=[1000001]) DG DG rfl rfl (qf qc rfl De) rfl ?_;exact ξ.x):A:=h ⟨k⟩
theorem RG(k:B)(h:DS B->A:=by intro ξ;refine qi (i:=4) (K:=[1000001]) DG DG rfl rfl (qf qc rfl De) rfl ?_;exact ξ.x):A:=h ⟨k⟩
theorem RH(k:B)(h:DS B->A:=by intro ξ;refine qi (i:=5) (K:=[1000001]) DG DG rfl rfl (qf qc rfl De) rfl ?_;exact ξ.x):A:=h ⟨k⟩
theorem RI(k:B)(h:DS B->A:=by intro ξ;refine qi (i:=6) (K:=[1000001]) DG DG rfl rfl (qf qc rfl De) rfl ?_;exact ξ.x):A:=h ⟨k⟩
theorem RJ(k:B)(h:DS B->A:=by intro ξ;refine qi (i:=7) (K:=[1000001]) DG DG rfl rfl (qf qc rfl De) rfl ?_;exact ξ.x):A:=h ⟨k⟩
theorem RK(k:B)(h:DS B->A:=by intro ξ;refine qi (i:=8) (K:=[1000001]) DG DG rfl rfl (qf qc rfl De) rfl ?_;exact ξ.x):A:=h ⟨k⟩
theorem RM(k:B)(h:DS B->A:=by intro ξ;refine qi (i:=9) (K:=[1000001]) DG DG rfl rfl (qf qc rfl De) rfl ?_;exact ξ.x):A:=h ⟨k⟩
theorem RN(k:B)(h:DS B->A:=by intro ξ;refine qi (i:=0) (K:=[1000004]) DG DG rfl rfl (qf qc rfl De) rfl ?_;exact ξ.x):A:=h ⟨k⟩
theorem RO(k:B)(h:DS B->A:=by intro ξ;refine qi (i:=1) (K:=[1000004]) DG DG rfl rfl (qf qc rfl De) rfl ?_;exact ξ.x):A:=h ⟨k⟩
theorem RP(k:B)(h:DS B->A:=by intro ξ;refine qi (i:=2) (K:=[1000004]) DG DG rfl rfl (qf qc rfl De) rfl ?_;exact ξ.x):A:=h ⟨k⟩
theorem RQ(k:B)(h:DS B->A:=by intro ξ;refine qi (i:=3) (K:=[1000004]) DG DG rfl rfl (qf qc rfl De) rfl ?_;exact ξ.x):A:=h ⟨k⟩
theorem RR(k:B)(h:DS B->A:=by intro ξ;refine qi (i:=5) (K:=[1000004]) DG DG rfl rfl (qf qc rfl De) rfl ?_;exact ξ.x):A:=h ⟨k⟩
theorem RS(k:B)(h:DS B->A:=by intro ξ;refine qi (i:=6) (K:=[1000004]) DG DG rfl rfl (qf qc rfl De) rfl ?_;exact ξ.x):A:=h ⟨k⟩
theorem RT(k:B)(h:DS B->A:=by intro ξ;refine qi (i:=7) (K:=[1000004]) DG DG rfl rfl (qf qc rfl De) rfl ?_;exact ξ.x):A:=h ⟨k⟩
theorem RU(k:B)(h:DS B->A:=by intro ξ;refine qi (i:=8) (K:=[1000004]) DG DG rfl rfl (qf qc rfl De) rfl ?_;exact ξ.x):A:=h ⟨k⟩
theorem RV(k:B)(h:DS B->A:=by intro ξ;refine qi (i:=9) (K:=[1000004]) DG DG rfl rfl (qf qc rfl De) rfl ?_;exact ξ.x):A:=h ⟨k⟩
theorem RW(k:B)(h:DS B->A:=by intro ξ;refine qi (i:=0) (K:=[1000005]) DG DG rfl rfl (qf qc rfl De) rfl ?_;exact ξ.x):A:=h ⟨k⟩
theorem RX(k:B)(h:DS B->A:=by intro ξ;refine qi (i:=1) (K:=[1000005]) DG DG rfl rfl (qf qc rfl De) rfl ?_;exact ξ.x):A:=h ⟨k⟩
theorem RY(k:B)(h:DS B->A:=by intro ξ;refine qi (i:=2) (K:=[1000005]) DG DG rfl rfl (qf qc rfl De) rfl ?_;exact ξ.x):A:=h ⟨k⟩
theorem RZ(k:B)(h:DS B->A:=by intro ξ;refine qi (i:=5) (K:=[1000005]) DG DG rfl rfl (qf qc rfl De) rfl ?_;exact ξ.x):A:=h ⟨k⟩
theorem R0(k:B)(h:DS B->A:=by intro ξ;refine qi (i:=7) (K:=[1000005]) DG DG rfl rfl (qf qc rfl De) rfl ?_;exact ξ.x):A:=h ⟨k⟩
theorem R3(k:B)(h:DS B->A:=by intro ξ;refine uW [(16000,1000000),(16001,1000001),(16002,1000002),(16003,1000003),(16004,1000004)] (chainX_h X) ?_;exact ξ.x):A:=h ⟨k⟩
theorem R4(k:B)(h:DS B->A:=by intro ξ;refine SW.wk (qu (k:=4) rfl) ?_;exact ξ.x):A:=h ⟨k⟩
theorem R5(k:B)(h:DS B->A:=by intro ξ;rw[show IntKind.i64.wrap (((numR true r).2:Int)+1)=(((numR true r).2+1:Nat):Int)from YD _ DP];exact ξ.x):A:=h ⟨k⟩
theorem R6(k:B)(h:DS B->A:=by intro ξ;refine uD [] [1,3,5,7,9,11,13,15,17,19,21,23,25,27,29,31,33,35,37,39,41,43,45,47,49,51] ?_;exact ξ.x):A:=h ⟨k⟩
theorem R7(k:B)(h:DS B->A:=by intro ξ;(repeat refine qA ?_);refine qD 9 rfl DG ?_;exact ξ.x):A:=h ⟨k⟩
theorem R8(k:B)(h:DS B->A:=by intro ξ;rw[this,Oper.upon_value,hdst];exact ξ.x):A:=h ⟨k⟩
theorem R9(k:B)(h:DS B->A:=by intro ξ;refine uZ [0,1,4,5] [] ?_;exact ξ.x):A:=h ⟨k⟩
theorem Ma(h:A:=by rw[hl2,ht,Y7 EM,YN EM]):A:=h
theorem Mb(k:B)(h:DS B->A:=by intro ξ;refine qi (i:=4) (K:=[900]) DG DG rfl rfl (qf qc rfl De) rfl ?_;exact ξ.x):A:=h ⟨k⟩
theorem Mc(k:B)(h:DS B->A:=by intro ξ;refine qi (i:=7) (K:=[900]) DG DG rfl rfl (qf qc rfl De) rfl ?_;exact ξ.x):A:=h ⟨k⟩
theorem Md(k:B)(h:DS B->A:=by intro ξ;rw[show(!((⟨⟨ji r⟩⟩:DT).toList==(⟨#[]⟩:DT).toList))=false by rw[h0];simp];exact ξ.x):A:=h ⟨k⟩
theorem Me(k:B)(h:DS B->A:=by intro ξ;refine qd rfl rfl rfl (jU qc rfl rfl rfl rfl rfl (k:=4) hoff rfl rfl rfl rfl (by show 4+1<=5;omega) ?_);exact ξ.x):A:=h ⟨k⟩
theorem Mf(k:B)(h:DS B->A:=by intro ξ;refine qi (i:=10) (K:=[2]) DG DG rfl rfl (qf qc rfl De) rfl ?_;exact ξ.x):A:=h ⟨k⟩
theorem Mg(k:B)(h:DS B->A:=by intro ξ;refine qi (i:=11) (K:=[2]) DG DG rfl rfl (qf qc rfl De) rfl ?_;exact ξ.x):A:=h ⟨k⟩
theorem Mh(k:B)(h:DS B->A:=by intro ξ;refine qi (i:=12) (K:=[2]) DG DG rfl rfl (qf qc rfl De) rfl ?_;exact ξ.x):A:=h ⟨k⟩
theorem Mi(k:B)(h:DS B->A:=by intro ξ;refine qi (i:=13) (K:=[2]) DG DG rfl rfl (qf qc rfl De) rfl ?_;exact ξ.x):A:=h ⟨k⟩
theorem Mj(k:B)(h:DS B->A:=by intro ξ;refine qd rfl rfl rfl (jU qc rfl rfl rfl rfl rfl (k:=3) hoff rfl rfl rfl rfl (by show 3+1<=5;omega) ?_);exact ξ.x):A:=h ⟨k⟩
theorem Ml(k:B)(h:DS B->A:=by intro ξ;refine SW.wk (qu (k:=14004) rfl) ?_;exact ξ.x):A:=h ⟨k⟩
theorem Mm(k:B)(h:DS B->A:=by intro ξ;refine SW.wk (qu (k:=14000) rfl) ?_;exact ξ.x):A:=h ⟨k⟩
theorem Mn(h:A:=by exact uF [(7,0)]):A:=h
theorem Mo(k:B)(h:DS B->A:=by intro ξ;refine qi (i:=0) (K:=[4]) DG DG rfl rfl (qf qc rfl De) rfl ?_;exact ξ.x):A:=h ⟨k⟩
theorem Mp(k:B)(h:DS B->A:=by intro ξ;refine qi (i:=2) (K:=[4]) DG DG rfl rfl (qf qc rfl De) rfl ?_;exact ξ.x):A:=h ⟨k⟩
theorem Mq(k:B)(h:DS B->A:=by intro ξ;refine qi (i:=4) (K:=[4]) DG DG rfl rfl (qf qc rfl De) rfl ?_;exact ξ.x):A:=h ⟨k⟩
theorem Mr(k:B)(h:DS B->A:=by intro ξ;refine qi (i:=6) (K:=[4]) DG DG rfl rfl (qf qc rfl De) rfl ?_;exact ξ.x):A:=h ⟨k⟩
theorem Ms(k:B)(h:DS B->A:=by intro ξ;refine qi (i:=10) (K:=[]) DG DG rfl rfl (qf qc rfl De) rfl ?_;exact ξ.x):A:=h ⟨k⟩
theorem Mt(k:B)(h:DS B->A:=by intro ξ;refine qi (i:=0) (K:=[2]) DG DG rfl rfl (qf qc rfl De) rfl ?_;exact ξ.x):A:=h ⟨k⟩
theorem Mu(k:B)(h:DS B->A:=by intro ξ;refine qi (i:=1) (K:=[2]) DG DG rfl rfl (qf qc rfl De) rfl ?_;exact ξ.x):A:=h ⟨k⟩
theorem Mv(k:B)(h:DS B->A:=by intro ξ;refine qi (i:=2) (K:=[2]) DG DG rfl rfl (qf qc rfl De) rfl ?_;exact ξ.x):A:=h ⟨k⟩
theorem Mw(k:B)(h:DS B->A:=by intro ξ;refine qi (i:=3) (K:=[2]) DG DG rfl rfl (qf qc rfl De) rfl ?_;exact ξ.x):A:=h ⟨k⟩
theorem Mx(k:B)(h:DS B->A:=by intro ξ;refine qi (i:=4) (K:=[2]) DG DG rfl rfl (qf qc rfl De) rfl ?_;exact ξ.x):A:=h ⟨k⟩
theorem My(k:B)(h:DS B->A:=by intro ξ;refine qi (i:=5) (K:=[2]) DG DG rfl rfl (qf qc rfl De) rfl ?_;exact ξ.x):A:=h ⟨k⟩
theorem Mz(k:B)(h:DS B->A:=by intro ξ;refine qi (i:=6) (K:=[2]) DG DG rfl rfl (qf qc rfl De) rfl ?_;exact ξ.x):A:=h ⟨k⟩
theorem MA(k:B)(h:DS B->A:=by intro ξ;refine qi (i:=7) (K:=[2]) DG DG rfl rfl (qf qc rfl De) rfl ?_;exact ξ.x):A:=h ⟨k⟩
theorem MB(k:B)(h:DS B->A:=by intro ξ;refine qi (i:=8) (K:=[2]) DG DG rfl rfl (qf qc rfl De) rfl ?_;exact ξ.x):A:=h ⟨k⟩
theorem MC(k:B)(h:DS B->A:=by intro ξ;refine qi (i:=9) (K:=[2]) DG DG rfl rfl (qf qc rfl De) rfl ?_;exact ξ.x):A:=h ⟨k⟩
theorem MD(k:B)(h:DS B->A:=by intro ξ;refine qy rfl (zu qc rfl rfl rfl rfl rfl (by simp only[lr,Int.toNat_natCast];omega) rfl rfl rfl rfl rfl ?_);exact ξ.x):A:=h ⟨k⟩
theorem ME(k:B)(h:DS B->A:=by intro ξ;rw[show decide ((k:Int)<(l.length:Int))=false by rw[Yh];omega];exact ξ.x):A:=h ⟨k⟩
theorem MF(k:B)(h:DS B->A:=by intro ξ;refine qi (i:=5) (K:=[]) DG DG rfl rfl (qf qc rfl De) rfl ?_;exact ξ.x):A:=h ⟨k⟩
theorem MG(k:B)(h:DS B->A:=by intro ξ;refine⟨_,_,?_,qj [2,3,8,9,10] [(2,2)] rfl rfl,k+1,_,hlt',rfl,qq hlt' DP,ha,rfl⟩;exact ξ.x):A:=h ⟨k⟩
theorem MH(h:A:=by exact uF [(1000000,1000000),(1000001,1000001),(1000002,1000002),(1000003,1000003),(1000004,1000004)]):A:=h
theorem MI(h:A:=by exact⟨rfl,rfl,rfl,rfl,⟨[],by simp,k3.symm⟩,id,⟨[],by simp,k4.symm⟩,fun _=>rfl,rfl⟩):A:=h
theorem MJ(k:B)(h:DS B->A:=by intro ξ;refine uZ [3,21,22,23] [(16000,16000),(16001,16001),(16002,16002),(16003,16003),(16004,16004)] ?_;exact ξ.x):A:=h ⟨k⟩
theorem MK(k:B)(h:DS B->A:=by intro ξ;refine qi (i:=1) (K:=[4]) DG DG rfl rfl (qf qc rfl Dx) rfl ?_;exact ξ.x):A:=h ⟨k⟩
theorem ML(k:B)(h:DS B->A:=by intro ξ;rw[show decide ((k:Int)<(l.length:Int))=true by rw[Yf];omega];exact ξ.x):A:=h ⟨k⟩
theorem MM(k:B)(h:DS B->A:=by intro ξ;refine uW [(1000000,1000000)] H2 ?_;exact ξ.x):A:=h ⟨k⟩
theorem MN(k:B)(h:DS B->A:=by intro ξ;refine uW [(1000000,1000000)] HV ?_;exact ξ.x):A:=h ⟨k⟩
theorem MO(h:A:=by exact absurd hr DO):A:=h
theorem MP(h:A:=by exact⟨Or.inr rfl,_,_,[],_,Wk.refl _,rfl,rfl,.p (CvL.agg (.cons (.nil 3) (.refl _))),rfl,rfl⟩):A:=h
theorem MQ(k:B)(h:DS B->A:=by intro ξ;refine uW [(16000,1000000),(16001,1000001),(16002,1000002),(16003,1000003),(16004,1000004)] HSt ?_;exact ξ.x):A:=h ⟨k⟩
theorem MR(k:B)(h:DS B->A:=by intro ξ;refine uW [(16000,1000000),(16001,1000001),(16002,1000002),(16003,1000003),(16004,1000004)] HG ?_;exact ξ.x):A:=h ⟨k⟩
theorem MS(h:A:=by exact .inl ⟨rfl,_,_,hk,qj [3,4,5] [(3,3),(4,4)] rfl rfl⟩):A:=h
theorem MT(h:A:=by exact uF [(1000000,1000000),(1000001,1000001),(1000002,1000002)]):A:=h
theorem MU(k:B)(h:DS B->A:=by intro ξ;rw[show IntKind.i64.wrap ((s.revs.length:Int)+1)=(s.revs.length:Int)+1 from YD _ DP];exact ξ.x):A:=h ⟨k⟩
theorem MV(k:B)(h:DS B->A:=by intro ξ;refine qJ qc rfl rfl rfl Dq rfl ?_;exact ξ.x):A:=h ⟨k⟩
theorem MW(h:A:=by exact⟨Or.inr rfl,_,_,[(1000000,1000000),(1,0)],_,Wk.refl _,rfl,rfl,.refl _,rfl,rfl⟩):A:=h
theorem MX(k:B)(h:DS B->A:=by intro ξ;refine qo (ts:=[4,5]) func297 DG rfl rfl rfl ?_;exact ξ.x):A:=h ⟨k⟩
theorem MY(k:B)(h:DS B->A:=by intro ξ;simp only[Y4,List.take_zero,List.drop_succ_cons,List.drop_zero];exact ξ.x):A:=h ⟨k⟩
theorem MZ(k:B)(h:DS B->A:=by intro ξ;refine qz (T:=TTab) qc func45 DG rfl rfl rfl ?_;exact ξ.x):A:=h ⟨k⟩
theorem M0(k:B)(h:DS B->A:=by intro ξ;refine qz (T:=TTab) qc func26 DG rfl rfl rfl ?_;exact ξ.x):A:=h ⟨k⟩
theorem M1(h:A:=by rw[hX1l,Y7 (by simp only[Ya,Yd,hvl,hcl];omega),YN (by simp only[Ya,Yd,hvl,hcl];omega)]):A:=h
theorem M2(k:B)(h:DS B->A:=by intro ξ;rw[show(o.kind==7)=false by rw[beq_eq_false_iff_ne];omega];exact ξ.x):A:=h ⟨k⟩
theorem M3(k:B)(h:DS B->A:=by intro ξ;refine SW.wk (qj [4,5,6,7] [(4,4),(5,5),(6,6)] rfl rfl) ?_;exact ξ.x):A:=h ⟨k⟩
theorem M4(k:B)(h:DS B->A:=by intro ξ;simp only[Instr.indexAt,asIntOf,YG,YR,Ys,run_underlying hu];exact ξ.x):A:=h ⟨k⟩
theorem M5(h:A:=by exact⟨_,ex,fun z _=>by simp only[execOp,ho,hu];rfl⟩):A:=h
theorem M6(k:B)(h:DS B->A:=by intro ξ;rw[show decide ((c.toNat:Int)>=97)=false by simp;omega];exact ξ.x):A:=h ⟨k⟩
theorem M7(k:B)(h:DS B->A:=by intro ξ;rw[show decide ((c.toNat:Int)>=97)=true by simp;omega];exact ξ.x):A:=h ⟨k⟩
theorem M8(k:B)(h:DS B->A:=by intro ξ;refine qV rfl rfl rfl rfl (is_h x _) rfl rfl ?_;exact ξ.x):A:=h ⟨k⟩
theorem M9(k:B)(h:DS B->A:=by intro ξ;refine qV rfl rfl rfl rfl (is_h y _) rfl rfl ?_;exact ξ.x):A:=h ⟨k⟩
theorem Ka(k:B)(h:DS B->A:=by intro ξ;refine qm qc rfl rfl (by rw[lr];omega) rfl ?_;exact ξ.x):A:=h ⟨k⟩
theorem Kb(k:B)(h:DS B->A:=by intro ξ;refine qd rfl rfl rfl (qt rfl rfl rfl rfl (H4) rfl rfl rfl ?_);exact ξ.x):A:=h ⟨k⟩
theorem Kc(h:A:=by exact⟨rfl,qj [2,3,5,12,27] [(2,2),(3,3)] rfl rfl⟩):A:=h
theorem Kd(k:B)(h:DS B->A:=by intro ξ;refine qm qc rfl rfl DQ rfl ?_;exact ξ.x):A:=h ⟨k⟩
theorem Ke(h:A:=by exact fin_t rfl (by rw[eR];rfl) (by rw[eR])):A:=h
theorem Kf(h:A:=by exact⟨h,by show acc.length<=_;omega⟩):A:=h
theorem Kg(k:B)(h:DS B->A:=by intro ξ;refine qaz DG DG DG ?_;exact ξ.x):A:=h ⟨k⟩
theorem Kh(k:B)(h:DS B->A:=by intro ξ;refine uW [(1000000,1000000)] H3 ?_;exact ξ.x):A:=h ⟨k⟩
theorem Ki(h:A:=by exact⟨_,_,h,key.1,key.2.1,key.2.2⟩):A:=h
theorem Kj(k:B)(h:DS B->A:=by intro ξ;(repeat refine qA ?_);refine qD 16 rfl DG ?_;exact ξ.x):A:=h ⟨k⟩
theorem Kk(k:B)(h:DS B->A:=by intro ξ;rw[show(o.kind==7)=true by simp[hk]];exact ξ.x):A:=h ⟨k⟩
theorem Kl(k:B)(h:DS B->A:=by intro ξ;rw[show(o.kind==6)=true by simp[hk]];exact ξ.x):A:=h ⟨k⟩
theorem Km(h:A:=by exact fin_t rfl (by rw[eR]) (by rw[eR])):A:=h
theorem Kn(h:A:=by exact .row EO):A:=h
theorem Ko(k:B)(h:DS B->A:=by intro ξ;refine uS ?_;refine qe ?_;exact ξ.x):A:=h ⟨k⟩
theorem Kp(k:B)(h:DS B->A:=by intro ξ;refine uA ?_;refine uQ ?_;exact ξ.x):A:=h ⟨k⟩
theorem Kq(k:B)(h:DS B->A:=by intro ξ;refine uA ?_;refine uR ?_;exact ξ.x):A:=h ⟨k⟩
theorem Kr(k:B)(h:DS B->A:=by intro ξ;refine uA ?_;refine uA ?_;exact ξ.x):A:=h ⟨k⟩
theorem Ks(k:B)(h:DS B->A:=by intro ξ;refine Ko ?_;refine uQ ?_;exact ξ.x):A:=h ⟨k⟩
theorem Kt(k:B)(h:DS B->A:=by intro ξ;refine Ko ?_;refine uR ?_;exact ξ.x):A:=h ⟨k⟩
theorem Ku(k:B)(h:DS B->A:=by intro ξ;refine Ko ?_;refine uA ?_;exact ξ.x):A:=h ⟨k⟩
theorem Kv(k:B)(h:DS B->A:=by intro ξ;refine qh ?_;refine uR ?_;exact ξ.x):A:=h ⟨k⟩
theorem Kw(k:B)(h:DS B->A:=by intro ξ;refine qh ?_;refine uA ?_;exact ξ.x):A:=h ⟨k⟩
theorem Kx(k:B)(h:DS B->A:=by intro ξ;refine uB ?_;refine uR ?_;exact ξ.x):A:=h ⟨k⟩
theorem Ky(k:B)(h:DS B->A:=by intro ξ;refine Xz ?_;refine qN ?_;exact ξ.x):A:=h ⟨k⟩
theorem Kz(k:B)(h:DS B->A:=by intro ξ;refine uB ?_;refine uA ?_;exact ξ.x):A:=h ⟨k⟩
theorem KA(k:B)(h:DS B->A:=by intro ξ;refine qh ?_;refine Kp ?_;exact ξ.x):A:=h ⟨k⟩
theorem KB(k:B)(h:DS B->A:=by intro ξ;refine XD ?_;refine Ky ?_;exact ξ.x):A:=h ⟨k⟩
theorem KC(k:B)(h:DS B->A:=by intro ξ;refine Kp ?_;refine VJ ?_;exact ξ.x):A:=h ⟨k⟩
theorem KD(k:B)(h:DS B->A:=by intro ξ;refine qe ?_;refine uQ ?_;exact ξ.x):A:=h ⟨k⟩
theorem KE(k:B)(h:DS B->A:=by intro ξ;refine XT ?_;refine Xy ?_;exact ξ.x):A:=h ⟨k⟩
theorem KF(k:B)(h:DS B->A:=by intro ξ;refine qe ?_;refine uA ?_;exact ξ.x):A:=h ⟨k⟩
theorem KG(k:B)(h:DS B->A:=by intro ξ;refine uT ?_;refine qT ?_;exact ξ.x):A:=h ⟨k⟩
theorem KH(k:B)(h:DS B->A:=by intro ξ;refine Kr ?_;refine uB ?_;exact ξ.x):A:=h ⟨k⟩
theorem KI(h:A:=by refine Kp ?_;exact Vf):A:=h
theorem KJ(k:B)(h:DS B->A:=by intro ξ;refine uA ?_;refine uB ?_;exact ξ.x):A:=h ⟨k⟩
theorem KK(h:A:=by refine Kp ?_;exact V9):A:=h
theorem KL(k:B)(h:DS B->A:=by intro ξ;refine KE ?_;refine Vk ?_;exact ξ.x):A:=h ⟨k⟩
theorem KM(k:B)(h:DS B->A:=by intro ξ;refine XD ?_;refine Xz ?_;exact ξ.x):A:=h ⟨k⟩
theorem KN(k:B)(h:DS B->A:=by intro ξ;refine KL ?_;refine Xy ?_;exact ξ.x):A:=h ⟨k⟩
theorem KO(k:B)(h:DS B->A:=by intro ξ;refine KN ?_;refine Vp ?_;exact ξ.x):A:=h ⟨k⟩
theorem KP(k:B)(h:DS B->A:=by intro ξ;refine KO ?_;refine Xy ?_;exact ξ.x):A:=h ⟨k⟩
theorem KQ(k:B)(h:DS B->A:=by intro ξ;refine KP ?_;refine XF ?_;exact ξ.x):A:=h ⟨k⟩
theorem KR(k:B)(h:DS B->A:=by intro ξ;refine KQ ?_;refine XH ?_;exact ξ.x):A:=h ⟨k⟩
theorem KS(k:B)(h:DS B->A:=by intro ξ;refine KR ?_;refine XB ?_;exact ξ.x):A:=h ⟨k⟩
theorem KT(h:A:=by refine KS ?_;exact Gl):A:=h
theorem KU(k:B)(h:DS B->A:=by intro ξ;refine Ko ?_;refine Kp ?_;exact ξ.x):A:=h ⟨k⟩
theorem KV(k:B)(h:DS B->A:=by intro ξ;refine uK HR ?_;refine Ko ?_;exact ξ.x):A:=h ⟨k⟩
theorem KW(k:B)(h:DS B->A:=by intro ξ;refine uO HO ?_;refine Kt ?_;exact ξ.x):A:=h ⟨k⟩
theorem KX(k:B)(h:DS B->A:=by intro ξ;refine uA ?_;refine Kp ?_;exact ξ.x):A:=h ⟨k⟩
theorem KY(k:B)(h:DS B->A:=by intro ξ;refine V1 ?_;refine uT ?_;exact ξ.x):A:=h ⟨k⟩
theorem KZ(h:A:=by refine Kp ?_;exact XU):A:=h
theorem K0(k:B)(h:DS B->A:=by intro ξ;refine Ku ?_;refine Kz ?_;exact ξ.x):A:=h ⟨k⟩
theorem K1(h:A:=by refine Xy ?_;exact KT):A:=h
theorem K2(k:B)(h:DS B->A:=by intro ξ;refine Kr ?_;refine Kz ?_;exact ξ.x):A:=h ⟨k⟩
theorem K3(k:B)(h:DS B->A:=by intro ξ;refine qC ?_;refine Kp ?_;exact ξ.x):A:=h ⟨k⟩
theorem K4(k:B)(h:DS B->A:=by intro ξ;refine qe ?_;refine uR ?_;exact ξ.x):A:=h ⟨k⟩
theorem K5(k:B)(h:DS B->A:=by intro ξ;refine X3 ?_;refine KY ?_;exact ξ.x):A:=h ⟨k⟩
theorem K6(k:B)(h:DS B->A:=by intro ξ;refine VY ?_;refine Xy ?_;exact ξ.x):A:=h ⟨k⟩
theorem K7(k:B)(h:DS B->A:=by intro ξ;refine X7 ?_;refine Kq ?_;exact ξ.x):A:=h ⟨k⟩
theorem K8(k:B)(h:DS B->A:=by intro ξ;refine K7 ?_;refine KW ?_;exact ξ.x):A:=h ⟨k⟩
theorem K9(k:B)(h:DS B->A:=by intro ξ;refine K8 ?_;refine KV ?_;exact ξ.x):A:=h ⟨k⟩
theorem La(k:B)(h:DS B->A:=by intro ξ;refine X9 ?_;refine XK ?_;exact ξ.x):A:=h ⟨k⟩
theorem Lb(k:B)(h:DS B->A:=by intro ξ;refine La ?_;refine XL ?_;exact ξ.x):A:=h ⟨k⟩
theorem Lc(k:B)(h:DS B->A:=by intro ξ;refine Lb ?_;refine XM ?_;exact ξ.x):A:=h ⟨k⟩
theorem Ld(k:B)(h:DS B->A:=by intro ξ;refine Lc ?_;refine XN ?_;exact ξ.x):A:=h ⟨k⟩
theorem Le(k:B)(h:DS B->A:=by intro ξ;refine Ld ?_;refine XJ ?_;exact ξ.x):A:=h ⟨k⟩
theorem Lf(h:A:=by refine Kp ?_;exact Vj):A:=h
theorem Lg(k:B)(h:DS B->A:=by intro ξ;refine uQ ?_;refine VI ?_;exact ξ.x):A:=h ⟨k⟩
theorem Lh(k:B)(h:DS B->A:=by intro ξ;refine qh ?_;refine uB ?_;exact ξ.x):A:=h ⟨k⟩
theorem Li(k:B)(h:DS B->A:=by intro ξ;refine qh ?_;refine Kx ?_;exact ξ.x):A:=h ⟨k⟩
theorem Lj(k:B)(h:DS B->A:=by intro ξ;refine uS ?_;refine XA ?_;exact ξ.x):A:=h ⟨k⟩
theorem Lk(k:B)(h:DS B->A:=by intro ξ;refine K0 ?_;refine Va ?_;exact ξ.x):A:=h ⟨k⟩
theorem Ll(h:A:=by rw[eR];exact XC):A:=h
theorem Lm(h:A:=by refine Kp ?_;exact Ll):A:=h
theorem Ln(k:B)(h:DS B->A:=by intro ξ;refine Ui ?_;rw[qw hlt,<-hx];exact ξ.x):A:=h ⟨k⟩
theorem Lo(h:A:=by refine Ks ?_;exact Vf):A:=h
theorem Lp(k:B)(h:DS B->A:=by intro ξ;refine Vc ?_;rw[qw hlt'];exact ξ.x):A:=h ⟨k⟩
theorem Lr(k:B)(h:DS B->A:=by intro ξ;refine Kr ?_;refine KJ ?_;exact ξ.x):A:=h ⟨k⟩
theorem Ls(k:B)(h:DS B->A:=by intro ξ;refine qC ?_;refine uA ?_;exact ξ.x):A:=h ⟨k⟩
theorem Lt(k:B)(h:DS B->A:=by intro ξ;refine uR ?_;refine VE ?_;exact ξ.x):A:=h ⟨k⟩
theorem Lu(k:B)(h:DS B->A:=by intro ξ;refine uA ?_;refine Vg ?_;exact ξ.x):A:=h ⟨k⟩
theorem Lv(h:A:=by refine KD ?_;exact Vf):A:=h
theorem Lw(h:A:=by refine Ks ?_;exact Mn):A:=h
theorem Lx(k:B)(h:DS B->A:=by intro ξ;refine Ko ?_;refine uB ?_;exact ξ.x):A:=h ⟨k⟩
theorem Ly(k:B)(h:DS B->A:=by intro ξ;refine Kv ?_;refine XO ?_;exact ξ.x):A:=h ⟨k⟩
theorem Lz(k:B)(h:DS B->A:=by intro ξ;refine Xy ?_;refine XH ?_;exact ξ.x):A:=h ⟨k⟩
theorem LA(k:B)(h:DS B->A:=by intro ξ;refine Lt ?_;refine qe ?_;exact ξ.x):A:=h ⟨k⟩
theorem LB(k:B)(h:DS B->A:=by intro ξ;refine uA ?_;refine Vh ?_;exact ξ.x):A:=h ⟨k⟩
theorem LC(k:B)(h:DS B->A:=by intro ξ;refine Kq ?_;refine uK H ?_;exact ξ.x):A:=h ⟨k⟩
theorem LD(h:A:=by refine VV ?_;exact ?fk1_61):A:=h
theorem LE(h:A:=by refine Ly ?_;exact Lw):A:=h
theorem LF(k:B)(h:DS B->A:=by intro ξ;refine Ud ?_;refine KG ?_;exact ξ.x):A:=h ⟨k⟩
theorem LG(k:B)(h:DS B->A:=by intro ξ;refine Ue ?_;refine uR ?_;exact ξ.x):A:=h ⟨k⟩
theorem LH(k:B)(h:DS B->A:=by intro ξ;simp only[execOp,ho,hv,hyv];refine run_v ?_;exact ξ.x):A:=h ⟨k⟩
theorem LI(h:A:=by refine Kp ?_;exact XP):A:=h
theorem LJ(h:A:=by refine K3 ?_;exact Ur):A:=h
theorem LK(h:A:=by refine KU ?_;exact XG):A:=h
theorem LL(k:B)(h:DS B->A:=by intro ξ;rw[show IntKind.i64.wrap ((k:Int)+(bn:Int))=((k+bn:Nat):Int)from YD _ DP];refine uZ [0,5,6,7,8] [(6,6),(48,0)] ?_;exact ξ.x):A:=h ⟨k⟩
theorem LM(k:B)(h:DS B->A:=by intro ξ;refine uA ?_;refine KM ?_;exact ξ.x):A:=h ⟨k⟩
theorem LN(k:B)(h:DS B->A:=by intro ξ;refine Kr ?_;refine uA ?_;exact ξ.x):A:=h ⟨k⟩
theorem LO(k:B)(h:DS B->A:=by intro ξ;refine Kw ?_;refine uB ?_;exact ξ.x):A:=h ⟨k⟩
theorem LP(k:B)(h:DS B->A:=by intro ξ;refine uS ?_;refine XS ?_;exact ξ.x):A:=h ⟨k⟩
theorem LQ(k:B)(h:DS B->A:=by intro ξ;refine XW ?_;refine XR ?_;exact ξ.x):A:=h ⟨k⟩
theorem LR(k:B)(h:DS B->A:=by intro ξ;refine uA ?_;refine Vq ?_;exact ξ.x):A:=h ⟨k⟩
theorem LS(h:A:=by simp only[beq_iff_eq,Yf];exact⟨toList_inj,fun h=>by rw[h]⟩):A:=h
theorem LT(k:B)(h:DS B->A:=by intro ξ;refine qh ?_;rw[Yc DQ];exact ξ.x):A:=h ⟨k⟩
theorem LU(h:A:=by refine Ks ?_;exact Gv):A:=h
theorem LV(k:B)(h:DS B->A:=by intro ξ;refine qn qc rfl (rfl) rfl ?_;refine Ky ?_;exact ξ.x):A:=h ⟨k⟩
theorem LW(k:B)(h:DS B->A:=by intro ξ;refine Vs ?_;refine K2 ?_;exact ξ.x):A:=h ⟨k⟩
theorem LY(k:B)(h:DS B->A:=by intro ξ;refine Kp ?_;refine VI ?_;exact ξ.x):A:=h ⟨k⟩
theorem L0(k:B)(h:DS B->A:=by intro ξ;refine UY ?_;refine VA ?_;exact ξ.x):A:=h ⟨k⟩
theorem L6(k:B)(h:DS B->A:=by intro ξ;refine L0 ?_;refine UZ ?_;exact ξ.x):A:=h ⟨k⟩
theorem L7(k:B)(h:DS B->A:=by intro ξ;refine L6 ?_;refine VB ?_;exact ξ.x):A:=h ⟨k⟩
theorem L8(k:B)(h:DS B->A:=by intro ξ;refine L7 ?_;refine UA ?_;exact ξ.x):A:=h ⟨k⟩
theorem L9(k:B)(h:DS B->A:=by intro ξ;refine L8 ?_;refine XE ?_;exact ξ.x):A:=h ⟨k⟩
theorem Ea(k:B)(h:DS B->A:=by intro ξ;refine L9 ?_;refine UB ?_;exact ξ.x):A:=h ⟨k⟩
theorem Eb(k:B)(h:DS B->A:=by intro ξ;refine Ea ?_;refine VC ?_;exact ξ.x):A:=h ⟨k⟩
theorem Ec(k:B)(h:DS B->A:=by intro ξ;refine Eb ?_;refine U0 ?_;exact ξ.x):A:=h ⟨k⟩
theorem Ed(k:B)(h:DS B->A:=by intro ξ;refine Ec ?_;refine Vl ?_;exact ξ.x):A:=h ⟨k⟩
theorem Ee(k:B)(h:DS B->A:=by intro ξ;refine Ed ?_;refine X4 ?_;exact ξ.x):A:=h ⟨k⟩
theorem Ef(k:B)(h:DS B->A:=by intro ξ;refine Ee ?_;refine XH ?_;exact ξ.x):A:=h ⟨k⟩
theorem Eg(k:B)(h:DS B->A:=by intro ξ;refine Xz ?_;refine Ln ?_;exact ξ.x):A:=h ⟨k⟩
theorem Eh(k:B)(h:DS B->A:=by intro ξ;refine uS ?_;refine uK (hF l[k]) ?_;exact ξ.x):A:=h ⟨k⟩
theorem Ei(h:A:=by rw[hN,e1,Yi hne'];exact LI):A:=h
theorem Ej(h:A:=by refine Kp ?_;exact XG):A:=h
theorem Ek(h:A:=by refine Ks ?_;exact Ur):A:=h
theorem El(k:B)(h:DS B->A:=by intro ξ;refine uR ?_;refine uK (word_h s3 DP) ?_;exact ξ.x):A:=h ⟨k⟩
theorem Em(h:A:=by refine Ef ?_;exact LD):A:=h
theorem En(h:A:=by refine Vz ?_;exact Em):A:=h
theorem Eo(h:A:=by refine XT ?_;exact En):A:=h
theorem Ep(h:A:=by refine XE ?_;exact Eo):A:=h
theorem Er(k:B)(h:DS B->A:=by intro ξ;rw[jJ hlt,<-hch];refine uS ?_;exact ξ.x):A:=h ⟨k⟩
end
end Go.Proofs.YtblgnefkgkchhaaGreatDoor
set_option linter.unusedSimpArgs false
set_option linter.unusedVariables false
namespace Go.Proofs.YtblgnefkgkchhaaGreatDoor
section
open Go.RowKit Go.ChangeShapes Go.WideShapes
theorem hide {p:Prop} (h:p):Hid p:=h
def cellIn (w:World) (a:Addr):Option Value:=w.cell? a
def frozenIn (w:World) (a:Addr):Bool:=w.frozen? a
theorem wq {W w1:World} (hb:Below W.heap.size W w1):(∀b o,w1.cell? ⟨b,o,none⟩=if b<W.heap.size then W.cell? ⟨b,o,none⟩else cellIn w1 ⟨b,o,none⟩)/\
 (∀b o,w1.frozen? ⟨b,o,none⟩=if b<W.heap.size then W.frozen? ⟨b,o,none⟩else frozenIn w1 ⟨b,o,none⟩):=by
 refine⟨fun b o=>?_,fun b o=>?_⟩
 · split
   · rename_i h;exact hb.cell (p:=⟨b,o,none⟩) h
   · rfl
 · split
   · rename_i h;exact hb.frozen (p:=⟨b,o,none⟩) h
   · rfl
def cellNew (w:World) (o:Obj) (b j:Nat):Option Value:=(w.alloc o).cell? ⟨b,j,none⟩
def frozenNew (w:World) (o:Obj) (b j:Nat):Bool:=(w.alloc o).frozen? ⟨b,j,none⟩
theorem jz (w:World) (o:Obj) (b j:Nat):(w.alloc o).cell? ⟨b,j,none⟩=if b<w.heap.size then w.cell? ⟨b,j,none⟩else cellNew w o b j:=by
 split
 · rename_i h;exact World.cell?_alloc_past _ _ _ h
 · rfl
theorem zZ (w:World) (o:Obj) (b j:Nat):(w.alloc o).frozen? ⟨b,j,none⟩=if b<w.heap.size then w.frozen? ⟨b,j,none⟩else frozenNew w o b j:=by
 split
 · rename_i h;exact World.frozen?_alloc_past _ _ _ h
 · rfl
theorem Below.step {B:Nat} {a w w':World} (h:Below B a w) (k:Below w.heap.size w w') (hB:B<=w.heap.size):Below B a w':=h.trans (k.mono hB)
theorem Below.lift {w w':World} (h:Below w.heap.size w w') {w'':World} (k:Below w'.heap.size w' w''):Below w.heap.size w w'':=h.trans (k.mono h.size)
theorem Below.alloc1 {w w':World} (h:Below w.heap.size w w') (o:Obj):Below w.heap.size w (w'.alloc o):=h.alloc h.size o
open Classical in
noncomputable def ext (w d:World):World:=if Below w.heap.size w d then d else w
theorem wg (w d:World):Below w.heap.size w (ext w d):=by
 unfold ext;split
 · assumption
 · exact Below.refl _ _
theorem ext_of {w w':World} (h:Below w.heap.size w w'):ext w w'=w':=by unfold ext;rw[if_pos h]
theorem wY (w d:World) (b o:Nat):(ext w d).cell? ⟨b,o,none⟩=if b<w.heap.size then w.cell? ⟨b,o,none⟩else cellIn (ext w d) ⟨b,o,none⟩:=(wq (wg w d)).1 b o
theorem jA (w d:World) (b o:Nat):(ext w d).frozen? ⟨b,o,none⟩=if b<w.heap.size then w.frozen? ⟨b,o,none⟩else frozenIn (ext w d) ⟨b,o,none⟩:=(wq (wg w d)).2 b o
theorem ext_ext {w d w':World} (h:Below (ext w d).heap.size (ext w d) w'):∃d',w'=ext w d':=
 ⟨w',(ext_of (Below.lift (wg w d) h)).symm⟩
theorem wp_region_ext {P:Program} {id:Nat} {Q:Exit->Act->World->Prop} {a:Act} {w:World} {l:List Oper} (hm:P.follows .mixedOrders=true) (hB:Region.lexB .any l.toArray=true)
 (h:wpQuiet P l.toArray (fun w'=>∃d,w'=ext w d) (fun a'=>∀w',Below w.heap.size w w'->Q .normal a' w') l a):(Code.region id l.toArray true).wp P Q a w:=by
 refine wp_region_quiet (C:=fun w'=>∃d,w'=ext w d) hm hB ⟨_,(ext_of (Below.refl _ w).drew).symm⟩ ?_;have e:(fun a'=>∀w',Below w.heap.size w w'->Q .normal a' w')=(fun a'=>∀w',(∃d,w'=ext w d)->Q .normal a' w'):=by
  funext a';refine propext ⟨fun h w' ⟨d,hd⟩=>h w' (hd▸wg w d),fun h w' hw=>h w' ⟨w',(ext_of hw).symm⟩⟩
 rw[e]at h;simpa using h
theorem qaV {P:Program} {f:FuncId} {args:Array Value} {w d:World} {v:Value}
 (h:Calls P f args (ext w d) fun e w'=>e=.returned v/\Below (ext w d).heap.size (ext w d) w'):Calls P f args (ext w d) fun e w''=>e=.returned v/\∃d',w''=ext w d':=
 h.mono fun _ _ ⟨he,hb⟩=>⟨he,ext_ext hb⟩
theorem quiet_eq {P:Program} {f:FuncId} {args:Array Value} {w d:World} {v:Value}
 (h:Calls P f args (ext w d) fun e w'=>e=.returned v/\ext w d=w'):Calls P f args (ext w d) fun e w''=>e=.returned v/\∃d',w''=ext w d':=
 h.mono fun _ _ ⟨he,hb⟩=>⟨he,d,hb.symm⟩
theorem qav {P:Program} {f:FuncId} {fn:Func} (hf:P.funcs[f]?=some fn) (hname:(fn.name== "runtime.NumGoroutine")=false) (hb:fn.body.isNone=false) (args:Array Value) (w:World):
 (callFunc f args).run P w=.ok (.enter f args) w:=by
 have h1:fn.name≠ "runtime.NumGoroutine":=by simpa using hname
 have h2:fn.body≠none:=by intro e;rw[e]at hb;cases hb
 simp[callFunc,hf,h1,h2]
def R64 (n:Int):Prop:=-9223372036854775808<=n/\n<=9223372036854775807
theorem R64.lo {n:Int} (h:R64 n):-9223372036854775808<=n:=h.1
theorem R64.hi {n:Int} (h:R64 n):n<=9223372036854775807:=h.2
theorem all_step {α:Type} {l:List α} {p:α->Bool} {k:Nat} (hk:k<l.length) (h:(l.take k).all p=true) (h1:p l[k]=true):(l.take (k+1)).all p=true:=by
 rw[Ym hk,List.all_append,h];simp[h1]
theorem all_no {α:Type} {l:List α} {p:α->Bool} {k:Nat} (hk:k<l.length) (h1:p l[k]=false):l.all p=false:=by
 rw[List.all_eq_false];exact⟨l[k],Yn hk,by simp[h1]⟩
theorem take_all {α:Type} (l:List α):l.take l.length=l:=List.take_length
abbrev Rp (α:Type):=World->List Value->α->Prop
def CellsAt (w:World) (b o:Nat) (cs:List Value):Prop:=∀j u,cs[j]?=some u->w.cell? ⟨b,o+j,none⟩=some u
def SlAt {α:Type} (R:Rp α) (size:Nat) (w:World) (A:Option Addr) (l:List α):Prop:=
 0<l.length->∃b o,A=some ⟨b,o,none⟩/\b<w.heap.size/\∀i (h:i<l.length),∃cs,cs.length=size/\CellsAt w b (o+i*size) cs/\R w cs l[i]
def rStr:Rp DT:=fun _ cs s=>cs=[.string s]/\s.size<=reachBytes
def rSl {α:Type} (R:Rp α) (size:Nat):Rp (List α):=fun w cs l=>∃A c,cs=[.slice A l.length c]/\l.length<=c/\(l.length<=reachBytes/\c<=maxLen)/\SlAt R size w A l
def Keeps {α:Type} (R:Rp α):Prop:=∀w w' cs x,Below w.heap.size w w'->R w cs x->R w' cs x
theorem CellsAt.keep {w w':World} {b o:Nat} {cs:List Value} (hb:Below w.heap.size w w') (hlt:b<w.heap.size) (h:CellsAt w b o cs):CellsAt w' b o cs:=
 fun j u hj=>(hb.cell (p:=⟨b,o+j,none⟩) hlt).trans (h j u hj)
theorem SlAt.keep {α:Type} {R:Rp α} (hR:Keeps R) {size:Nat} {w w':World} {A:Option Addr} {l:List α} (hb:Below w.heap.size w w') (h:SlAt R size w A l):SlAt R size w' A l:=fun hl=>by
 obtain⟨b,o,hA,hlt,hc⟩:=h hl;refine⟨b,o,hA,Xs hlt hb.size,fun i hi=>?_⟩;obtain⟨cs,h1,h2,h3⟩:=hc i hi;exact⟨cs,h1,h2.keep hb hlt,hR _ _ _ _ hb h3⟩
theorem SlAt.at_ {α:Type} {R:Rp α} {size:Nat} {w:World} {A:Option Addr} {l:List α} (h:SlAt R size w A l) {k:Nat} (hk:k<l.length):
 ∃b o cs,A=some ⟨b,o,none⟩/\b<w.heap.size/\cs.length=size/\CellsAt w b (o+k*size) cs/\R w cs l[k]:=by
 obtain⟨b,o,hA,hlt,hc⟩:=h DP;obtain⟨cs,h1,h2,h3⟩:=hc k hk;exact⟨b,o,cs,hA,hlt,h1,h2,h3⟩
theorem SlAt.nil {α:Type} {R:Rp α} {size:Nat} {w:World} {A:Option Addr}:SlAt R size w A ([]:List α):=fun h=>absurd h DQ
def Opens {α:Type} (P:Program) (t:TypeId) (size:Nat) (R:Rp α):Prop:=
 P.cellsOf t=size/\∀(H:Type) (enc:TypeId×Value->H) (w:World) (fuel:Nat) (cs:List Value) (x:DataW H×List MemPlace),
  DataW.trod enc P w 0 (fun _=>true) true fuel t cs=some x->(∀n∈x.1.weights P t,n<=reachBytes)->∃y,R w cs y
theorem lt_of_cell {w:World} {a:Addr} {v:Value} (h:w.cell? a=some v):a.block<w.heap.size/\a.spot=none:=by
 unfold World.cell? at h;split at h
 · rename_i hh;refine⟨(Array.getElem?_eq_some_iff.1 hh).1,?_⟩;split at h
   · cases h
   · rename_i hs;simpa using hs
 · cases h
theorem opens_str {P:Program} {t:TypeId} (ht:P.underlying t=some .string) (hc:P.cellsOf t=1):Opens P t 1 rStr:=
 ⟨hc,fun _ _ _ _ _ _ h hw=>by
  obtain⟨s,h1,h2,_⟩:=DataW.trod_string ht h;subst h2;refine⟨s,h1,?_⟩;have h3:=hw s.data.toList.length (by simp only[DataW.weights,YA]);have e:s.data.toList.length=s.size:=by rw[Yx];rfl
  rw[e]at h3;exact h3⟩
theorem qaJ {H:Type} {P:Program} {e:TypeId}:∀{l:List (DataW H)} {d:DataW H},d∈l->∀n∈d.weights P e,n∈DataW.weightsAll P e l
 |x::l,d,hd,n,hn=>by
  simp only[DataW.weightsAll,YL];rcases Y0.1 hd with rfl|hd
  · exact Or.inl hn
  · exact Or.inr (qaJ hd n hn)
theorem opens_sl {α:Type} {P:Program} {t e:TypeId} {size:Nat} {R:Rp α} (ht:P.underlying t=some (.slice e)) (hc:P.cellsOf t=1) (hb:1<=P.bytesOf e) (hs:1<=size) (he:Opens P e size R):Opens P t 1 (rSl R size):=by
 refine⟨hc,fun H enc w fuel cs x h hw=>?_⟩;rcases Go.Deep.open_slice ht h with⟨rfl,_⟩|⟨a,len,cap,m,n,D,Pl,rfl,_,hlc,hcm,hm,rfl,hel⟩
 · exact⟨[],none,0,rfl,Yk _,⟨Yl _,Yl _⟩,SlAt.nil⟩
 · simp only[if_true]at hm;subst hm;have hcap:m<=reachBytes:=by
    have h1:=hw ((((List.range len).map D).length+((List.range (m-len)).map fun j=>D (len+j)).length)*P.bytesOf e) (by simp[DataW.weights,ht]);simp only[Yb,List.length_range]at h1;have h2:len+(m-len)=m:=by omega
    rw[h2]at h1;exact Xj (Nat.le_mul_of_pos_right m hb) h1
   have hcap':m<=maxLen:=by unfold maxLen;unfold reachBytes at hcap;omega
   have hcell:∀i,i<m->∃cs',cs'.length=size/\(∀j u,cs'[j]?=some u->w.cell? ((a.add (i*size)).add j)=some u)/\∃y,R w cs' y:=fun i hi=>by
    obtain⟨cs',h1,h2⟩:=hel i hi;rw[he.1]at h1;obtain⟨_,h3,h4⟩:=World.cells?_some h1;refine⟨cs',h3,fun j u hj=>?_,?_⟩
    · have:j<size:=by rw[<-h3];exact(Yq.1 hj).1
      rw[h4 j this,hj]
    · refine he.2 H enc w n cs' _ h2 fun k hk=>hw k ?_
      simp only[DataW.weights,ht,Y0,YL];rcases Nat.lt_or_ge i len with hil|hil
      · exact Or.inr (Or.inl (qaJ (Y1.2 ⟨i,List.mem_range.2 hil,rfl⟩) k hk))
      · refine Or.inr (Or.inr (qaJ (d:=D i) (Y1.2 ⟨i-len,List.mem_range.2 DP,?_⟩) k hk));rw[show len+(i-len)=i by omega]
   rcases Nat.eq_zero_or_pos len with h0|hpos
   · subst h0;exact⟨[],some a,m,rfl,Yl _,⟨Yl _,hcap'⟩,SlAt.nil⟩
   · have hsp:a.spot=none/\a.block<w.heap.size:=by
      obtain⟨cs',h1,h2,_⟩:=hcell 0 DP;obtain⟨u,hu⟩:∃u,cs'[0]?=some u:=⟨cs'[0]'DP,Yj _⟩
      have h3:=h2 0 u hu;simp only[Nat.zero_mul,Addr.add,if_true]at h3;exact⟨(lt_of_cell h3).2,(lt_of_cell h3).1⟩
     obtain⟨b,o,sp⟩:=a;obtain⟨rfl,hlt⟩:=hsp;have hadd:∀o k:Nat,(⟨b,o,none⟩:Addr).add k=⟨b,o+k,none⟩:=fun o k=>by
      unfold Addr.add;split
      · simp[*]
      · rfl
     have hex:∀i:Nat,∃y:α,i<m->∃cs',cs'.length=size/\CellsAt w b (o+i*size) cs'/\R w cs' y:=fun i=>by
      by_cases hi:i<m
      · obtain⟨cs',h1,h2,y,hy⟩:=hcell i hi;refine⟨y,fun _=>⟨cs',h1,fun j u hj=>?_,hy⟩⟩;have:=h2 j u hj;rw[hadd,hadd]at this;exact this
      · obtain⟨_,_,_,y,_⟩:=hcell 0 DP;exact⟨y,fun h=>absurd h hi⟩
     obtain⟨f,hf⟩:=Classical.axiomOfChoice hex;refine⟨(List.range len).map f,some ⟨b,o,none⟩,m,by simp,by simpa using hlc,⟨by simp;omega,hcap'⟩,fun _=>⟨b,o,rfl,hlt,fun i hi=>?_⟩⟩;have hi':i<len:=by simpa using hi
     obtain⟨cs',h1,h2,h3⟩:=hf i DP;exact⟨cs',h1,h2,by simpa using h3⟩
theorem Opens.field {α:Type} {P:Program} {H:Type} {enc:TypeId×Value->H} {w:World} {m t size:Nat} {R:Rp α} (h:Opens P t size R) {off:Nat} {cs:List Value}
 (hy:∃y,DataW.trod enc P w 0 (fun _=>true) true m t ((cs.drop off).take (P.cellsOf t))=some y/\∀n∈y.1.weights P t,n<=reachBytes):∃z,R w ((cs.drop off).take size) z:=by
 obtain⟨y,h1,h2⟩:=hy;have h3:=h.2 H enc w m _ y h1 h2;rw[h.1]at h3;exact h3
section
variable {H:Type} {enc:TypeId×Value->H} {P:Program} {w:World} {base:Nat} {t:TypeId} {v:Value} {d:DataW H} {ps:List MemPlace}
theorem arg_sl {α:Type} {e:TypeId} {size:Nat} {R:Rp α} (ho:Opens P t 1 (rSl R size)) (ht:P.underlying t=some (.slice e)) (hv:Value.okWide P w .any base t v) (h:DataW.Trod enc P w 0 (fun _=>true) true t v d ps)
 (hw:∀n∈d.weights P t,n<=reachBytes):∃(l:List α) (A:Option Addr) (c:Nat),v=.slice A l.length c/\l.length<=c/\(l.length<=reachBytes/\c<=maxLen)/\SlAt R size w A l:=by
 obtain⟨a,len,cap,rfl⟩:=okWide_slice ht hv;obtain⟨fuel,hf⟩:=h;obtain⟨l,A,c,h1,h2,h3,h4⟩:=ho.2 H enc w fuel _ _ hf hw;simp only[Value.cells,List.cons.injEq,Value.slice.injEq,and_true]at h1;obtain⟨rfl,rfl,rfl⟩:=h1;exact⟨l,_,_,rfl,h2,h3,h4⟩
end
theorem trodAll_below {H:Type} {enc:TypeId×Value->H} {P:Program} (hl:laidOutB P=true) {W W':World} (hb:Below W.heap.size W W') {sp:Nat->Bool}:
 ∀{ts:List TypeId} {vs:List Value} {ds:List (DataW H)} {ps:List MemPlace},(∀t∈ts,P.readableRec t=true/\t<P.types.size)->(∀p∈ps,p.block<W.heap.size)->(∀p∈ps,sp p.block=true)->
  DataW.TrodAll enc P W 0 (fun _=>true) true ts vs ds ps->DataW.TrodAll enc P W' 0 sp true ts vs ds ps
 |[],[],[],_,_,_,_,h=>h
 |t::ts,v::vs,d::ds,ps,ht,hlt,hsp,⟨p,q,h1,h2,h3⟩=>by
  subst h3;obtain⟨hr,hrow⟩:=ht t (List.mem_cons_self ..);refine⟨p,q,Go.WideElems.Trod_stays hl hr hrow h1 (fun x hx=>hb.same (hlt x (List.mem_append_left _ hx))) (fun x hx=>hsp x (List.mem_append_left _ hx)),?_,rfl⟩;exact trodAll_below hl hb (fun t' ht'=>ht t' (Y3 _ ht')) (fun x hx=>hlt x (List.mem_append_right _ hx)) (fun x hx=>hsp x (List.mem_append_right _ hx)) h2
end
section
open Go.RowKit
structure Val where
 kind:Int
 n:Int
 s:DT
structure Atr where
 cat:Int
 name:DT
 must:Bool
structure Mat where
 attr:Atr
 op:Int
 val:Val
structure Giv where
 cat:Int
 name:DT
 bag:List Val
abbrev Val.v (x:Val):Value:=.agg #[.int .i64 x.kind,.int .i64 x.n,.string x.s]
abbrev Val.cells (x:Val):List Value:=[.int .i64 x.kind,.int .i64 x.n,.string x.s]
abbrev Atr.cells (x:Atr):List Value:=[.int .i64 x.cat,.string x.name,.bool x.must]
abbrev Mat.cells (x:Mat):List Value:=[.int .i64 x.attr.cat,.string x.attr.name,.bool x.attr.must,.int .i64 x.op,.int .i64 x.val.kind,.int .i64 x.val.n,.string x.val.s]
structure Val.Fit (x:Val):Prop where
 kind:R64 x.kind
 n:R64 x.n
 s:x.s.size<=reachBytes
structure Atr.Fit (x:Atr):Prop where
 cat:R64 x.cat
 name:x.name.size<=reachBytes
structure Mat.Fit (x:Mat):Prop where
 attr:x.attr.Fit
 op:R64 x.op
 val:x.val.Fit
def rVal:Rp Val:=fun _ cs x=>cs=x.cells/\x.Fit
theorem zD:Keeps rVal:=fun _ _ _ _ _ h=>h
theorem SlAt.val {w:World} {A:Option Addr} {l:List Val} (h:SlAt rVal 3 w A l) {k:Nat} (hk:k<l.length):
 ∃b o,A=some ⟨b,o,none⟩/\b<w.heap.size/\w.cell? ⟨b,o+k*3,none⟩=some (.int .i64 l[k].kind)/\w.cell? ⟨b,o+k*3+1,none⟩=some (.int .i64 l[k].n)/\w.cell? ⟨b,o+k*3+2,none⟩=some (.string l[k].s)/\l[k].Fit:=by
 obtain⟨b,o,cs,hA,hlt,_,hc,rfl,hf⟩:=h.at_ hk;exact⟨b,o,hA,hlt,hc 0 _ rfl,hc 1 _ rfl,hc 2 _ rfl,hf⟩
theorem SlAt.sl {α:Type} {R:Rp α} {size:Nat} {w:World} {A:Option Addr} {l:List (List α)} (h:SlAt (rSl R size) 1 w A l) {k:Nat} (hk:k<l.length):
 ∃b o B c,A=some ⟨b,o,none⟩/\b<w.heap.size/\w.cell? ⟨b,o+k,none⟩=some (.slice B l[k].length c)/\l[k].length<=c/\(l[k].length<=reachBytes/\c<=maxLen)/\SlAt R size w B l[k]:=by
 obtain⟨b,o,cs,hA,hlt,_,hc,B,c,rfl,h1,h2,h3⟩:=h.at_ hk;have:=hc 0 _ rfl;rw[Nat.mul_one,Nat.add_zero]at this;exact⟨b,o,B,c,hA,hlt,this,h1,h2,h3⟩
theorem SlAt.pair {w:World} {A:Option Addr} {x y:Val} (h:SlAt rVal 3 w A [x,y]):
 ∃b o,A=some ⟨b,o,none⟩/\b<w.heap.size/\(w.cell? ⟨b,o,none⟩=some (.int .i64 x.kind)/\w.cell? ⟨b,o+1,none⟩=some (.int .i64 x.n)/\w.cell? ⟨b,o+2,none⟩=some (.string x.s))/\
  (w.cell? ⟨b,o+3,none⟩=some (.int .i64 y.kind)/\w.cell? ⟨b,o+3+1,none⟩=some (.int .i64 y.n)/\w.cell? ⟨b,o+3+2,none⟩=some (.string y.s))/\x.Fit/\y.Fit:=by
 obtain⟨b,o,rfl,hb,c0,c1,c2,hx⟩:=h.val (k:=0) DQ;obtain⟨b',o',he,_,d0,d1,d2,hy⟩:=h.val (k:=1) DQ;simp only[Ye,Addr.mk.injEq,and_true]at he;obtain⟨rfl,rfl⟩:=he;simp only[Nat.zero_mul,Nat.one_mul,Nat.add_zero,Xu,List.getElem_cons_succ]at*;exact⟨_,_,rfl,hb,⟨c0,c1,c2⟩,⟨d0,d1,d2⟩,hx,hy⟩
theorem SlAt.lone {w:World} {A:Option Addr} {x:Val} (h:SlAt rVal 3 w A [x]):
 ∃b o,A=some ⟨b,o,none⟩/\b<w.heap.size/\(w.cell? ⟨b,o,none⟩=some (.int .i64 x.kind)/\w.cell? ⟨b,o+1,none⟩=some (.int .i64 x.n)/\w.cell? ⟨b,o+2,none⟩=some (.string x.s))/\x.Fit:=by
 obtain⟨b,o,rfl,hb,c0,c1,c2,hx⟩:=h.val (k:=0) DQ;simp only[Nat.zero_mul,Nat.add_zero,Xu]at*;exact⟨_,_,rfl,hb,⟨c0,c1,c2⟩,hx⟩
theorem wW {a b:Bool} (h:a=b):Ending.returned (.bool a)=.returned (.bool b):=by rw[h]
theorem ret_bi {x:Bool×Int} {a:Bool} {b:Int} (h:x=(a,b)):Ending.returned (.tuple #[.bool a,.int .i64 b])=.returned (.tuple #[.bool x.1,.int .i64 x.2]):=by rw[h]
theorem ret_ii {x:Int×Int} {a b:Int} (h:x=(a,b)):Ending.returned (.tuple #[.int .i64 a,.int .i64 b])=.returned (.tuple #[.int .i64 x.1,.int .i64 x.2]):=by rw[h]
theorem qbu (s:DT):s.toList.isEmpty=decide (s.size=0):=by
 rw[ByteArray.toList_eq];cases h:s with|mk d=>cases d with|mk l=>cases l<;>simp[ByteArray.size]
theorem toList_inj {s t:DT} (h:s.toList=t.toList):s=t:=by
 rw[ByteArray.toList_eq,ByteArray.toList_eq]at h;cases s;cases t;simp only at h;congr 1;exact Xw.1 h
def okC (first:Bool) (c:Nat):Bool:=(97<=c&&c<=122)||(!first&&((48<=c&&c<=57)||c==95))
def qad (s:DT):Bool:=decide (∀i (h:i<s.size),okC (i==0) s[i].toNat=true)&&decide (0<s.size)&&decide (s.size<=16)
theorem nameS_no {s:DT} {k:Nat} (hk:k<s.size) (h:okC (k==0) s[k].toNat=false):qad s=false:=by
 unfold qad;have:decide (∀i (h:i<s.size),okC (i==0) s[i].toNat=true)=false:=by
  simp only[Yh];intro h';have:=h' k hk;rw[h]at this;cases this
 rw[this];rfl
theorem nameS_end {s:DT} (h:∀i (h:i<s.size),i<s.size->okC (i==0) s[i].toNat=true):qad s=(decide (0<s.size)&&decide (s.size<=16)):=by
 unfold qad;rw[Yz (fun i hi=>h i hi hi)];rfl
theorem name_step {s:DT} {k:Nat} (hk:k<s.size) (h:∀i (h:i<s.size),i<k->okC (i==0) s[i].toNat=true) (h1:okC (k==0) s[k].toNat=true):∀i (h:i<s.size),i<k+1->okC (i==0) s[i].toNat=true:=by
 intro i hi hi';by_cases e:i=k
 · subst e;exact h1
 · exact h i hi DP
def Val.right (v:Val):Bool:=
 if v.kind=1 then(decide (v.n=0)||decide (v.n=1))&&decide (v.s.size=0)
 else if v.kind=2 then decide (v.s.size=0)
 else if v.kind=3 then decide (v.n=0)&&decide (v.s.size<=64)
 else if v.kind=4 then decide (0<=v.n)&&decide (v.n<=1099511627776)&&decide (v.s.size=0)
 else if v.kind=5 then decide (v.n=0)&&qad v.s
 else false
def textsS (k:Int):Bool:=decide (k=3)||decide (k=5)
def jx (a b:DT):Bool:=Op.bytesLess a.toList b.toList
def lessS (a b:Val):Bool×Int:=
 if !a.right||!b.right then(false,1)
 else if a.kind≠b.kind\/a.kind=1 then(false,2)
 else if textsS a.kind then(jx a.s b.s,0)
 else(decide (a.n<b.n),0)
def inI (n:Int):Bool:=decide (-9223372036854775808<=n)&&decide (n<=9223372036854775807)
def addS (a b:Int):Int×Int:=if inI (a+b)then(a+b,0)else(0,3)
def subS (a b:Int):Int×Int:=if inI (a-b)then(a-b,0)else(0,3)
def mulS (a b:Int):Int×Int:=if inI (a*b)then(a*b,0)else(0,3)
def bitI (b:Bool):Int:=if b then 1 else 0
def truthS (b:Bool):Val:=⟨1,bitI b,⟨#[]⟩⟩
def noVal:Val:=⟨0,0,⟨#[]⟩⟩
def allS (kind:Int) (l:List Val):Bool:=l.all fun v=>decide (v.kind=kind)
def mayS (op:Int) (l:List Val):Bool:=decide (6<=op)&&decide (op<=13)&&decide ((l.length:Int)=if op=11 then 1 else 2)&&l.all Val.right
def wO (a b:Val):Bool:=decide (a.kind=b.kind)&&decide (a.n=b.n)&&decide (a.s=b.s)
def zp (f:Int->Int->Int×Int) (a b:Val):Val×Int:=
 if a.kind≠2\/b.kind≠2 then(noVal,2)else if(f a.n b.n).2≠0 then(noVal,(f a.n b.n).2)else(⟨2,(f a.n b.n).1,⟨#[]⟩⟩,0)
def jr (op:Int) (l:List Val):Val×Int:=
 if !mayS op l then(noVal,1)else
 let a:=l.getD 0 noVal
 let b:=l.getD 1 noVal
 if op=6 then if a.kind≠b.kind then(noVal,2)else(truthS (wO a b),0)
 else if op=7 then if(lessS a b).2≠0 then(noVal,(lessS a b).2)else(truthS (lessS a b).1,0)
 else if op=8 then zp addS a b
 else if op=9 then zp subS a b
 else if op=10 then zp mulS a b
 else if !allS 1 l then(noVal,2)
 else if op=11 then(truthS (a.n==0),0)
 else if op=12 then(truthS (a.n==1&&b.n==1),0)
 else(truthS (a.n==1||b.n==1),0)
theorem mul_over {a b:Int} (ha:-9223372036854775808<=a) (ha':a<=9223372036854775807) (hb:-9223372036854775808<=b) (hb':b<=9223372036854775807) (h0:a≠0):
 (((a=-1/\b=-9223372036854775808)\/(b=-1/\a=-9223372036854775808))\/wrap64 ((wrap64 (a*b)).tdiv a)≠b)↔inI (a*b)=false:=by
 have key:∀n:Int,∃k:Int,wrap64 n=n-k*18446744073709551616/\-9223372036854775808<=wrap64 n/\wrap64 n<=9223372036854775807:=fun n=>by
  refine⟨(n+9223372036854775808)/18446744073709551616,?_⟩;unfold wrap64;omega
 have hid:∀n:Int,-9223372036854775808<=n->n<=9223372036854775807->wrap64 n=n:=fun n _ _=>by unfold wrap64;omega
 constructor
 · intro h;cases hin:inI (a*b)with
   |false=>rfl
   |true=>
    exfalso;simp only[inI,Yp,Yf]at hin;rw[hid _ hin.1 hin.2,Int.mul_tdiv_cancel_left _ h0,hid _ hb hb']at h;rcases h with(⟨rfl,rfl⟩|⟨rfl,rfl⟩)|h
    · omega
    · omega
    · exact h rfl
 · intro hin;by_cases hs:(a=-1/\b=-9223372036854775808)\/(b=-1/\a=-9223372036854775808)
   · exact Or.inl hs
   · right;intro hq;obtain⟨k,hk,hlo,hhi⟩:=key (a*b);generalize hc:wrap64 (a*b)=c at*;generalize hp:a*b=p at*;have hna:(c.tdiv a).natAbs=c.natAbs/a.natAbs:=Int.natAbs_tdiv c a;have hle:c.natAbs/a.natAbs<=c.natAbs:=Nat.div_le_self _ _;have hmod:a*c.tdiv a+c.tmod a=c:=Int.mul_tdiv_add_tmod c a;have hr:(c.tmod a).natAbs<a.natAbs:=by rw[Int.natAbs_tmod];exact Nat.mod_lt _ DP
     have hnot:¬(-9223372036854775808<=p/\p<=9223372036854775807):=by
      intro h;simp[inI,h.1,h.2]at hin
     by_cases hbig:c.tdiv a=9223372036854775808
     · have:c=-9223372036854775808:=by omega
       have h2:c.natAbs/a.natAbs=9223372036854775808:=by rw[<-hna,hbig];rfl
       have h3:a.natAbs=1:=by
        rcases Nat.lt_or_ge a.natAbs 2 with h|h
        · omega
        · have:c.natAbs/a.natAbs<=c.natAbs/2:=Nat.div_le_div_left h DP
          omega
       have h4:a=1\/a=-1:=by omega
       rw[hbig]at hq;have hb2:b=-9223372036854775808:=by rw[<-hq];unfold wrap64;omega
       rcases h4 with rfl|rfl
       · simp at hbig;omega
       · exact hs (Or.inl ⟨rfl,hb2⟩)
     · rw[hid _ DP DP]at hq;rw[hq,hp]at hmod;omega
section
variable {P:Program} {α:Type} {R:Rp α} {size:Nat}
def OwnF (f:α->List Value) (size:Nat) (w:World) (base:Nat) (e:TypeId) (v:Value) (l:List α):Prop:=w.ownsRow base e size v l.length (l.flatMap f)
theorem flat_get {f:α->List Value} (hf:∀x,(f x).length=size):∀(l:List α) (i:Nat) (hi:i<l.length) (j:Nat),j<size->(l.flatMap f)[i*size+j]?=(f l[i])[j]?:=by
 intro l
 induction l with
 |nil=>intro i hi;simp at hi
 |cons x l ih=>
  intro i hi j hj;cases i with
  |zero=>simp only[Nat.zero_mul,Xk,YW,Xu];rw[Yw (by rw[hf];exact hj)]
  |succ i=>
   rw[YW,Yy (by rw[hf];have:=Nat.le_mul_of_pos_left size (show 0<i+1 by omega);omega),hf];have e:(i+1)*size+j-size=i*size+j:=by rw[Nat.succ_mul];omega
   rw[e,ih i Di j hj];rfl
theorem zU {f:α->List Value} (hf:∀x,(f x).length=size) (l:List α):(l.flatMap f).length=l.length*size:=by
 induction l with
 |nil=>simp
 |cons x l ih=>rw[YW,Ya,ih,hf,Yg,Nat.succ_mul];omega
theorem OwnF.shape {f:α->List Value} {w:World} {base:Nat} {e:TypeId} {v:Value} {l:List α} (h:OwnF f size w base e v l):∃A c,v=.slice A l.length c/\l.length<=c:=by
 rcases h.2 with⟨rfl,h0⟩|⟨g,cap,cur,rfl,_,_,hc,_⟩
 · exact⟨none,0,by rw[h0],by omega⟩
 · exact⟨_,cap,rfl,hc⟩
theorem OwnF.slat {f:α->List Value} (hf:∀x,(f x).length=size) {w:World} {base:Nat} {e:TypeId} {A:Option Addr} {c:Nat} {l:List α} (h:OwnF f size w base e (.slice A l.length c) l) (hR:∀x∈l,R w (f x) x):
 SlAt R size w A l:=fun hl=>by
 rcases h.2 with⟨he,h0⟩|⟨g,cap,cur,he,hb,hh,hc,_,hcs,htake⟩
 · omega
 · simp only[Value.slice.injEq]at he;obtain⟨rfl,_,rfl⟩:=he;refine⟨g,0,rfl,lt_of_block hh,fun i hi=>⟨f l[i],hf _,fun j u hj=>?_,hR _ (Yn hi)⟩⟩;have hj':j<size:=by rw[<-hf l[i]];exact(Yq.1 hj).1
   have h1:=flat_get hf l i hi j hj';rw[hj]at h1;rw[<-htake]at h1;have hlt:i*size+j<l.length*size:=by
    have:=Xl size (show i+1<=l.length by omega);rw[Nat.succ_mul]at this;omega
   rw[List.getElem?_take_of_lt hlt]at h1;have hcell:w.cell? ⟨g,0+i*size+j,none⟩=cur[i*size+j]?:=by
    unfold World.cell?;rw[hh];simp
   rw[hcell];simpa using h1
theorem ownF_nil (f:α->List Value) (w:World) (base:Nat) (e:TypeId):OwnF f size w base e (.slice none 0 0) []:=World.ownsRow_nil _ _ _ _
theorem OwnF.alloc {f:α->List Value} {w:World} {base:Nat} {e:TypeId} {v:Value} {l:List α} (h:OwnF f size w base e v l) (o:Obj):OwnF f size (w.alloc o) base e v l:=World.ownsRow.alloc h o
theorem OwnF.below {f:α->List Value} {w w':World} {base:Nat} {e:TypeId} {v:Value} {l:List α} (h:OwnF f size w base e v l) (hb:Below w.heap.size w w'):OwnF f size w' base e v l:=by
 refine⟨h.1,?_⟩;rcases h.2 with h0|⟨g,cap,cur,hv,hg,hh,r⟩
 · exact Or.inl h0
 · exact Or.inr ⟨g,cap,cur,hv,hg,(hb.block g (lt_of_block hh)).trans hh,r⟩
theorem run_append_none (w:World) (t ty e:TypeId) (i:TypeInfo) (ht:P.underlying t=some (.slice e)) (hi:P.info? e=some i) (base size:Nat)
 (v:Value) (n:Nat) (xs:List Value) (hown:w.ownsRow base e size v n xs) (c:Nat):(Builtin.append_ #[t,t] ty #[v,.slice none 0 c]).run P w=.ok v w:=by
 rcases hown.2 with⟨rfl,rfl⟩|⟨g,cap,cur,rfl,_,_,hnc,_⟩
 · simp[Builtin.append_,run_underlying ht,sizeOf,typeInfo,hi,Builtin.lenOf,Builtin.firstCells]
 · simp[Builtin.append_,run_underlying ht,sizeOf,typeInfo,hi,Builtin.lenOf,Builtin.firstCells,hnc,storeCells]
end
abbrev RF (α:Type):=(Nat->Prop)->Rp α
def SlAtA {α:Type} (ok:Nat->Prop) (R:Rp α) (size:Nat) (w:World) (A:Option Addr) (l:List α):Prop:=
 0<l.length->∃b o,A=some ⟨b,o,none⟩/\ok b/\b<w.heap.size/\∀i (h:i<l.length),∃cs,cs.length=size/\CellsAt w b (o+i*size) cs/\R w cs l[i]
structure SameOn (ok:Nat->Prop) (w w':World):Prop where
 size:w.heap.size<=w'.heap.size
 block:∀b,b<w.heap.size->ok b->w'.heap[b]?=w.heap[b]?
structure Good {α:Type} (R:RF α):Prop where
 keep:∀ok w w' cs x,SameOn ok w w'->R ok w cs x->R ok w' cs x
 weak:∀ok ok' w cs x,(∀b,b<w.heap.size->ok b->ok' b)->R ok w cs x->R ok' w cs x
theorem SameOn.of {ok:Nat->Prop} {w w':World} (h:Below w.heap.size w w'):SameOn ok w w':=⟨h.size,fun b hb _=>h.block b hb⟩
theorem SlAtA.keep {α:Type} {R:RF α} (hR:Good R) {ok:Nat->Prop} {size:Nat} {w w':World} {A:Option Addr} {l:List α} (hs:SameOn ok w w') (h:SlAtA ok (R ok) size w A l):SlAtA ok (R ok) size w' A l:=fun hl=>by
 obtain⟨b,o,hA,hok,hlt,hc⟩:=h hl;refine⟨b,o,hA,hok,Xs hlt hs.size,fun i hi=>?_⟩;obtain⟨cs,h1,h2,h3⟩:=hc i hi;exact⟨cs,h1,fun j u hj=>(World.cell?_of_block (w:=w) (a:=⟨b,o+i*size+j,none⟩) (hs.block b hlt hok)).trans (h2 j u hj),hR.keep _ _ _ _ _ hs h3⟩
theorem SlAtA.weak {α:Type} {R:RF α} (hR:Good R) {ok ok':Nat->Prop} {size:Nat} {w:World} {A:Option Addr} {l:List α} (hs:∀b,b<w.heap.size->ok b->ok' b) (h:SlAtA ok (R ok) size w A l):SlAtA ok' (R ok') size w A l:=fun hl=>by
 obtain⟨b,o,hA,hok,hlt,hc⟩:=h hl;refine⟨b,o,hA,hs b hlt hok,hlt,fun i hi=>?_⟩;obtain⟨cs,h1,h2,h3⟩:=hc i hi;exact⟨cs,h1,h2,hR.weak _ _ _ _ _ hs h3⟩
def Forget {α:Type} (R:RF α) (R':Rp α):Prop:=∀ok w cs x,R ok w cs x->R' w cs x
def Lifts {α:Type} (R:RF α) (R':Rp α):Prop:=∀w cs x,R' w cs x->R (fun _=>True) w cs x
theorem SlAtA.forget {α:Type} {R:RF α} {R':Rp α} (hf:Forget R R') {ok:Nat->Prop} {size:Nat} {w:World} {A:Option Addr} {l:List α} (h:SlAtA ok (R ok) size w A l):SlAt R' size w A l:=fun hl=>by
 obtain⟨b,o,hA,_,hlt,hc⟩:=h hl;refine⟨b,o,hA,hlt,fun i hi=>?_⟩;obtain⟨cs,h1,h2,h3⟩:=hc i hi;exact⟨cs,h1,h2,hf _ _ _ _ h3⟩
theorem SlAtA.lift {α:Type} {R:RF α} {R':Rp α} (hf:Lifts R R') {size:Nat} {w:World} {A:Option Addr} {l:List α} (h:SlAt R' size w A l):SlAtA (fun _=>True) (R fun _=>True) size w A l:=fun hl=>by
 obtain⟨b,o,hA,hlt,hc⟩:=h hl;refine⟨b,o,hA,trivial,hlt,fun i hi=>?_⟩;obtain⟨cs,h1,h2,h3⟩:=hc i hi;exact⟨cs,h1,h2,hf _ _ _ h3⟩
theorem SlAtA.old {α:Type} {R:RF α} {R':Rp α} (hR:Good R) (hf:Lifts R R') {ok:Nat->Prop} {size:Nat} {w w':World} {A:Option Addr} {l:List α} (hb:Below w.heap.size w w') (hok:∀b,b<w.heap.size->ok b) (h:SlAt R' size w A l):SlAtA ok (R ok) size w' A l:=
 (SlAtA.weak hR (fun b hb' _=>hok b hb') (SlAtA.lift hf h)).keep hR (SameOn.of hb)
theorem SlAtA.drop {α:Type} {ok:Nat->Prop} {R:Rp α} {size:Nat} {w:World} {A:Option Addr} {l:List α} (h:SlAtA ok R size w A l):SlAt R size w A l:=fun hl=>by
 obtain⟨b,o,hA,_,hlt,hc⟩:=h hl;exact⟨b,o,hA,hlt,hc⟩
abbrev Cel (size:Nat):={cs:List Value//cs.length=size/\∀u∈cs,u.oneCell'=true}
def okR (ok:Nat->Prop) (v:Value) (b:Nat):Prop:=ok b/\some b≠v.ownBlock
def RowO {α:Type} (R:RF α) (size:Nat) (ok:Nat->Prop) (w:World) (base:Nat) (e:TypeId) (v:Value) (l:List α):Prop:=
 ∃css:List (Cel size),OwnF Subtype.val size w base e v css/\css.length=l.length/\∀i (h1:i<css.length) (h2:i<l.length),R (okR ok v) w css[i].val l[i]
section
variable {α:Type} {R:RF α} {size:Nat} {ok:Nat->Prop} {w w':World} {base:Nat} {e:TypeId} {v:Value} {l:List α}
theorem rowO_nil:RowO R size ok w base e (.slice none 0 0) []:=⟨[],ownF_nil _ _ _ _,rfl,fun i h1=>absurd h1 DQ⟩
theorem RowO.shape (h:RowO R size ok w base e v l):∃A c,v=.slice A l.length c/\l.length<=c/\c<=maxLen:=by
 obtain⟨css,h1,h2,_⟩:=h;rcases h1.2 with⟨rfl,h0⟩|⟨g,cap,cur,rfl,_,_,hc,hm,_⟩
 · exact⟨none,0,by rw[<-h2,h0],by omega,Yl _⟩
 · exact⟨_,cap,by rw[h2],by omega,hm⟩
theorem RowO.below (hR:Good R) (h:RowO R size ok w base e v l) (hb:Below w.heap.size w w'):RowO R size ok w' base e v l:=by
 obtain⟨css,h1,h2,h3⟩:=h;exact⟨css,h1.below hb,h2,fun i a b=>hR.keep _ _ _ _ _ (SameOn.of hb) (h3 i a b)⟩
theorem RowO.slatA (hR:Good R) {A:Option Addr} {c:Nat} {ok':Nat->Prop} (h:RowO R size ok w base e (.slice A l.length c) l) (hok:∀b,b<w.heap.size->ok b->ok' b) (hown:∀b,base<=b->b<w.heap.size->ok' b):SlAtA ok' (R ok') size w A l:=fun hl=>by
 obtain⟨css,h1,h2,h3⟩:=h;have h1':OwnF Subtype.val size w base e (.slice A css.length c) css:=by rw[h2];exact h1
 have hs:=OwnF.slat (R:=fun _ cs (y:Cel size)=>cs=y.val) (fun x=>x.2.1) h1' (fun x _=>rfl);rcases h1.2 with⟨hv,h0⟩|⟨g,cap,cur,hv,hg,hh,_⟩
 · omega
 · obtain⟨b,o,hA,hlt,hc⟩:=hs DP;simp only[Value.slice.injEq]at hv;have hbg:b=g:=by
    have:=hA.symm.trans hv.1;simp only[Ye,Addr.mk.injEq]at this;exact this.1
   refine⟨b,o,hA,hown b DP hlt,hlt,fun i hi=>?_⟩;obtain⟨cs,a1,a2,rfl⟩:=hc i DP;exact⟨_,a1,a2,hR.weak _ _ _ _ _ (fun b hb h=>hok b hb h.1) (h3 i DP hi)⟩
theorem RowO.slat {R':Rp α} (hR:Good R) (hf:Forget R R') {A:Option Addr} {c:Nat} (h:RowO R size ok w base e (.slice A l.length c) l):SlAt R' size w A l:=
 (h.slatA (ok':=fun _=>True) hR (fun _ _ _=>trivial) (fun _ _ _=>trivial)).forget hf
end
section
variable {P:Program} {α:Type} {R:RF α} {size:Nat}
end
section
variable {P:Program} {ops:Array Oper} {C:World->Prop}
def qbs (ops:Array Oper):Nat->Nat->List (Nat×Bool)
 |0,_=>[]
 |f+1,k=>match(ops[k]?).bind (·.guard)with
  |none=>[]
  |some (j,b)=>(j,b)::qbs ops f j
def qat (t:Tmp):Operand->Bool
 | .tmp u=>u==t
 |_=>false
def mayRead (ops:Array Oper) (k:Nat) (o:Oper) (g:Nat×Bool) (t:Tmp):Bool:=
 (qbs ops ops.size k).contains g||
 match o.op with
 | .pick (.tmp c) x y=>c !=t&&((ops[g.1]?).bind (·.dst))==some c&&(!qat t x||g.2)&&(!qat t y||!g.2)
 |_=>false
def specAt (ops:Array Oper) (k:Nat) (o:Oper):Bool:=
 (match o.op with| .select ..=>false|_=>true)&&
 (match o.guard with|none=>true|some (j,_)=>decide (j<k)&&((ops[j]?).bind (·.dst)).isSome)&&
 (List.range k).all fun i=>match ops[i]? with
  |none=>false
  |some oi=>match oi.dst with
   |none=>true
   |some t=>o.dst !=some t&&
    match oi.guard with
    |none=>true
    |some g=>!(o.op.operands.any (qat t))||mayRead ops k o g t
def specB (ops:Array Oper):Bool:=(List.range ops.size).all fun k=>match ops[k]? with|none=>false|some o=>specAt ops k o
def wpSpec (P:Program) (ops:Array Oper) (C:World->Prop) (Q:Act->Prop):List Oper->Act->Prop
 |[],a=>Q a
 |o::rest,a=>∃v,(Region.wanted o (yielded ops a.tmps)=true->∀w,C w->o.quietAt P a C w v)/\wpSpec P ops C Q rest (a.put o.dst v)
theorem zX {Q:Act->Prop} {a:Act} (h:Q a):wpSpec P ops C Q [] a:=h
theorem qU {Q:Act->Prop} {a:Act} {o:Oper} {rest:List Oper}
 (h:∀K:Act->Prop,(∀a,wpSpec P ops C Q rest a->K a)->o.quiet P a C K):wpSpec P ops C Q (o::rest) a:=by
 obtain⟨v,h1,h2⟩:=h _ (fun _ h=>h);exact⟨v,fun _=>h1,h2⟩
structure Inv (ops:Array Oper) (k:Nat) (s r:Act):Prop where
 size:r.tmps.size=s.tmps.size
 defers:r.defers=s.defers
 dead:∀i o t,i<k->ops[i]?=some o->o.dst=some t->Region.wanted o (yielded ops r.tmps)=false->r.tmps.getD t undef=undef
 agree:∀t,r.tmps.getD t undef=s.tmps.getD t undef\/∃i o,i<k/\ops[i]?=some o/\o.dst=some t/\Region.wanted o (yielded ops r.tmps)=false
theorem qay {ops:Array Oper} {tmps:Array Value} {j:Nat} {d:Tmp} (h:(ops[j]?).bind (·.dst)=some d):
 yielded ops tmps j=match tmps.getD d undef with| .bool b=>some b|_=>none:=by
 unfold yielded;rw[h];simp only[Option.bind_some];by_cases hd:d<tmps.size
 · simp[hd];split<;>simp_all
 · simp[hd,undef]
theorem put_getD (a:Act) (d:Tmp) (v:Value) (t:Tmp):(a.put (some d) v).tmps.getD t undef=if d=t/\d<a.tmps.size then v else a.tmps.getD t undef:=by
 simp only[Act.put];by_cases h:d=t
 · subst h;by_cases hd:d<a.tmps.size
   · simp[hd]
   · simp[hd]
 · simp[h]
theorem put_size (a:Act) (d:Option Tmp) (v:Value):(a.put d v).tmps.size=a.tmps.size:=by
 cases d<;>simp[Act.put]
theorem put_defers (a:Act) (d:Option Tmp) (v:Value):(a.put d v).defers=a.defers:=by
 cases d<;>simp[Act.put]
theorem wI {k:Nat} {o:Oper} (h:specB ops=true) (hk:ops[k]?=some o):specAt ops k o=true:=by
 have hlt:k<ops.size:=(Array.getElem?_eq_some_iff.1 hk).1;have:=YE.1 h k (List.mem_range.2 hlt);rw[hk]at this;exact this
theorem specAt_sel {k:Nat} {o:Oper} (h:specAt ops k o=true):∀cs b,o.op≠.select cs b:=by
 intro cs b e;simp[specAt,e]at h
theorem specAt_guard {k j:Nat} {b:Bool} {o:Oper} (h:specAt ops k o=true) (hg:o.guard=some (j,b)):j<k/\∃d,(ops[j]?).bind (·.dst)=some d:=by
 simp only[specAt,hg,Yp,Yf]at h;exact⟨h.1.2.1,Yv.1 h.1.2.2⟩
theorem specAt_dst {k i:Nat} {o oi:Oper} {t:Tmp} (h:specAt ops k o=true) (hi:i<k) (hoi:ops[i]?=some oi) (ht:oi.dst=some t):o.dst≠some t:=by
 simp only[specAt,Yp]at h;have:=YE.1 h.2 i (List.mem_range.2 hi);simp only[hoi,ht,Yp,bne_iff_ne,ne_eq]at this;exact this.1
theorem specAt_read {k i:Nat} {o oi:Oper} {t:Tmp} {g:Nat×Bool} (h:specAt ops k o=true) (hi:i<k) (hoi:ops[i]?=some oi) (ht:oi.dst=some t) (hg:oi.guard=some g):
 (o.op.operands.any (qat t))=false\/mayRead ops k o g t=true:=by
 simp only[specAt,Yp]at h;have:=YE.1 h.2 i (List.mem_range.2 hi);simp only[hoi,ht,hg,Yp,Xm,Xo]at this;exact this.2
theorem qax {o:Oper} {j:Nat} {b:Bool} {y:Nat->Option Bool} (hg:o.guard=some (j,b)):Region.wanted o y=(y j==some b):=by
 simp[Region.wanted,hg]
theorem Inv.live {k:Nat} {s r:Act} (I:Inv ops k s r) (hB:specB ops=true) {j:Nat} {b:Bool} {oj:Oper} {d:Tmp} (hj:j<k) (hoj:ops[j]?=some oj) (hd:oj.dst=some d)
 (hy:yielded ops r.tmps j=some b):Region.wanted oj (yielded ops r.tmps)=true/\yielded ops s.tmps j=some b:=by
 have hb:(ops[j]?).bind (·.dst)=some d:=by rw[hoj];exact hd
 have hv:r.tmps.getD d undef=.bool b:=by
  rw[qay hb]at hy;split at hy
  · rename_i x hx;rw[hx];cases hy;rfl
  · cases hy
 have hlive:Region.wanted oj (yielded ops r.tmps)=true:=by
  cases hw:Region.wanted oj (yielded ops r.tmps)with
  |true=>rfl
  |false=>
   have:=I.dead j oj d hj hoj hd hw;rw[hv]at this;cases this
 refine⟨hlive,?_⟩;rcases I.agree d with he|⟨i,o,hi,ho,ht,hw⟩
 · rw[qay hb,<-he,hv]
 · have hij:i=j:=by
    rcases Nat.lt_trichotomy i j with h|h|h
    · exact absurd hd (specAt_dst (wI hB hoj) h ho ht)
    · exact h
    · exact absurd ht (specAt_dst (wI hB ho) h hoj hd)
   subst hij;have:o=oj:=YS (ho.symm.trans hoj)
   subst this;rw[hlive]at hw;cases hw
theorem Inv.chain {k:Nat} {s r:Act} (I:Inv ops k s r) (hB:specB ops=true):∀(f m:Nat) (o:Oper),ops[m]?=some o->m<=k->Region.wanted o (yielded ops r.tmps)=true->
 ∀g∈qbs ops f m,yielded ops r.tmps g.1=some g.2
 |0,_,_,_,_,_,_,hg=>by simp[qbs]at hg
 |f+1,m,o,ho,hm,hw,g,hg=>by
  unfold qbs at hg;rw[ho]at hg;simp only[Option.bind_some]at hg;cases hgo:o.guard with
  |none=>rw[hgo]at hg;simp at hg
  |some jb=>
   obtain⟨j,b⟩:=jb;rw[hgo]at hg;obtain⟨hjm,d,hd⟩:=specAt_guard (wI hB ho) hgo;have hy:yielded ops r.tmps j=some b:=by
    rw[qax hgo]at hw;exact eq_of_beq hw
   rcases Y0.1 hg with rfl|hg
   · exact hy
   · cases hoj:ops[j]? with
     |none=>rw[hoj]at hd;cases hd
     |some oj=>
      rw[hoj]at hd;exact Inv.chain I hB f j oj hoj DP (I.live hB DP hoj hd hy).1 g hg
theorem Inv.exec {k:Nat} {s r:Act} (I:Inv ops k s r) (hB:specB ops=true) {o:Oper} (ho:ops[k]?=some o) (hw:Region.wanted o (yielded ops r.tmps)=true):execOp r.eval o=execOp s.eval o:=by
 have hA:=wI hB ho;have hch:=I.chain hB ops.size k o ho (Yk _) hw;have key:∀x∈o.op.operands,r.eval x=s.eval x\/∃t g,x=.tmp t/\yielded ops r.tmps g.1≠some g.2/\(qbs ops ops.size k).contains g=false/\mayRead ops k o g t=true:=by
  intro x hx;cases x with
  |tmp t=>
   rcases I.agree t with he|⟨i,oi,hi,hoi,ht,hwi⟩
   · exact Or.inl he
   · right;cases hg:oi.guard with
     |none=>simp[Region.wanted,hg]at hwi
     |some g=>
      have hny:yielded ops r.tmps g.1≠some g.2:=by
       obtain⟨j,b⟩:=g;rw[qax hg]at hwi;simpa using hwi
      rcases specAt_read hA hi hoi ht hg with h|h
      · exfalso;have hnone:=Array.any_eq_false.1 h;obtain⟨n,hn,hxn⟩:=Array.mem_iff_getElem.1 hx;have:=hnone n hn;rw[hxn]at this;simp[qat]at this
      · refine⟨t,g,rfl,hny,?_,h⟩;cases hc:(qbs ops ops.size k).contains g with
        |false=>rfl
        |true=>exact absurd (hch g (by simpa using hc)) hny
  |const v=>exact Or.inl rfl
  |global g=>exact Or.inl rfl
  |func f=>exact Or.inl rfl
 by_cases hall:∀x∈o.op.operands,r.eval x=s.eval x
 · exact execOp_congr o (specAt_sel hA) hall
 · obtain⟨x,hx,hne⟩:=Classical.not_forall.1 hall |>.imp fun x h=>by simpa using h
   rcases key x hx with h|⟨t,g,rfl,hny,hnc,hm⟩
   · exact absurd h hne
   · simp only[mayRead,hnc,Bool.false_or]at hm;split at hm
     · rename_i c x' y' hop;obtain⟨dst,op,type,pos,after,guard⟩:=o;simp only at hop;subst hop;have hc:r.eval (.tmp c)=s.eval (.tmp c):=by
        rcases key (.tmp c) E7 with h|⟨t',g',ht',_,hnc',hm'⟩
        · exact h
        · injection ht' with ht'
          subst ht';simp only[mayRead,hnc',Bool.false_or,bne_self_eq_false,Bool.false_and]at hm';cases hm'
       have side:∀(z:Operand) (b:Bool),z∈(Op.pick (.tmp c) x' y').operands->(z=x'/\b=true\/z=y'/\b=false)->r.eval (.tmp c)=.bool b->r.eval z=s.eval z:=by
        intro z b hz hzb hcb;rcases key z hz with h|⟨t',g',rfl,hny',hnc',hm'⟩
        · exact h
        · exfalso;simp only[mayRead,hnc',Bool.false_or,Yp,beq_iff_eq,Xm,Xo]at hm';obtain⟨⟨⟨_,hd⟩,h1⟩,h2⟩:=hm';apply hny';rw[qay hd];have:r.tmps.getD c undef=.bool b:=hcb
          rw[this];rcases hzb with⟨rfl,rfl⟩|⟨rfl,rfl⟩
          · rcases h1 with h1|h1
            · simp[qat]at h1
            · simp[h1]
          · rcases h2 with h2|h2
            · simp[qat]at h2
            · simp[h2]
       simp only[execOp];rw[<-hc];cases hv:r.eval (.tmp c)with
       |bool b=>
        cases b with
        |true=>
         have:=side x' true E7 (Or.inl ⟨rfl,rfl⟩) hv;simp[asBool,this]
        |false=>
         have:=side y' false E7 (Or.inr ⟨rfl,rfl⟩) hv;simp[asBool,this]
       |_=>rfl
     · cases hm
def Agree (ops:Array Oper) (s r:Act):Prop:=
 r.tmps.size=s.tmps.size/\r.defers=s.defers/\∀t,r.tmps.getD t undef=s.tmps.getD t undef\/∃o∈ops.toList,o.dst=some t/\o.guard.isSome=true
theorem Inv.done {k:Nat} {s r:Act} (I:Inv ops k s r):Agree ops s r:=
 ⟨I.size,I.defers,fun t=>(I.agree t).imp id fun⟨i,o,_,ho,ht,hw⟩=>⟨o,YI (by rw[Array.getElem?_toList];exact ho),ht,by
  cases hg:o.guard with
  |none=>simp[Region.wanted,hg]at hw
  |some _=>rfl⟩⟩
theorem Inv.start (a:Act):Inv ops 0 a a:=⟨rfl,rfl,fun _ _ _ hi=>absurd hi (Nat.not_lt_zero _),fun _=>Or.inl rfl⟩
theorem yielded_put {r:Act} {j:Nat} {d:Tmp} {v:Value} (h:∀oj,ops[j]?=some oj->oj.dst≠some d):yielded ops (r.put (some d) v).tmps j=yielded ops r.tmps j:=by
 unfold yielded;cases hj:ops[j]? with
 |none=>rfl
 |some oj=>
  simp only[Option.bind_some];cases hd:oj.dst with
  |none=>rfl
  |some d'=>
   have hne:d≠d':=fun e=>h oj hj (by rw[hd,e])
   simp[Act.put,hne]
theorem wanted_stays {r:Act} (hB:specB ops=true) {k i:Nat} {o oi:Oper} {v:Value} (ho:ops[k]?=some o) (hoi:ops[i]?=some oi) (hi:i<=k):
 Region.wanted oi (yielded ops (r.put o.dst v).tmps)=Region.wanted oi (yielded ops r.tmps):=by
 cases hd:o.dst with
 |none=>rfl
 |some d=>
  unfold Region.wanted;cases hg:oi.guard with
  |none=>rfl
  |some g=>
   obtain⟨j,b⟩:=g;have hjk:j<k:=Xs (specAt_guard (wI hB hoi) hg).1 hi;simp only;rw[yielded_put fun oj hoj e=>specAt_dst (wI hB ho) hjk hoj e hd]
theorem Inv.next {k:Nat} {s r:Act} (I:Inv ops k s r) (hB:specB ops=true) {o:Oper} (ho:ops[k]?=some o) (u v:Value)
 (huv:u=v\/(Region.wanted o (yielded ops r.tmps)=false/\u=undef)) (hdead:Region.wanted o (yielded ops r.tmps)=false->u=undef):Inv ops (k+1) (s.put o.dst v) (r.put o.dst u):=by
 refine⟨by rw[put_size,put_size,I.size],by rw[put_defers,put_defers,I.defers],?_,?_⟩
 · intro i oi t hi hoi ht hw;rw[wanted_stays hB ho hoi DP]at hw;cases hd:o.dst with
   |none=>
    have hik:i<k:=by
     rcases Nat.lt_or_ge i k with h|h
     · exact h
     · have:i=k:=by omega
       subst this;have:oi=o:=YS (hoi.symm.trans ho)
       subst this;rw[hd]at ht;cases ht
    exact I.dead i oi t hik hoi ht hw
   |some d=>
    rw[put_getD];split
    · rename_i hc;rcases Nat.lt_or_ge i k with h|h
      · exact absurd (by rw[hd,hc.1]) (specAt_dst (wI hB ho) h hoi ht)
      · have:i=k:=by omega
        subst this;have:oi=o:=YS (hoi.symm.trans ho)
        subst this;exact hdead hw
    · rename_i hc;rcases Nat.lt_or_ge i k with h|h
      · exact I.dead i oi t h hoi ht hw
      · have:i=k:=by omega
        subst this;have:oi=o:=YS (hoi.symm.trans ho)
        subst this;have hdt:d=t:=by rw[hd]at ht;exact YS ht
        have:¬d<r.tmps.size:=fun h'=>hc ⟨hdt,h'⟩
        subst hdt;simp[this]
 · intro t;cases hd:o.dst with
   |none=>
    rcases I.agree t with h|⟨i,oi,hi,hoi,ht,hw⟩
    · exact Or.inl h
    · exact Or.inr ⟨i,oi,by omega,hoi,ht,hw⟩
   |some d=>
    rw[put_getD,put_getD,I.size];by_cases hc:d=t/\d<s.tmps.size
    · rw[Yi hc,Yi hc];rcases huv with h|⟨h,_⟩
      · exact Or.inl h
      · refine Or.inr ⟨k,o,by omega,ho,by rw[hd,hc.1],?_⟩;have:=wanted_stays (r:=r) (v:=u) hB ho ho (Yk k);rw[hd]at this;rw[this];exact h
    · rw[Yc hc,Yc hc];rcases I.agree t with h|⟨i,oi,hi,hoi,ht,hw⟩
      · exact Or.inl h
      · refine Or.inr ⟨i,oi,by omega,hoi,ht,?_⟩;have:=wanted_stays (r:=r) (v:=u) hB ho hoi DP;rw[hd]at this;rw[this];exact hw
theorem jo {Qs Q:Act->Prop} (hB:specB ops=true) (hQ:∀s r,Agree ops s r->Qs s->Q r):∀(l:List Oper) (k:Nat) (s r:Act),(∀j,j<l.length->l[j]?=ops[k+j]?)->Inv ops k s r->
 wpSpec P ops C Qs l s->wpQuiet P ops C Q l r
 |[],_,s,r,_,I,h=>hQ s r I.done h
 |o::l,k,s,r,hl,I,⟨v,h1,h2⟩=>by
  have ho:ops[k]?=some o:=by simpa using(hl 0 DQ).symm
  have hl':∀j,j<l.length->l[j]?=ops[(k+1)+j]?:=fun j hj=>by have:=hl (j+1) (by simpa using hj);simpa [Nat.add_assoc,Nat.add_comm 1 j]using this
  unfold wpQuiet;by_cases hw:Region.wanted o (yielded ops r.tmps)=true
  · rw[Yi hw];have hex:=I.exec hB ho hw;have hws:Region.wanted o (yielded ops s.tmps)=true:=by
     cases hg:o.guard with
     |none=>simp[Region.wanted,hg]
     |some g=>
      obtain⟨j,b⟩:=g;obtain⟨hjk,d,hd⟩:=specAt_guard (wI hB ho) hg;cases hoj:ops[j]? with
      |none=>rw[hoj]at hd;cases hd
      |some oj=>
       rw[hoj]at hd;have hy:yielded ops r.tmps j=some b:=by rw[qax hg]at hw;exact eq_of_beq hw
       rw[qax hg,(I.live hB hjk hoj hd hy).2];simp
    refine⟨v,fun w hCw=>?_,jo hB hQ l (k+1) _ _ hl' (I.next hB ho v v (Or.inl rfl) fun h=>by rw[hw]at h;cases h) h2⟩;have:=h1 hws w hCw;unfold Oper.quietAt at*;rwa [hex]
  · rw[Yc hw];have hw':Region.wanted o (yielded ops r.tmps)=false:=by simpa using hw
    exact jo hB hQ l (k+1) _ _ hl' (I.next hB ho undef v (Or.inr ⟨hw',rfl⟩) fun _=>rfl) h2
def junk (us:Nat->Value):List Oper->Act->Act
 |[],a=>a
 |o::l,a=>junk us l (match o.guard,o.dst with|some _,some d=>a.put (some d) (us d)|_,_=>a)
theorem junk_size (us:Nat->Value):∀(l:List Oper) (a:Act),(junk us l a).tmps.size=a.tmps.size/\(junk us l a).defers=a.defers
 |[],_=>⟨rfl,rfl⟩
 |o::l,a=>by
  unfold junk;have:=junk_size us l (match o.guard,o.dst with|some _,some d=>a.put (some d) (us d)|_,_=>a);rw[this.1,this.2];split<;>simp[put_size,put_defers]
theorem junk_getD (us:Nat->Value) (t:Tmp):∀(l:List Oper) (a:Act),(∀d,d<a.tmps.size->a.tmps.getD t undef=us t\/True)->
 (junk us l a).tmps.getD t undef=if(∃o∈l,o.dst=some t/\o.guard.isSome=true)/\t<a.tmps.size then us t else a.tmps.getD t undef
 |[],a,_=>by simp[junk]
 |o::l,a,_=>by
  unfold junk;rw[junk_getD us t l _ (fun _ _=>Or.inr trivial)];cases hg:o.guard with
  |none=>simp[hg]
  |some g=>
   cases hd:o.dst with
   |none=>simp[hd]
   |some d=>
    simp only[put_size,put_getD];by_cases hdt:d=t
    · subst hdt;by_cases hlt:d<a.tmps.size
      · simp[hlt,hg,hd]
      · simp[hlt]
    · have:¬(some d=some t):=fun e=>hdt (YS e)
      simp[hdt,hd]
theorem getD_at (xs:Array Value) (t:Nat) (h:t<xs.size):xs[t]=xs.getD t undef:=by simp[h]
theorem wh {l:List Oper} {s r:Act} (h:Agree l.toArray s r):∃us,r=junk us l s:=by
 refine⟨fun t=>r.tmps.getD t undef,?_⟩;obtain⟨h1,h2,h3⟩:=h;have hs:=junk_size (fun t=>r.tmps.getD t undef) l s;have:r.tmps=(junk (fun t=>r.tmps.getD t undef) l s).tmps:=by
  apply Array.ext
  · rw[hs.1,h1]
  · intro t ht ht';have hj:=junk_getD (fun t=>r.tmps.getD t undef) t l s (fun _ _=>Or.inr trivial);refine(getD_at _ t ht).trans (Eq.trans ?_ (getD_at _ t ht').symm);rw[hj];by_cases hc:(∃o∈l,o.dst=some t/\o.guard.isSome=true)/\t<s.tmps.size
    · rw[Yi hc]
    · rw[Yc hc];rcases h3 t with h|⟨o,ho,hd,hg⟩
      · exact h
      · exact absurd ⟨⟨o,by simpa using ho,hd,hg⟩,by rw[<-h1];exact ht⟩ hc
 obtain⟨rt,rd⟩:=r;have e:(junk (fun t=>rt.getD t undef) l s)=⟨(junk (fun t=>rt.getD t undef) l s).tmps,(junk (fun t=>rt.getD t undef) l s).defers⟩:=rfl;rw[e,<-this,hs.2,<-h2]
theorem wd {Q:Act->Prop} {Q':Exit->Act->World->Prop} (hQ:∀a w,C w->Q a->Q' .normal a w):∀(l:List Oper) (a:Act) (w:World),C w->wpQuiet P ops C Q l a->wpList P ops Q' l a w
 |[],a,w,hC,h=>hQ a w hC h
 |o::l,a,w,hC,h=>by
  unfold wpQuiet at h;unfold wpList;split
  · rename_i hw;rw[Yi hw]at h;exact Or.inl (Oper.wp_of_quiet hC (fun a' w' hC' h'=>wd hQ l a' w' hC' h') h)
  · rename_i hw;rw[Yc hw]at h;exact wd hQ l _ w hC h
end
section
variable {P:Program} {ops:Array Oper} {md:Region.Mode} {C:World->Prop}
def headAny (P:Program) (md:Region.Mode) (ops:Array Oper) (C:World->Prop) (n:Nat) (L:Array Bool->Act->Prop):Nat->Array Bool->Act->Prop
 |0,ls,a=>L ls a
 |f+1,ls,a=>Region.ready md ops ls≠[]/\∀i∈Region.ready md ops ls,i<n/\qOp P ops C i (headAny P md ops C n L f (ls.setIfInBounds i true)) a
theorem any_of_head {n g:Nat} {L:Array Bool->Act->Prop} {Q:Exit->Act->World->Prop} (hL:∀ls a w,C w->L ls a->wpAny P md ops Q g ls a w):
 ∀(f:Nat) (ls:Array Bool) (a:Act) (w:World),C w->headAny P md ops C n L f ls a->wpAny P md ops Q (f+g) ls a w:=by
 intro f
 induction f with
 |zero=>intro ls a w hw h;rw[Xk];exact hL _ _ _ hw h
 |succ f ih=>
  intro ls a w hw h;rw[Nat.succ_add];exact⟨fun h0=>absurd h0 h.1,fun i hi=>wpOp_of_qOp hw (fun a' w' hw' h'=>ih _ a' w' hw' h') (h.2 i hi).2⟩
theorem ready_head {n i j:Nat} {ls:Array Bool} (hs:Region.sinkB md ops n=true) (hc:Region.chainB md ops n=true) (hn:n<ops.size) (I:HeadInv md ops n ls) (hi:i<n)
 (hun:ls.getD i true=false) (hj:j∈Region.ready md ops ls):j<n:=by
 rcases Nat.lt_or_ge j n with h|h
 · exact h
 · exact absurd hj (tail_waits hs hc hn I _ i rfl hi hun j h)
theorem head_first {n i:Nat} {oi:Oper} {v:Value} {L:Array Bool->Act->Prop} (hi:ops[i]?=some oi) (hsel:∀(j:Nat) (o:Oper) cs b,ops[j]?=some o->o.op≠.select cs b)
 (hs:Region.sinkB md ops n=true) (hc:Region.chainB md ops n=true) (hn:n<ops.size) (hin:i<n) (hdone:∀ls a,L ls a->∀j∈Region.ready md ops ls,n<=j) (f:Nat):
 ∀(ls:Array Bool) (a:Act),HeadInv md ops n ls->
  (∀j oj,ops[j]?=some oj->j≠i->ls.getD j true=false->(∀e∈oj.after,Region.binds md e=true->e.on≠i)->oi.apart ops oj=true)->
  i∈Region.ready md ops ls->YieldsIn P ops C oi v a->headAny P md ops C n L f (ls.setIfInBounds i true) (a.put oi.dst v)->headAny P md ops C n L (f+1) ls a:=by
 induction f with
 |zero=>
  intro ls a I _ hr hy h;have hun:=(mem_ready.1 hr).1;refine⟨List.ne_nil_of_mem hr,fun j hj=>⟨ready_head hs hc hn I hin hun hj,?_⟩⟩;by_cases hji:j=i
  · subst hji;exact hy.qOp hi h
  · have h1:=hdone _ _ h j (ready_mono hj hji);have h2:=ready_head hs hc hn I hin hun hj;omega
 |succ f ih=>
  intro ls a I hfree hr hy h;have hun:=(mem_ready.1 hr).1;refine⟨List.ne_nil_of_mem hr,fun j hj=>?_⟩;have hjn:=ready_head hs hc hn I hin hun hj;refine⟨hjn,?_⟩;by_cases hji:j=i
  · subst hji;exact hy.qOp hi h
  · have hq:=(h.2 j (ready_mono hj hji)).2;obtain⟨hjun,oj,hoj,hdone_j⟩:=mem_ready.1 hj;have hnot:∀e∈oj.after,Region.binds md e=true->e.on≠i:=by
     intro e he hb hei;have h1:=hdone_j e he hb;rw[hei,getD_both hun]at h1;cases h1
    have hq2:=qOp_put hoj (hfree j oj hoj hji hjun hnot) (fun cs b=>hsel i oi cs b hi) (fun cs b=>hsel j oj cs b hoj) hy hq;refine qOp_mono (fun a' h'=>ih (ls.setIfInBounds j true) a' (I.set hj hjn) ?_ (ready_mono hr (Ne.symm hji)) h'.1 ?_) hq2
    · intro k ok hk hki hkun hno;refine hfree k ok hk hki ?_ hno;by_cases hjk:j=k
      · subst hjk;exact hjun
      · rwa [getD_set_ne true hjk]at hkun
    · rw[Array.setIfInBounds_comm _ _ hji];exact h'.2
theorem head_lex {n g:Nat} {Lq:Act->Prop} (hsel:Region.noSelect ops=true) (hs:Region.sinkB md ops n=true) (hc:Region.chainB md ops n=true) (hn:n<ops.size):
 ∀(l:List Oper) (k:Nat) (ls:Array Bool) (a:Act),(∀j,j<l.length->l[j]?=ops[k+j]?)->k+l.length=n->HeadInv md ops n ls->
  Region.lexHead md ops g l.length k ls=true->wpQuiet P ops C Lq l a->headAny P md ops C n (fun ls' a'=>Region.seqB md ops g n ls'=true/\Lq a') l.length ls a:=by
 intro l
 induction l with
 |nil=>
  intro k ls a _ hk _ hB h;obtain rfl:k=n:=by simpa using hk
  exact⟨by simpa [Region.lexHead]using hB,h⟩
 |cons o l ih=>
  intro k ls a hl hk I hB h;have ho:ops[k]?=some o:=by simpa using(hl 0 DQ).symm
  simp only[Yg,Region.lexHead,Yp]at hB;have hkn:k<n:=by simp only[Yg]at hk;omega
  have hr:k∈Region.ready md ops ls:=by simpa using hB.1.1
  have hq:qOp P ops C k (wpQuiet P ops C Lq l) a:=by unfold qOp;simp only[ho];exact h
  obtain⟨v,hy,hK⟩:=yieldsIn_of_qOp ho hq;refine head_first ho (Region.noSelect_spec hsel) hs hc hn hkn (fun ls' a' hL=>seqB_ready hL.1) l.length ls a I (Region.free_spec ho hB.1.2) hr hy ?_;exact ih (k+1) _ _ (fun j hj=>by have:=hl (j+1) (by simpa using hj);simpa [Nat.add_assoc,Nat.add_comm 1 j]using this) (by simp only[Yg]at hk;omega) (I.set hr hkn) hB.2 hK
theorem wp_region_tail {id:Nat} {Q:Exit->Act->World->Prop} {a:Act} {w:World} {l:List Oper} (n:Nat) (hm:P.follows .mixedOrders=true) (hB:Region.lexTailB .any l.toArray n=true) (hC:C {w with drawn:=w.drawn+1})
 (h:wpQuiet P l.toArray C (fun a'=>∀w',C w'->wpList P l.toArray Q (l.drop n) a' w') (l.take n) a):(Code.region id l.toArray true).wp P Q a w:=by
 simp only[Region.lexTailB,Yp,Yf]at hB;obtain⟨⟨⟨⟨hsel,hn⟩,hs⟩,hc⟩,hlex⟩:=hB;have hn':n<l.length:=by simpa using hn
 have htl:(l.take n).length=n:=by simp;omega
 have hdl:(l.drop n).length=l.toArray.size-n:=by simp
 have I0:HeadInv .any l.toArray n (Array.replicate l.toArray.size false):=
  ⟨by simp,fun j oj _ hj=>(by rw[getD_replicate_false]at hj;cases hj),fun t _ ht=>getD_in (by simpa using ht) (getD_replicate_false _ _)⟩
 have H:=head_lex (md:=.any) (g:=l.toArray.size-n) hsel hs hc hn (l.take n) 0 _ a (fun j hj=>by
  have hj':j<n:=by rw[htl]at hj;exact hj
  simp[hj']) (by simpa using htl) I0 (by rw[htl];exact hlex) h
 have hfin:=any_of_head (Q:=Q) (g:=l.toArray.size-n) (fun ls a' w' hw' hL=>by
  have:=wpAny_of_seq (md:=.any) (Q':=Q) (l.drop n) n ls a' w' (fun j=>by simp[YV]) (by rw[hdl];exact hL.1) (hL.2 w' hw');rwa [hdl]at this) _ _ _ {w with drawn:=w.drawn+1} hC H
 rw[htl,show n+(l.toArray.size-n)=l.toArray.size by omega]at hfin;exact wp_region_any hm hfin
theorem qbk {l₂:List Oper} {Q:Exit->Act->World->Prop} {Qm:Act->Prop} (hQ:∀a w,C w->Qm a->wpList P ops Q l₂ a w):∀(l:List Oper) (a:Act) (w:World),C w->wpQuiet P ops C Qm l a->wpList P ops Q (l++l₂) a w
 |[],a,w,hC,h=>hQ a w hC h
 |o::l,a,w,hC,h=>by
  unfold wpQuiet at h;rw[Y5];unfold wpList;split
  · rename_i hw;rw[Yi hw]at h;exact Or.inl (Oper.wp_of_quiet hC (fun a' w' hC' h'=>qbk hQ l a' w' hC' h') h)
  · rename_i hw;rw[Yc hw]at h;exact qbk hQ l _ w hC h
end
theorem qaI {P:Program} {id:Nat} {Q:Exit->Act->World->Prop} {a:Act} {w:World} {l:List Oper} (hS:specB l.toArray=true)
 (h:wpSpec P l.toArray (fun w'=>w'=w) (fun a'=>∀us,Q .normal (junk us l a') w) l a):(Code.region id l.toArray false).wp P Q a w:=by
 refine wp_region_lit (wd (C:=fun w'=>w'=w) (Q:=fun a'=>Q .normal a' w) (fun a' w' hw' h'=>by subst hw';exact h') l a w rfl ?_);refine jo hS (fun s r hA hs=>?_) l 0 a a DQ (Inv.start a) h;obtain⟨us,rfl⟩:=wh hA;exact hs us
theorem wp_spec_ext {P:Program} {id:Nat} {Q:Exit->Act->World->Prop} {a:Act} {w:World} {l:List Oper} (hS:specB l.toArray=true)
 (h:wpSpec P l.toArray (fun w'=>∃d,w'=ext w d) (fun a'=>∀us w',Below w.heap.size w w'->Q .normal (junk us l a') w') l a):(Code.region id l.toArray false).wp P Q a w:=by
 refine wp_region_lit (wd (C:=fun w'=>∃d,w'=ext w d) (Q:=fun a'=>∀w',Below w.heap.size w w'->Q .normal a' w') (fun a' w' ⟨d,hd⟩ h'=>h' w' (hd▸wg w d)) l a w ⟨w,(ext_of (Below.refl _ _)).symm⟩ ?_);refine jo hS (fun s r hA hs=>?_) l 0 a a DQ (Inv.start a) h;obtain⟨us,rfl⟩:=wh hA;exact hs us
theorem qaz {P:Program} {id:Nat} {Q:Exit->Act->World->Prop} {a:Act} {w:World} {l:List Oper} (hm:P.follows .mixedOrders=true) (hB:Region.lexB .any l.toArray=true) (hS:specB l.toArray=true)
 (h:wpSpec P l.toArray (fun w'=>∃d,w'=ext w d) (fun a'=>∀us w',Below w.heap.size w w'->Q .normal (junk us l a') w') l a):(Code.region id l.toArray true).wp P Q a w:=by
 refine wp_region_ext hm hB ?_;refine jo hS (fun s r hA hs=>?_) l 0 a a DQ (Inv.start a) h;obtain⟨us,rfl⟩:=wh hA;exact hs us
theorem wp_spec_tail {P:Program} {id:Nat} {Q:Exit->Act->World->Prop} {a:Act} {w:World} {l:List Oper} (n:Nat) (hS:specB l.toArray=true)
 (h:wpSpec P l.toArray (fun w'=>∃d,w'=ext w d) (fun a'=>∀us w',Below w.heap.size w w'->wpList P l.toArray Q (l.drop n) (junk us l a') w') (l.take n) a):(Code.region id l.toArray false).wp P Q a w:=by
 refine wp_region_lit ?_
 have key:=qbk (C:=fun w'=>∃d,w'=ext w d) (P:=P) (ops:=l.toArray) (Q:=Q) (l₂:=l.drop n) (Qm:=fun a'=>∀w',Below w.heap.size w w'->wpList P l.toArray Q (l.drop n) a' w')
  (fun a' w' ⟨d,hd⟩ h'=>h' w' (hd▸wg w d)) (l.take n) a w ⟨w,(ext_of (Below.refl _ _)).symm⟩ ?_
 · rwa [Xq]at key
 · refine jo hS (fun s r hA hs=>?_) (l.take n) 0 a a (fun j hj=>?_) (Inv.start a) h
   · obtain⟨us,rfl⟩:=wh hA;exact hs us
   · have hj':j<n:=by simp at hj;omega
     simp[hj']
theorem wp_spec_draw_tail {P:Program} {id:Nat} {Q:Exit->Act->World->Prop} {a:Act} {w:World} {l:List Oper} (n:Nat) (hm:P.follows .mixedOrders=true) (hB:Region.lexTailB .any l.toArray n=true) (hS:specB l.toArray=true)
 (h:wpSpec P l.toArray (fun w'=>∃d,w'=ext w d) (fun a'=>∀us w',Below w.heap.size w w'->wpList P l.toArray Q (l.drop n) (junk us l a') w') (l.take n) a):(Code.region id l.toArray true).wp P Q a w:=by
 refine wp_region_tail (C:=fun w'=>∃d,w'=ext w d) n hm hB ⟨_,(ext_of (Below.refl _ w).drew).symm⟩ ?_;refine jo hS (fun s r hA hs=>?_) (l.take n) 0 a a (fun j hj=>?_) (Inv.start a) h
 · obtain⟨us,rfl⟩:=wh hA;exact fun w' ⟨d,hd⟩=>hs us w' (hd▸wg w d)
 · have hj':j<n:=by simp at hj;omega
   simp[hj']
end
section
open Go.RowKit
section
variable {P:Program} {ops:Array Oper} {md:Region.Mode} {Q:Exit->Act->World->Prop}
def readB (o:Oper):Bool:=match o.op with
 | .move _| .assign _| .pick ..| .load ..| .binOp ..| .unOp ..| .convert ..| .field ..| .fieldAddr ..| .indexAddr ..| .index ..| .slice ..| .build ..| .makeFunc ..| .lookup ..| .extract ..=>true
 | .call c=>match c.callee with| .builtin .len| .builtin .min| .builtin .max| .builtin .cap=>true|_=>false
 |_=>false
theorem value_of {s:Sem Value} {w w':World} {n:Next} (h:(do pure (.value (<-s)):Sem Next).run P w=.ok n w'):∃u,n=.value u:=by
 rw[YG]at h;cases hs:s.run P w with
 |ok v w1=>rw[hs]at h;simp only[Ys,YR,Result.ok.injEq]at h;exact⟨v,h.1.symm⟩
 |halt x w1=>rw[hs]at h;cases h
theorem read_value {ρ:Operand->Value} {o:Oper} (h:readB o=true) {w w':World} {n:Next} (hr:(execOp ρ o).run P w=.ok n w'):∃u,n=.value u:=by
 unfold execOp at hr;unfold readB at h;cases ho:o.op<;>simp only[ho]at h hr<;>first|(cases h;done)|exact value_of hr|skip
 case move=>simp only[YR,Result.ok.injEq]at hr;exact⟨_,hr.1.symm⟩
 case assign=>simp only[YR,Result.ok.injEq]at hr;exact⟨_,hr.1.symm⟩
 case pick c x y=>
  rw[YG]at hr;cases hs:(asBool (ρ c)).run P w with
  |ok v w1=>rw[hs]at hr;simp only[Ys,YR,Result.ok.injEq]at hr;exact⟨_,hr.1.symm⟩
  |halt x w1=>rw[hs]at hr;cases hr
 case call c=>
  cases hc:c.callee with
  |builtin b=>
   rw[hc]at h;unfold resolve at hr;simp only[hc]at hr;simp only[YG,YR,Ys,invoke]at hr;cases b<;>simp only at h<;>first|(cases h;done)|exact value_of hr
  |invoke _ _=>rw[hc]at h;cases h
  |value _=>rw[hc]at h;cases h
def qaQ (md:Region.Mode) (ops:Array Oper):List (Nat×Bool)->Array Bool->Bool
 |[],ls=>(Region.ready md ops ls).isEmpty
 |(i,b)::r,ls=>(if b then Region.free md ops ls i&&(Region.ready md ops ls).contains i else Region.ready md ops ls==[i])&&qaQ md ops r (ls.setIfInBounds i true)
theorem wpAnyH_weak {S S':World->Prop} (hS:∀x,S' x->S x):∀(f:Nat) (ls:Array Bool) (a:Act) (w:World),wpAnyH P md ops Q S' f ls a w->wpAnyH P md ops Q S f ls a w
 |0,_,_,_,h=>h
 |f+1,_,_,_,h=>⟨h.1,fun i hi=>wpOp_mono (fun a' w' h'=>⟨hS _ h'.1,wpAnyH_weak hS f _ a' w' h'.2⟩) (h.2 i hi)⟩
theorem qI {B:Nat} {w w':World} (h:Below B w w'):Below B w.drew w':=⟨h.os,h.tape,h.output,h.size,h.block⟩
end
def nthO:List Oper->Nat->Option Oper
 |o::_,0=>some o
 |_::l,n+1=>nthO l n
 |[],_=>none
theorem jB:∀(l:List Oper) (i:Nat),l.toArray[i]?=nthO l i
 |[],i=>by simp[nthO]
 |o::l,0=>by simp[nthO]
 |o::l,i+1=>by have:=jB l i;simpa [nthO]using this
section
variable {P:Program} {l:List Oper} {Q:Exit->Act->World->Prop} {i:Nat} {r:List (Nat×Bool)} {a:Act} {w:World} {o:Oper}
end
open Classical in
noncomputable def extB (B:Nat) (w d:World):World:=if Below B w d then d else w
theorem extB_below (B:Nat) (w d:World):Below B w (extB B w d):=by
 unfold extB;split
 · assumption
 · exact Below.refl _ _
theorem extB_of {B:Nat} {w w':World} (h:Below B w w'):extB B w w'=w':=by unfold extB;rw[if_pos h]
theorem extB_self (B:Nat) (w:World):∃d,w=extB B w d:=⟨w,(extB_of (Below.refl _ _)).symm⟩
theorem extB_weak {B:Nat} {w w':World} (h:Below B w w'):∀x,(∃d,x=extB B w' d)->∃d,x=extB B w d:=fun x ⟨d,hx⟩=>by
 refine⟨x,(extB_of ?_).symm⟩;rw[hx];exact h.trans (extB_below B w' d)
section
variable {P:Program} {ops:Array Oper} {md:Region.Mode} {Q:Exit->Act->World->Prop} {B:Nat}
def wj (B:Nat) (P:Program) (ops:Array Oper) (Q:Exit->Act->World->Prop):List (Nat×Bool)->Act->World->Prop
 |[],a,w=>Q .normal a w
 |(i,true)::r,a,w=>∃o v,ops[i]?=some o/\YieldsIf P ops (fun x=>∃d,x=extB B w d) o v a/\wj B P ops Q r (a.put o.dst v) w
 |(i,false)::r,a,w=>wpOp P ops Q i (fun a' w'=>Below B w w'/\wj B P ops Q r a' w') a w
theorem qbi (hs:Region.noSelect ops=true) (hQ:∀c a d v w,Q (.panic c) (a.put d v) w->Q (.panic c) a w):∀(r:List (Nat×Bool)) (ls:Array Bool) (a:Act) (w:World),
 qaQ md ops r ls=true->wj B P ops Q r a w->wpAnyH P md ops Q (fun x=>∃d,x=extB B w d) r.length ls a w
 |[],ls,a,w,hB,h=>⟨by simpa [qaQ]using hB,h⟩
 |(i,true)::r,ls,a,w,hB,h=>by
  obtain⟨o,v,ho,hy,hr⟩:=h;simp only[qaQ,if_true,Yp]at hB;exact wpAnyH_take ho hs hB.1.1 hB.1.2 (fun c a w h=>hQ c a _ _ w h) hy (extB_self B w) (qbi hs hQ r _ _ w hB.2 hr)
 |(i,false)::r,ls,a,w,hB,h=>by
  simp only[qaQ,YC,if_false,Yp,beq_iff_eq]at hB;refine wpAnyH_all hB.1 DQ fun j hj=>?_
  obtain rfl:j=i:=by simpa using hj
  exact wpOp_mono (fun a' w' h'=>⟨⟨w',(extB_of h'.1).symm⟩,wpAnyH_weak (extB_weak h'.1) _ _ _ _ (qbi hs hQ r _ _ _ hB.2 h'.2)⟩) h
end
theorem wp_region_moveB (B:Nat) {P:Program} {id:Nat} {Q:Exit->Act->World->Prop} {a:Act} {w:World} {l:List Oper} (order:List (Nat×Bool)) (hm:P.follows .mixedOrders=true) (hs:Region.noSelect l.toArray=true)
 (hB:(qaQ .any l.toArray order (Array.replicate l.toArray.size false)&&order.length==l.toArray.size)=true)
 (h:wj B P l.toArray (NoPanic Q) order a w.drew):(Code.region id l.toArray true).wp P Q a w:=by
 simp only[Yp,beq_iff_eq]at hB;refine wp_region_noPanic (wp_region_held (S:=fun x=>∃d,x=extB B w.drew d) hm ?_);have:=qbi (md:=.any) (Q:=NoPanic Q) hs (fun _ _ _ _ _ h=>h) order _ a w.drew hB.1 h;rw[hB.2]at this;exact this
section
variable {B:Nat} {P:Program} {l:List Oper} {Q:Exit->Act->World->Prop} {i:Nat} {r:List (Nat×Bool)} {a:Act} {w:World} {o:Oper}
theorem moveB_done (h:Q .normal a w):wj B P l.toArray (NoPanic Q) [] a w:=h
theorem moveB_read (hi:nthO l i=some o) (hr:readB o=true) (hw:Region.wanted o (yielded l.toArray a.tmps)=true) (h:∀K:Act->Prop,(∀a,wj B P l.toArray Q r a w->K a)->o.quiet P a (fun x=>∃d,x=extB B w d) K):wj B P l.toArray Q ((i,true)::r) a w:=by
 obtain⟨v,h1,h2⟩:=h _ (fun _ h=>h);refine⟨o,v,(jB l i).trans hi,Or.inl ⟨hw,fun x hx=>?_⟩,h2⟩;have h3:=h1 x hx;unfold Oper.quietAt at h3;cases he:(execOp a.eval o).run P x with
 |halt y w1=>rw[he]at h3;exact h3.elim
 |ok n w1=>
  obtain⟨u,rfl⟩:=read_value hr he;rw[he]at h3;obtain⟨rfl,rfl⟩:=h3;rfl
theorem moveB_skip {b:Bool} (hi:nthO l i=some o) (hw:Region.wanted o (yielded l.toArray a.tmps)=false) (h:wj B P l.toArray Q r (a.put o.dst undef) w):wj B P l.toArray Q ((i,b)::r) a w:=by
 cases b with
 |true=>exact⟨o,undef,(jB l i).trans hi,Or.inr ⟨hw,rfl⟩,h⟩
 |false=>
  unfold wj wpOp;rw[(jB l i).trans hi];simp only[hw,YC,if_false];exact⟨Below.refl _ _,h⟩
theorem moveB_act (hi:nthO l i=some o) (hw:Region.wanted o (yielded l.toArray a.tmps)=true)
 (h:∀Q':Exit->Act->World->Prop,Hid (∀a' w',Below B w w'->wj B P l.toArray Q r a' w'->Q' .normal a' w')->wpList P l.toArray Q' [o] a w):wj B P l.toArray Q ((i,false)::r) a w:=by
 have h1:=h (fun e a' w'=>match e with| .normal=>Below B w w'/\wj B P l.toArray Q r a' w'|e=>Q e a' w') (hide fun a' w' hb hr=>⟨hb,hr⟩);unfold wj wpOp;rw[(jB l i).trans hi];simp only[hw,if_true];unfold wpList at h1;simp only[hw,if_true]at h1;rcases h1 with h1|⟨h1,h2⟩
 · left;unfold Oper.wp at*;generalize (execOp a.eval o).run P w=res at*;cases res with
   |ok n w'=>
    cases n<;>simp only[Oper.upon]at h1⊢<;>
     first
      |exact h1
      |exact Calls.mono h1 (fun e w'' he=>by cases e<;>exact he)
      |exact Rows.mono h1 (fun _ _ he=>he)
   |halt x w'=>cases x<;>simp only[Oper.upon]at h1⊢<;>exact h1
 · exact Or.inr ⟨h1,h2⟩
end
section
variable {P:Program} {ops:Array Oper} {Q:Exit->Act->World->Prop} {a:Act} {w:World} {o:Oper} {rest:List Oper}
end
end
section
def GTab:List (Nat×List Value):=[(4,[.int .u8 0,.int .u8 1,.int .u8 28,.int .u8 2,.int .u8 29,.int .u8 14,.int .u8 24,.int .u8 3,.int .u8 30,.int .u8 22,.int .u8 20,.int .u8 15,.int .u8 25,.int .u8 17,.int .u8 4,.int .u8 8,.int .u8 31,.int .u8 27,.int .u8 13,.int .u8 23,.int .u8 21,.int .u8 19,.int .u8 16,.int .u8 7,.int .u8 26,.int .u8 12,.int .u8 18,.int .u8 6,.int .u8 11,.int .u8 5,.int .u8 10,.int .u8 9]),
 (5,[.int .u8 0,.int .u8 1,.int .u8 56,.int .u8 2,.int .u8 57,.int .u8 49,.int .u8 28,.int .u8 3,.int .u8 61,.int .u8 58,.int .u8 42,.int .u8 50,.int .u8 38,.int .u8 29,.int .u8 17,.int .u8 4,.int .u8 62,.int .u8 47,.int .u8 59,.int .u8 36,.int .u8 45,.int .u8 43,.int .u8 51,.int .u8 22,.int .u8 53,.int .u8 39,.int .u8 33,.int .u8 30,.int .u8 24,.int .u8 18,.int .u8 12,.int .u8 5,.int .u8 63,.int .u8 55,.int .u8 48,.int .u8 27,.int .u8 60,.int .u8 41,.int .u8 37,.int .u8 16,.int .u8 46,.int .u8 35,.int .u8 44,.int .u8 21,.int .u8 52,.int .u8 32,.int .u8 23,.int .u8 11,.int .u8 54,.int .u8 26,.int .u8 40,.int .u8 15,.int .u8 34,.int .u8 20,.int .u8 31,.int .u8 10,.int .u8 25,.int .u8 14,.int .u8 19,.int .u8 9,.int .u8 13,.int .u8 8,.int .u8 7,.int .u8 6]),
 (3,[.int .u64 1,.int .u64 10,.int .u64 100,.int .u64 1000,.int .u64 10000,.int .u64 100000,.int .u64 1000000,.int .u64 10000000,.int .u64 100000000,.int .u64 1000000000,.int .u64 10000000000,.int .u64 100000000000,.int .u64 1000000000000,.int .u64 10000000000000,.int .u64 100000000000000,.int .u64 1000000000000000,.int .u64 10000000000000000,.int .u64 100000000000000000,.int .u64 1000000000000000000,.int .u64 10000000000000000000])]
def ETab:List Nat:=[2]
end
section
open Go.RowKit
inductive PV where
 |v (x:Value)
 |agg (cs:List PV)
 |sl (esz:Nat) (l:List (List PV))
 |rp (cs:List PV)
 |fn (f:FuncId) (caps:List PV)
 deriving Inhabited
def plain:Value->Bool
 | .bool _| .int _ _| .string _| .pointer none| .nilFunc| .nilIface| .float _ _| .complex _ _ _| .slice none 0 0| .map none| .iface _ _=>true
 |_=>false
theorem plain_one {x:Value} (h:plain x=true):x.oneCell'=true:=by
 cases x<;>first|rfl|(simp[plain]at h;done)
def oneP:PV->Bool
 | .agg _=>false
 |_=>true
inductive RelP (ok:Nat->Prop) (w:World):PV->Value->Prop
 |v {x:Value} (h:plain x=true):RelP ok w (.v x) x
 |agg {cs:List PV} {us:List Value} (hl:us.length=cs.length) (h:∀(i:Nat) (s:PV) (u:Value),cs[i]?=some s->us[i]?=some u->RelP ok w s u):RelP ok w (.agg cs) (.agg us.toArray)
 |sl {esz:Nat} {l:List (List PV)} {A:Option Addr} {c:Nat} (hc:l.length<=c) (hm:l.length<=reachBytes/\c<=maxLen) (he:∀e∈l,e.length=esz/\∀s∈e,oneP s=true)
  (hA:0<l.length->∃b o,A=some ⟨b,o,none⟩/\ok b/\b<w.heap.size)
  (hx:∀(b o i j:Nat),A=some ⟨b,o,none⟩->i<l.length->j<esz->∃u,w.cell? ⟨b,o+i*esz+j,none⟩=some u)
  (h:∀(b o i j:Nat) (e:List PV) (s:PV) (u:Value),A=some ⟨b,o,none⟩->l[i]?=some e->e[j]?=some s->w.cell? ⟨b,o+i*esz+j,none⟩=some u->RelP ok w s u):RelP ok w (.sl esz l) (.slice A l.length c)
 |rp {cs:List PV} {b o:Nat} (hok:ok b) (hlt:b<w.heap.size) (hx:∀(j:Nat),j<cs.length->∃u,w.cell? ⟨b,o+j,none⟩=some u)
  (h:∀(j:Nat) (s:PV) (u:Value),cs[j]?=some s->w.cell? ⟨b,o+j,none⟩=some u->RelP ok w s u):RelP ok w (.rp cs) (.pointer (some ⟨b,o,none⟩))
 |fn {f:FuncId} {caps:List PV} {us:List Value} (hl:us.length=caps.length) (h:∀(i:Nat) (s:PV) (u:Value),caps[i]?=some s->us[i]?=some u->RelP ok w s u):RelP ok w (.fn f caps) (.func (.func f) #[] us.toArray)
theorem RelP.keep {ok:Nat->Prop} {w w':World} (hs:SameOn ok w w') {s:PV} {u:Value} (h:RelP ok w s u):RelP ok w' s u:=by
 induction h with
 |v h=>exact .v h
 |agg hl h ih=>exact .agg hl ih
 |@sl esz l A c hc hm he hA hx h ih=>
  have hcell:∀b o k,A=some ⟨b,o,none⟩->0<l.length->w'.cell? ⟨b,k,none⟩=w.cell? ⟨b,k,none⟩:=fun b o k hAb hl=>by
   obtain⟨b',o',e,hok,hlt⟩:=hA hl;rw[hAb]at e;simp only[Ye,Addr.mk.injEq]at e;obtain⟨rfl,_⟩:=e;exact World.cell?_of_block (w:=w) (a:=⟨b,k,none⟩) (hs.block b hlt hok)
  refine .sl hc hm he (fun hl=>?_) (fun b o i j hAb hi hj=>?_) (fun b o i j e s u hAb hi hj hu=>?_)
  · obtain⟨b,o,e,hok,hlt⟩:=hA hl;exact⟨b,o,e,hok,Xs hlt hs.size⟩
  · rw[hcell b o _ hAb DP];exact hx b o i j hAb hi hj
  · have hi':i<l.length:=(Yq.1 hi).1;rw[hcell b o _ hAb DP]at hu;exact ih b o i j e s u hAb hi hj hu
 |@rp cs b o hok hlt hx h ih=>
  have hcell:∀k,w'.cell? ⟨b,k,none⟩=w.cell? ⟨b,k,none⟩:=fun k=>World.cell?_of_block (w:=w) (a:=⟨b,k,none⟩) (hs.block b hlt hok)
  refine .rp hok (Xs hlt hs.size) (fun j hj=>?_) (fun j s u hj hu=>?_)
  · rw[hcell];exact hx j hj
  · rw[hcell]at hu;exact ih j s u hj hu
 |fn hl h ih=>exact .fn hl ih
theorem RelP.weak {ok ok':Nat->Prop} {w:World} (hk:∀b,b<w.heap.size->ok b->ok' b) {s:PV} {u:Value} (h:RelP ok w s u):RelP ok' w s u:=by
 induction h with
 |v h=>exact .v h
 |agg hl h ih=>exact .agg hl ih
 |sl hc hm he hA hx h ih=>
  refine .sl hc hm he (fun hl=>?_) hx ih;obtain⟨b,o,e,hok,hlt⟩:=hA hl;exact⟨b,o,e,hk _ hlt hok,hlt⟩
 |rp hok hlt hx h ih=>exact .rp (hk _ hlt hok) hlt hx ih
 |fn hl h ih=>exact .fn hl ih
theorem RelP.one {ok:Nat->Prop} {w:World} {s:PV} {u:Value} (h:RelP ok w s u):u.oneCell'=oneP s:=by
 cases h with
 |v h=>rw[plain_one h];rfl
 |agg=>rfl
 |sl=>rfl
 |rp=>rfl
 |fn=>rfl
def rPV:RF (List PV):=fun ok w cs x=>cs.length=x.length/\∀(j:Nat) (s:PV) (u:Value),x[j]?=some s->cs[j]?=some u->RelP ok w s u
theorem good_PV:Good rPV:=
 ⟨fun _ _ _ _ _ hs h=>⟨h.1,fun j s u a b=>(h.2 j s u a b).keep hs⟩,fun _ _ _ _ _ hk h=>⟨h.1,fun j s u a b=>(h.2 j s u a b).weak hk⟩⟩
theorem RelP.slat {ok:Nat->Prop} {w:World} {esz:Nat} {l:List (List PV)} {u:Value} (h:RelP ok w (.sl esz l) u):
 ∃A c,u=.slice A l.length c/\l.length<=c/\(l.length<=reachBytes/\c<=maxLen)/\(∀e∈l,e.length=esz/\∀s∈e,oneP s=true)/\SlAtA ok (rPV ok) esz w A l:=by
 cases h with
 |@sl _ _ A c hc hm he hA hx h=>
  refine⟨A,c,rfl,hc,hm,he,fun hl=>?_⟩;obtain⟨b,o,rfl,hok,hlt⟩:=hA hl;refine⟨b,o,rfl,hok,hlt,fun i hi=>?_⟩;have hex:∀j:Nat,∃u,j<esz->w.cell? ⟨b,o+i*esz+j,none⟩=some u:=fun j=>by
   by_cases hj:j<esz
   · obtain⟨u,hu⟩:=hx b o i j rfl hi hj;exact⟨u,fun _=>hu⟩
   · exact⟨.nilIface,fun h=>absurd h hj⟩
  obtain⟨f,hf⟩:=Classical.axiomOfChoice hex;have hel:l[i].length=esz:=(he _ (Yn hi)).1;refine⟨(List.range esz).map f,by simp,fun j u hj=>?_,by simp[hel],fun j s u hs hu=>?_⟩
  · have hj':j<esz:=by have:=(Yq.1 hj).1;simpa using this
    simp[hj']at hj;rw[<-hj];exact hf j hj'
  · have hj':j<esz:=by have:=(Yq.1 hu).1;simpa using this
    simp[hj']at hu;exact h b o i j l[i] s u rfl (Yj hi) hs (by rw[<-hu];exact hf j hj')
theorem RelP.of_slat {ok:Nat->Prop} {w:World} {esz:Nat} {l:List (List PV)} {A:Option Addr} {c:Nat} (hc:l.length<=c) (hm:l.length<=reachBytes/\c<=maxLen) (he:∀e∈l,e.length=esz/\∀s∈e,oneP s=true)
 (h:SlAtA ok (rPV ok) esz w A l):RelP ok w (.sl esz l) (.slice A l.length c):=by
 have key:∀b o i,A=some ⟨b,o,none⟩->(hi:i<l.length)->∃cs:List Value,cs.length=esz/\CellsAt w b (o+i*esz) cs/\rPV ok w cs l[i]:=fun b o i hA hi=>by
  obtain⟨b',o',hA',_,_,hx⟩:=h DP;rw[hA]at hA';simp only[Ye,Addr.mk.injEq]at hA';obtain⟨rfl,rfl,_⟩:=hA';exact hx i hi
 refine .sl hc hm he (fun hl=>?_) (fun b o i j hA hi hj=>?_) (fun b o i j e s u hA hi hj hu=>?_)
 · obtain⟨b,o,hA,hok,hlt,_⟩:=h hl;exact⟨b,o,hA,hok,hlt⟩
 · obtain⟨cs,h1,h2,_⟩:=key b o i hA hi;exact⟨cs[j]'DP,h2 j _ (Yj _)⟩
 · obtain⟨hi',rfl⟩:=Yq.1 hi;obtain⟨cs,h1,h2,h3⟩:=key b o i hA hi';have hjl:j<cs.length:=by rw[h3.1];exact(Yq.1 hj).1
   have h4:=h2 j _ (Yj hjl);rw[hu]at h4;exact h3.2 j s u hj (by rw[Yj hjl];exact h4.symm)
inductive SV where
 |p (x:PV)
 |agg (cs:List SV)
 |tup (cs:List SV)
 |fn (f:FuncId) (caps:List SV)
 |row (i:Nat)
 |ptr (i off:Nat)
 |eptr (i z idx off:Nat)
 |view (i z lo hi:Nat)
 |junk
 deriving Inhabited
inductive Box where
 |row (e:TypeId) (esz:Nat) (l:List (List PV))
 |cells (cs:List SV)
 |mp (es:List (Value×PV))
 |rws (e:TypeId) (esz:Nat) (pre:List (List PV)) (mid:List SV) (post:List (List PV))
 deriving Inhabited
def rowF (l:List (List PV)):List SV:=l.flatMap fun x=>x.map SV.p
def rwC (pre:List (List PV)) (mid:List SV) (post:List (List PV)):List SV:=rowF pre++(mid++rowF post)
def Box.cs?:Box->Option (List SV)
 | .cells cs=>some cs
 | .rws _ _ pre mid post=>some (rwC pre mid post)
 |_=>none
def lk {α:Type} (t:Nat):List (Nat×α)->Option α
 |[]=>none
 |(u,s)::r=>bif Nat.beq t u then some s else lk t r
def del {α:Type} (t:Nat):List (Nat×α)->List (Nat×α)
 |[]=>[]
 |(u,s)::r=>bif Nat.beq t u then del t r else(u,s)::del t r
theorem beq_no {t u:Nat} (h:t≠u):Nat.beq t u=false:=by
 cases h':Nat.beq t u with
 |false=>rfl
 |true=>exact absurd (YK h') h
theorem wJ (t:Nat):Nat.beq t t=true:=by simp
theorem qL {α:Type} (t u:Nat) (s:α) (r:List (Nat×α)):lk t ((u,s)::r)=if t=u then some s else lk t r:=by
 rw[lk];by_cases h:t=u
 · subst h;simp
 · rw[beq_no h,Yc h];rfl
theorem lk_del {α:Type} (t u:Nat):∀r:List (Nat×α),lk t (del u r)=if t=u then none else lk t r
 |[]=>by simp[del,lk]
 |(k,s)::r=>by
  have ih:=lk_del t u r;rw[del];by_cases h:u=k
  · subst h;rw[wJ,cond_true,ih,qL];split<;>simp_all
  · rw[beq_no h,cond_false,qL,qL,ih];by_cases h1:t=k
    · have:t≠u:=fun e=>h (e▸h1)
      rw[Yi h1,Yc this,Yi h1]
    · rw[Yc h1,Yc h1]
def zg:Value->Option Nat
 | .pointer (some a)=>some a.block
 | .slice (some a) _ _=>some a.block
 | .map (some r)=>some r
 |_=>none
theorem jN {A:Option Addr} {n c:Nat}:zg (.slice A n c)=(Value.slice A n c).ownBlock:=by cases A<;>rfl
inductive RelS (ok:Nat->Prop) (H:Nat->Option Value) (w:World):SV->Value->Prop
 |p {x:PV} {u:Value} (h:RelP ok w x u):RelS ok H w (.p x) u
 |agg {cs:List SV} {us:List Value} (hl:us.length=cs.length) (h:∀(i:Nat) (s:SV) (u:Value),cs[i]?=some s->us[i]?=some u->RelS ok H w s u):RelS ok H w (.agg cs) (.agg us.toArray)
 |tup {cs:List SV} {us:List Value} (hl:us.length=cs.length) (h:∀(i:Nat) (s:SV) (u:Value),cs[i]?=some s->us[i]?=some u->RelS ok H w s u):RelS ok H w (.tup cs) (.tuple us.toArray)
 |fn {f:FuncId} {caps:List SV} {us:List Value} (hl:us.length=caps.length) (h:∀(i:Nat) (s:SV) (u:Value),caps[i]?=some s->us[i]?=some u->RelS ok H w s u):RelS ok H w (.fn f caps) (.func (.func f) #[] us.toArray)
 |row {i:Nat} {u:Value} (h:H i=some u):RelS ok H w (.row i) u
 |junk {u:Value}:RelS ok H w .junk u
 |ptr {i off b:Nat} {g:Value} (h:H i=some g) (hb:zg g=some b):RelS ok H w (.ptr i off) (.pointer (some ⟨b,off,none⟩))
 |eptr {i z idx off b:Nat} {g:Value} (h:H i=some g) (hb:zg g=some b):RelS ok H w (.eptr i z idx off) (.pointer (some ⟨b,idx*z+off,none⟩))
 |view {i z lo hi n c:Nat} {A A':Option Addr} (h:H i=some (.slice A n c)) (hl:lo<=hi) (hn:hi<=n) (hc:n<=c) (hA:lo<c\/lo=0->A'=A.map (·.add (lo*z))):RelS ok H w (.view i z lo hi) (.slice A' (hi-lo) (c-lo))
mutual
def SV.noRef (d:Nat):SV->Bool
 | .p _=>true
 | .agg cs=>noRefs d cs
 | .tup cs=>noRefs d cs
 | .fn _ cs=>noRefs d cs
 | .row i=>!(Nat.beq i d)
 | .ptr i _=>!(Nat.beq i d)
 | .eptr i _ _ _=>!(Nat.beq i d)
 | .view i _ _ _=>!(Nat.beq i d)
 | .junk=>true
def noRefs (d:Nat):List SV->Bool
 |[]=>true
 |s::r=>s.noRef d&&noRefs d r
end
theorem noRefs_at {d:Nat}:∀{cs:List SV} (_:noRefs d cs=true) {i:Nat} {s:SV},cs[i]?=some s->s.noRef d=true
 |[],_,i,s,h=>by simp at h
 |c::cs,hn,i,s,h=>by
  simp only[noRefs,Yp]at hn;cases i with
  |zero=>simp at h;subst h;exact hn.1
  |succ i=>exact noRefs_at hn.2 DA
theorem RelS.keep {ok ok':Nat->Prop} {H H':Nat->Option Value} {w w':World} (hs:SameOn ok w w') (hk:∀b,b<w'.heap.size->ok b->ok' b) {s:SV} {u:Value}
 (h:RelS ok H w s u):(∀i,s.noRef i=false->H' i=H i)->RelS ok' H' w' s u:=by
 induction h with
 |p h=>exact fun _=>.p ((h.keep hs).weak hk)
 |agg hl h ih=>
  refine fun hH=>.agg hl fun i s u a b=>ih i s u a b fun j hj=>hH j ?_
  cases hn:(SV.agg _).noRef j with
  |false=>rfl
  |true=>have:=noRefs_at EP a;rw[this]at hj;cases hj
 |tup hl h ih=>
  refine fun hH=>.tup hl fun i s u a b=>ih i s u a b fun j hj=>hH j ?_
  cases hn:(SV.tup _).noRef j with
  |false=>rfl
  |true=>have:=noRefs_at EP a;rw[this]at hj;cases hj
 |fn hl h ih=>
  refine fun hH=>.fn hl fun i s u a b=>ih i s u a b fun j hj=>hH j ?_
  cases hn:(SV.fn _ _).noRef j with
  |false=>rfl
  |true=>have:=noRefs_at EP a;rw[this]at hj;cases hj
 |junk=>exact fun _=>.junk
 |@row i u h=>exact fun hH=>.row EN
 |@ptr i off b g h hb=>exact fun hH=>.ptr EN hb
 |@eptr i z idx off b g h hb=>exact fun hH=>.eptr EN hb
 |@view i z lo hi n c A A' h h1 h2 h3 h4=>exact fun hH=>.view EN h1 h2 h3 h4
inductive Ty where
 |int (k:IntKind)
 |bool
 |str
 |sl (e:TypeId)
 |st (fs:List (Nat×TypeId))
 |arr (n:Nat) (e:TypeId)
 |ptr
 |fn
 |mp (k e:TypeId)
 |ifc
 |flt
 |cpx
def Ty.agg:Ty->Bool
 | .st _=>true
 | .arr _ _=>true
 |_=>false
structure TyI where
 size:Nat
 bytes:Nat
 d:Ty
 zero:List Value
 eq:Bool:=false
def eqC:PV->PV->Option Bool
 | .v (.int .i64 a),.v (.int .i64 b)=>some (a==b)
 | .v (.string a),.v (.string b)=>some (a.toList==b.toList)
 | .v (.bool a),.v (.bool b)=>some (a==b)
 |_,_=>none
def eqL:List PV->List PV->Option Bool
 |[],[]=>some true
 |x::xs,y::ys=>match eqC x y with
  |some a=>match eqL xs ys with
   |some b=>some (a&&b)
   |none=>none
  |none=>none
 |_,_=>none
def jh:List PV->List Value->Bool
 |[],[]=>true
 | .v (.int .i64 _)::xs,.int .i64 _::zs=>jh xs zs
 | .v (.string _)::xs,.string _::zs=>jh xs zs
 | .v (.bool _)::xs,.bool _::zs=>jh xs zs
 |_,_=>false
def unv:PV->Value
 | .v x=>x
 |_=>.nilIface
def jV (P:Program) (t:TypeId):Ty->Prop
 | .int k=>P.underlying t=some (.int k)
 | .bool=>P.underlying t=some .bool
 | .str=>P.underlying t=some .string
 | .sl e=>P.underlying t=some (.slice e)
 | .st fs=>∃fields,P.underlying t=some (.struct fields)/\fields.toList.map (fun f=>(f.offset,f.type))=fs
 | .arr n e=>P.underlying t=some (.array n e)
 | .ptr=>∃e,P.underlying t=some (.pointer e)
 | .fn=>∃a b c,P.underlying t=some (.func a b c)
 | .mp k e=>P.underlying t=some (.map k e)
 | .ifc=>∃m,P.underlying t=some (.interface m)
 | .flt=>P.underlying t=some (.float .f64)
 | .cpx=>P.underlying t=some (.complex .f64)
structure TyOk (P:Program) (t:TypeId) (i:TyI):Prop where
 info:∃info zv,P.info? t=some info/\info.size=i.size/\info.bytes=i.bytes/\info.zero=some zv/\zv.cells.toList=i.zero
 und:jV P t i.d
 eqs:i.eq=true->P.eqGuardType P.depth t=false/\∀(xs ys:List PV) (b:Bool) (w:World),eqL xs ys=some b->jh xs i.zero=true->(Op.equalIn 10000 t (.agg (xs.map unv).toArray) (.agg (ys.map unv).toArray)).run P w=.ok b w
def zm (P:Program) (T:List (TypeId×TyI)):Prop:=∀t i,lk t T=some i->TyOk P t i
section
variable {P:Program} {t:TypeId} {i:TyI} (h:TyOk P t i) (w:World)
include h
theorem TyOk.size:(sizeOf t).run P w=.ok i.size w:=by
 obtain⟨info,zv,h1,h2,_⟩:=h.info;simp[sizeOf,typeInfo,h1,h2]
theorem TyOk.isAgg:(isAgg t).run P w=.ok i.d.agg w:=by
 have hu:=h.und;cases hd:i.d<;>rw[hd]at hu<;>simp only[jV]at hu
 case st fs=>obtain⟨f,hu,_⟩:=hu;simp[Go.isAgg,run_underlying hu,Ty.agg]
 case ptr=>obtain⟨e,hu⟩:=hu;simp[Go.isAgg,run_underlying hu,Ty.agg]
 case ifc=>obtain⟨e,hu⟩:=hu;simp[Go.isAgg,run_underlying hu,Ty.agg]
 case fn=>obtain⟨a,b,c,hu⟩:=hu;simp[Go.isAgg,run_underlying hu,Ty.agg]
 all_goals simp[Go.isAgg,run_underlying hu,Ty.agg]
end
structure St where
 n:Nat
 fr:List (Nat×SV)
 own:List (Nat×Box)
def hp (γ:Nat->Value) (own:List (Nat×Box)) (i:Nat):Option Value:=match lk i own with
 |some _=>some (γ i)
 |none=>none
def okO (Sx:Nat->Prop) (γ:Nat->Value) (own:List (Nat×Box)) (b:Nat):Prop:=¬Sx b/\∀i bx,lk i own=some bx->zg (γ i)≠some b
def vis (K:List Nat) (γ:Nat->Value) (own:List (Nat×Box)) (b:Nat):Prop:=∀i bx,lk i own=some bx->K.contains i=true->zg (γ i)≠some b
def wE (Sx:Nat->Prop) (γ:Nat->Value) (own:List (Nat×Box)) (i:Nat) (b:Nat):Prop:=¬Sx b/\∀j bx,lk j own=some bx->j≠i->zg (γ j)≠some b
structure Base where
 w:World
 kp:Nat->Prop
 fx:Nat->Option Value
def BelowB (W:Base) (w:World):Prop:=Below 0 W.w w/\∀b,W.kp b->w.heap[b]?=W.w.heap[b]?
def errV:Value->Bool
 | .nilIface=>true
 | .iface _ _=>true
 |_=>false
def GlOk (W:Base) (Sx:Nat->Prop):Prop:=(∀g us,lk g GTab=some us->W.kp g/\¬Sx g/\∃ty m,W.w.heap[g]?=some (.cells us.toArray ty m))/\
 ∀g,ETab.contains g=true->W.kp g/\¬Sx g/\∃ev ty m,W.w.heap[g]?=some (.cells #[ev] ty m)/\errV ev=true
structure Stays (W:Base) (Sx:Nat->Prop) (γ:Nat->Value) (own:List (Nat×Box)) (w:World):Prop where
 sub:∀b,Sx b->W.kp b
 lt:∀b,W.kp b->b<w.heap.size
 fix:∀i bx g,lk i own=some bx->W.fx i=some g->γ i=g
 low:∀i,i<1000000->W.fx i=none
 gl:GlOk W Sx
inductive BoxOk (W:Base) (Sx:Nat->Prop) (γ:Nat->Value) (own:List (Nat×Box)) (w:World) (i:Nat):Box->Prop
 |row {e:TypeId} {esz:Nat} {l:List (List PV)} (h:RowO rPV esz (wE Sx γ own i) w 0 e (γ i) l) (he:∀x∈l,x.length=esz/\∀s∈x,oneP s=true) (hm:l.length<=reachBytes) (hk:∀b,zg (γ i)=some b->¬W.kp b):BoxOk W Sx γ own w i (.row e esz l)
 |cells {cs:List SV} {us:List Value} {ty:TypeId} {b:Nat} (hg:γ i=.pointer (some ⟨b,0,none⟩)) (hB:¬W.kp b) (hh:w.heap[b]?=some (.cells us.toArray ty (0,0))) (hl:us.length=cs.length)
  (h:∀(j:Nat) (s:SV) (u:Value),cs[j]?=some s->us[j]?=some u->RelS (okO Sx γ own) (hp γ own) w s u) (h1:∀u∈us,u.oneCell'=true):BoxOk W Sx γ own w i (.cells cs)
 |mp {es:List (Value×PV)} {ens:List MapEntry} {clock b:Nat} (hg:γ i=.map (some b)) (hB:¬W.kp b) (hh:w.heap[b]?=some (.map ens.toArray clock)) (hl:ens.length=es.length)
  (h:∀(j:Nat) (x:Value×PV) (e:MapEntry),es[j]?=some x->ens[j]?=some e->e.key=x.1/\RelP (okO Sx γ own) w x.2 e.val):BoxOk W Sx γ own w i (.mp es)
 |rws {e:TypeId} {z:Nat} {pre post:List (List PV)} {mid:List SV} {css:List (Cel z)} {nm:Nat} (hr:OwnF Subtype.val z w 0 e (γ i) css) (hz:0<z) (hpp:∀x∈pre++post,x.length=z/\∀s∈x,oneP s=true) (hn:css.length=pre.length+(nm+post.length)) (hmid:mid.length=nm*z)
  (h:∀(j:Nat) (s:SV) (u:Value),(rwC pre mid post)[j]?=some s->(css.flatMap Subtype.val)[j]?=some u->RelS (okO Sx γ own) (hp γ own) w s u) (hm:css.length<=reachBytes) (hk:∀b,zg (γ i)=some b->¬W.kp b):BoxOk W Sx γ own w i (.rws e z pre mid post)
structure HeapOk (W:Base) (Sx:Nat->Prop) (γ:Nat->Value) (own:List (Nat×Box)) (w:World):Prop where
 box:∀i bx,lk i own=some bx->BoxOk W Sx γ own w i bx
 inj:∀i j bx by_ b,lk i own=some bx->lk j own=some by_->zg (γ i)=some b->zg (γ j)=some b->i=j
 sx:Stays W Sx γ own w
structure Sim (W:Base) (Sx:Nat->Prop) (γ:Nat->Value) (st:St) (a:Act) (w:World):Prop where
 below:BelowB W w
 size:a.tmps.size=st.n/\st.n<=900
 defers:a.defers=[]
 fr:∀t s,lk t st.fr=some s->RelS (okO Sx γ st.own) (hp γ st.own) w s (a.tmps.getD t undef)
 heap:HeapOk W Sx γ st.own w
theorem HeapOk.blk {W:Base} {Sx:Nat->Prop} {γ:Nat->Value} {own:List (Nat×Box)} {w:World} (h:HeapOk W Sx γ own w) {i:Nat} {bx:Box} (hi:lk i own=some bx) {b:Nat} (hb:zg (γ i)=some b):¬W.kp b/\b<w.heap.size:=by
 cases h.box i bx hi with
 |@row e esz l hr he hm hk=>
  obtain⟨css,h1,_,_⟩:=hr;have:(γ i).ownBlock=some b:=by
   rcases h1.2 with⟨hv,_⟩|⟨g,cap,cur,hv,_⟩
   · rw[hv]at hb;cases hb
   · rw[hv]at hb⊢;exact hb
  exact⟨hk b hb,(h1.lt b this).2⟩
 |cells hg hB hh hl _=>
  rw[hg]at hb;simp only[zg,Ye]at hb;subst hb;exact⟨hB,lt_of_block hh⟩
 |mp hg hB hh hl _=>
  rw[hg]at hb;simp only[zg,Ye]at hb;subst hb;exact⟨hB,lt_of_block hh⟩
 |rws h1 hz _ hn hl hr hm hk=>
  have:(γ i).ownBlock=some b:=by
   rcases h1.2 with⟨hv,_⟩|⟨g,cap,cur,hv,_⟩
   · rw[hv]at hb;cases hb
   · rw[hv]at hb⊢;exact hb
  exact⟨hk b hb,(h1.lt b this).2⟩
theorem blk_kp {W:Base} {Sx:Nat->Prop} {γ:Nat->Value} {own:List (Nat×Box)} {w:World} (h:HeapOk W Sx γ own w) {i:Nat} {bx:Box} (hi:lk i own=some bx) {b:Nat} (hb:zg (γ i)=some b) (hk:W.kp b):False:=(h.blk hi hb).1 hk
theorem HeapOk.nsx {W:Base} {Sx:Nat->Prop} {γ:Nat->Value} {own:List (Nat×Box)} {w:World} (h:HeapOk W Sx γ own w) {i:Nat} {bx:Box} (hi:lk i own=some bx) {b:Nat} (hb:zg (γ i)=some b):¬Sx b:=fun hs=>(h.blk hi hb).1 (h.sx.sub b hs)
theorem Stays.keep {W:Base} {Sx:Nat->Prop} {γ γ':Nat->Value} {own own':List (Nat×Box)} {w w':World} (h:Stays W Sx γ own w) (hs:w.heap.size<=w'.heap.size) (hk:∀i bx,lk i own'=some bx->i<1000000\/γ' i=γ i/\(lk i own).isSome=true):Stays W Sx γ' own' w':=
 ⟨h.sub,fun b hb=>Xs (h.lt b hb) hs,fun i bx g hi hg=>by
  rcases hk i bx hi with hlt|⟨e,hs⟩
  · rw[h.low i hlt]at hg;cases hg
  · obtain⟨by_,h2⟩:=Yv.1 hs;rw[e];exact h.fix i by_ g h2 hg,h.low,h.gl⟩
theorem Stays.grow {W:Base} {Sx:Nat->Prop} {γ:Nat->Value} {own:List (Nat×Box)} {w w':World} (h:Stays W Sx γ own w) (hs:w.heap.size<=w'.heap.size):Stays W Sx γ own w':=h.keep hs fun i bx hi=>Or.inr ⟨rfl,by rw[hi];rfl⟩
theorem BelowB.step {W:Base} {w w':World} (h:BelowB W w) (h1:Below 0 w w') (h2:∀b,W.kp b->w'.heap[b]?=w.heap[b]?):BelowB W w':=⟨h.1.trans h1,fun b hb=>(h2 b hb).trans (h.2 b hb)⟩
theorem BelowB.grow {W:Base} {Sx:Nat->Prop} {γ:Nat->Value} {own:List (Nat×Box)} {w w':World} (h:BelowB W w) (hs:Stays W Sx γ own w) (hb:Below w.heap.size w w'):BelowB W w':=h.step (hb.mono (Nat.zero_le _)) fun b hk=>hb.block b (hs.lt b hk)
theorem SameOn.weak {p q:Nat->Prop} {w w':World} (h:SameOn p w w') (hk:∀b,b<w.heap.size->q b->p b):SameOn q w w':=⟨h.size,fun b hb hq=>h.block b hb (hk b hb hq)⟩
theorem okO_vis {Sx:Nat->Prop} {γ:Nat->Value} {own:List (Nat×Box)} {K:List Nat} {b:Nat} (h:okO Sx γ own b):vis K γ own b:=fun i bx hi _=>h.2 i bx hi
def pures:List SV->Option (List PV)
 |[]=>some []
 | .p x::r=>match pures r with
   |some l=>some (x::l)
   |none=>none
 |_::_=>none
def mkAgg (cs:List SV):SV:=match pures cs with
 |some l=>.p (.agg l)
 |none=>.agg cs
theorem pures_get:∀{cs:List SV} {l:List PV},pures cs=some l->l.length=cs.length/\∀i:Nat,cs[i]?=(l[i]?).map SV.p
 |[],l,h=>by simp[pures]at h;subst h;simp
 | .p x::r,l,h=>by
   unfold pures at h;split at h
   · rename_i l' hl';simp only[Ye]at h;subst h;obtain⟨h1,h2⟩:=pures_get hl';refine⟨by simp[h1],fun i=>?_⟩;cases i with
     |zero=>simp
     |succ i=>simpa using h2 i
   · cases h
 | .agg _::_,l,h=>by simp[pures]at h
 | .tup _::_,l,h=>by simp[pures]at h
 | .fn _ _::_,l,h=>by simp[pures]at h
 | .row _::_,l,h=>by simp[pures]at h
 | .ptr _ _::_,l,h=>by simp[pures]at h
 | .junk::_,l,h=>by simp[pures]at h
 | .view _ _ _ _::_,l,h=>by simp[pures]at h
 | .eptr _ _ _ _::_,l,h=>by simp[pures]at h
theorem RelS.p_inv {ok:Nat->Prop} {H:Nat->Option Value} {w:World} {x:PV} {u:Value} (h:RelS ok H w (.p x) u):RelP ok w x u:=by cases h;assumption
theorem RelS.v_inv {ok:Nat->Prop} {H:Nat->Option Value} {w:World} {x u:Value} (h:RelS ok H w (.p (.v x)) u):u=x:=by cases h;rename_i h;cases h;rfl
theorem relS_mkAgg {ok:Nat->Prop} {H:Nat->Option Value} {w:World} {cs:List SV} {us:List Value} (hl:us.length=cs.length) (h:∀(i:Nat) (s:SV) (u:Value),cs[i]?=some s->us[i]?=some u->RelS ok H w s u):
 RelS ok H w (mkAgg cs) (.agg us.toArray):=by
 unfold mkAgg;split
 · rename_i l hp;obtain⟨h1,h2⟩:=pures_get hp;exact .p (.agg DP fun i s u hi hu=>(h i (.p s) u (by rw[h2,hi];rfl) hu).p_inv)
 · exact .agg hl h
def evS (st:St):Operand->Option SV
 | .tmp t=>lk t st.fr
 | .const (.agg cs)=>bif cs.toList.all plain then some (.p (.agg (cs.toList.map .v)))else none
 | .const v=>bif plain v then some (.p (.v v))else none
 | .func f=>some (.p (.fn f []))
 | .global g=>match lk g GTab with
   |some us=>bif us.all plain then some (.p (.rp (us.map .v)))else none
   |none=>none
theorem qK {w0:Base} {Sx:Nat->Prop} {γ:Nat->Value} {st:St} {a:Act} {w:World} (hI:Sim w0 Sx γ st a w) {x:Operand} {s:SV} (h:evS st x=some s):
 RelS (okO Sx γ st.own) (hp γ st.own) w s (a.eval x):=by
 cases x with
 |tmp t=>exact hI.fr t s h
 |const v=>
  have gen:∀v,(bif plain v then some (SV.p (.v v))else none)=some s->RelS (okO Sx γ st.own) (hp γ st.own) w s v:=fun v h=>by
   cases hp:plain v with
   |false=>rw[hp]at h;cases h
   |true=>rw[hp]at h;simp only[cond_true,Ye]at h;subst h;exact .p (.v hp)
  cases v with
  |agg cs=>
   have h:(bif cs.toList.all plain then some (SV.p (.agg (cs.toList.map .v)))else none)=some s:=h;cases hp:cs.toList.all plain with
   |false=>rw[hp]at h;cases h
   |true=>
    rw[hp]at h;simp only[cond_true,Ye]at h;subst h;refine .p ?_;show RelP _ _ _ (.agg cs);have e:cs=cs.toList.toArray:=by simp
    rw[e];refine .agg DQ fun i s u hi hu=>?_
    simp at hi hu;rw[hu]at hi;simp at hi;subst hi;refine .v ?_;have hm:u∈cs.toList:=by
     have:=Array.mem_of_getElem? hu;simpa using this
    exact YE.1 hp u hm
  |_=>exact gen _ h
 |func f=>simp only[evS,Ye]at h;subst h;exact .p (.fn rfl fun i s u hi _=>by simp at hi)
 |global g=>
  simp only[evS]at h;split at h
  · rename_i us hus;cases hp:us.all plain with
    |false=>rw[hp]at h;cases h
    |true=>
     rw[hp]at h;simp only[cond_true,Ye]at h;subst h;obtain⟨h1,h2,h3⟩:=hI.heap.sx.gl.1 g us hus;obtain⟨ty,m,h3⟩:=h3;have hcell:∀k,w.cell? ⟨g,k,none⟩=us[k]?:=fun k=>by
      rw[World.cell?_of_block (w:=w0.w) (a:=⟨g,k,none⟩) (hI.below.2 g h1)];unfold World.cell?;rw[h3];simp
     refine .p (.rp ⟨h2,fun i bx hi hb=>?_⟩ (hI.heap.sx.lt g h1) (fun j hj=>?_) fun j s u hs hu=>?_)
     · exact blk_kp hI.heap hi hb h1
     · rw[Yb]at hj;exact⟨_,by rw[hcell,Xk];exact Yj hj⟩
     · rw[YH]at hs;obtain⟨x,hx,rfl⟩:=YP.1 hs;rw[hcell,Xk,hx]at hu;cases hu;exact .v (YE.1 hp _ (YI hx))
  · cases h
theorem jO {γ:Nat->Value} {own:List (Nat×Box)} {d:Nat} (h:lk d own=none):hp γ own d=none:=by unfold hp;rw[h]
theorem zb {γ:Nat->Value} {own:List (Nat×Box)} {d:Nat} {bx:Box} (h:lk d own=some bx):hp γ own d=some (γ d):=by unfold hp;rw[h]
def oneS:SV->Bool
 | .p x=>oneP x
 | .agg _=>false
 | .tup _=>false
 | .junk=>false
 |_=>true
def cellsOf:SV->Option (List SV)
 | .p (.agg ps)=>some (ps.map .p)
 | .agg cs=>some cs
 | .tup _=>none
 | .junk=>none
 |s=>some [s]
theorem RelS.one {ok:Nat->Prop} {H:Nat->Option Value} (hH:∀i u,H i=some u->u.oneCell'=true) {w:World} {s:SV} {u:Value} (h:RelS ok H w s u) (h1:oneS s=true):u.oneCell'=true:=by
 cases h with
 |p h=>rw[h.one];exact h1
 |agg=>cases h1
 |tup=>cases h1
 |fn=>rfl
 |junk=>cases h1
 |row h=>exact hH _ _ h
 |ptr=>rfl
 |eptr=>rfl
 |view=>rfl
theorem qaW {ok:Nat->Prop} {H:Nat->Option Value} (hH:∀i u,H i=some u->u.oneCell'=true) {w:World} {s:SV} {u:Value} (h:RelS ok H w s u) {cs:List SV} (hc:cellsOf s=some cs):
 u.cells.toList.length=cs.length/\∀(i:Nat) (s:SV) (v:Value),cs[i]?=some s->u.cells.toList[i]?=some v->RelS ok H w s v:=by
 have lone:∀{s:SV} {u:Value},RelS ok H w s u->u.oneCell'=true->some [s]=some cs->u.cells.toList.length=cs.length/\∀(i:Nat) (s:SV) (v:Value),cs[i]?=some s->u.cells.toList[i]?=some v->RelS ok H w s v:=by
  intro s u h h1 hc;cases hc;have:u.cells=#[u]:=by cases u<;>first|rfl|cases h1
  rw[this];refine⟨rfl,fun i s v a b=>?_⟩;cases i with
  |zero=>simp at a b;subst a;subst b;exact h
  |succ i=>simp at a
 cases h with
 |@p x u h=>
  cases x with
  |agg ps=>
   simp only[cellsOf,Ye]at hc;subst hc;cases h with
   |@agg _ us hl h=>
    simp only[Value.cells];refine⟨by simp[hl],fun i s v a b=>?_⟩;rw[YH]at a;cases hp:ps[i]? with
    |none=>rw[hp]at a;cases a
    |some x=>rw[hp]at a;cases a;exact .p (h i x v hp b)
  |v x=>exact lone (.p h) Dh hc
  |sl _ _=>exact lone (.p h) Dh hc
  |rp _=>exact lone (.p h) Dh hc
  |fn _ _=>exact lone (.p h) Dh hc
 |agg hl h=>simp only[cellsOf,Ye]at hc;subst hc;exact⟨by simpa [Value.cells]using hl,by simpa [Value.cells]using h⟩
 |tup=>cases hc
 |fn hl h=>exact lone (.fn hl h) rfl hc
 |junk=>cases hc
 |row h=>exact lone (.row h) (hH _ _ h) hc
 |ptr h hb=>exact lone (.ptr h hb) rfl hc
 |eptr h hb=>exact lone (.eptr h hb) rfl hc
 |view h h1 h2 h3 h4=>exact lone (.view h h1 h2 h3 h4) rfl hc
theorem HeapOk.one {B:Base} {Sx:Nat->Prop} {γ:Nat->Value} {own:List (Nat×Box)} {w:World} (h:HeapOk B Sx γ own w):∀i u,hp γ own i=some u->u.oneCell'=true:=by
 intro i u hu;cases hi:lk i own with
 |none=>rw[jO hi]at hu;cases hu
 |some bx=>
  rw[zb hi]at hu;cases hu;cases h.box i bx hi with
  |row hr=>obtain⟨A,c,hv,_⟩:=hr.shape;rw[hv];rfl
  |cells hg=>rw[hg];rfl
  |mp hg=>rw[hg];rfl
  |rws hr=>obtain⟨A,c,hv,_⟩:=hr.shape;rw[hv];rfl
def binV (op:BinOp):Value->Value->Option (Prop×Value)
 | .int k a,.int k' b=>match op with
   | .shl=>some (0<=b,.int k (k.wrap (a*2^(min b.toNat k.bits))))
   | .shr=>some (0<=b,.int k (a.fdiv (2^(min b.toNat k.bits))))
   |op=>if k=k' then match op with
    | .add=>some (True,.int k (k.wrap (a+b)))
    | .sub=>some (True,.int k (k.wrap (a-b)))
    | .mul=>some (True,.int k (k.wrap (a*b)))
    | .quo=>some (b≠0,.int k (k.wrap (a.tdiv b)))
    | .rem=>some (b≠0,.int k (a.tmod b))
    | .and=>some (True,.int k (k.wrap (BitVec.ofInt k.bits a &&& BitVec.ofInt k.bits b).toNat))
    | .or=>some (True,.int k (k.wrap (BitVec.ofInt k.bits a ||| BitVec.ofInt k.bits b).toNat))
    | .xor=>some (True,.int k (k.wrap (BitVec.ofInt k.bits a ^^^ BitVec.ofInt k.bits b).toNat))
    | .andNot=>some (True,.int k (k.wrap (BitVec.ofInt k.bits a &&& ~~~(BitVec.ofInt k.bits b)).toNat))
    | .eql=>some (True,.bool (a==b))
    | .neq=>some (True,.bool (a !=b))
    | .lss=>some (True,.bool (a<b))
    | .leq=>some (True,.bool (a<=b))
    | .gtr=>some (True,.bool (a>b))
    | .geq=>some (True,.bool (a>=b))
    |_=>none
    else none
 | .string a,.string b=>match op with
   | .add=>some (((a.size+b.size:Nat):Int)<=IntKind.i64.max,.string (a++b))
   | .eql=>some (True,.bool (a.toList==b.toList))
   | .neq=>some (True,.bool (!(a.toList==b.toList)))
   | .lss=>some (True,.bool (Op.bytesLess a.toList b.toList))
   | .leq=>some (True,.bool (Op.bytesLess a.toList b.toList||a.toList==b.toList))
   | .gtr=>some (True,.bool (!(Op.bytesLess a.toList b.toList||a.toList==b.toList)))
   | .geq=>some (True,.bool (!(Op.bytesLess a.toList b.toList)))
   |_=>none
 | .float k a,.float k' b=>if k=k' then match op with
   | .eql=>some (True,.bool (k.format.order a b==some .eq))
   | .neq=>some (True,.bool (k.format.order a b !=some .eq))
   | .lss=>some (True,.bool (k.format.order a b==some .lt))
   | .leq=>some (True,.bool (k.format.order a b==some .lt||k.format.order a b==some .eq))
   | .gtr=>some (True,.bool (k.format.order a b==some .gt))
   | .geq=>some (True,.bool (k.format.order a b==some .gt||k.format.order a b==some .eq))
   |_=>none
   else none
 | .complex k a b,.complex k' c d=>if k=k' then match op with
   | .eql=>some (True,.bool (k.format.order a c==some .eq&&k.format.order b d==some .eq))
   | .neq=>some (True,.bool (!(k.format.order a c==some .eq&&k.format.order b d==some .eq)))
   |_=>none
   else none
 |_,_=>none
def boolV (op:BinOp) (a b:Bool):Option Bool:=match op with
 | .eql=>some (a==b)
 | .neq=>some (!(a==b))
 |_=>none
section
variable {P:Program} {x:World}
theorem run_v {s:Sem Value} {v:Value} (h:s.run P x=.ok v x):(do pure (.value (<-s)):Sem Next).run P x=.ok (.value v) x:=by rw[Sem.run_bind,h];rfl
theorem binV_ok {op:BinOp} {t:TypeId} {a b v:Value} {c:Prop} (h:binV op a b=some (c,v)) (hc:c):plain v=true/\(binOp op t a b).run P x=.ok v x:=by
 unfold binV at h;split at h
 · rename_i k a k' b;split at h
   · simp only[Ye,Yt]at h;obtain⟨rfl,rfl⟩:=h;refine⟨rfl,?_⟩;simp only[binOp,Op.shift];rw[Yc DP];rfl
   · simp only[Ye,Yt]at h;obtain⟨rfl,rfl⟩:=h;refine⟨rfl,?_⟩;simp only[binOp,Op.shift];rw[Yc DP];rfl
   · rename_i op hl hr;split at h
     · rename_i hk;subst hk;split at h
       all_goals first
        |(cases h;done)
        |(simp only[Ye,Yt]at h
          obtain⟨rfl,rfl⟩:=h;refine⟨rfl,?_⟩;simp[binOp,Op.intArith,Op.intBits,Op.intCmp];done)
        |(simp only[Ye,Yt]at h
          obtain⟨rfl,rfl⟩:=h;refine⟨rfl,?_⟩;simp only[binOp,Op.intDiv,ne_eq,not_true_eq_false,if_false];rw[Yc hc];rfl)
     · cases h
 · split at h
   · simp only[Ye,Yt]at h;obtain⟨rfl,rfl⟩:=h;refine⟨rfl,?_⟩;simp only[binOp,Op.stringOp];rw[Yc DP];rfl
   all_goals first
    |(cases h;done)
    |(simp only[Ye,Yt]at h
      obtain⟨rfl,rfl⟩:=h;exact⟨rfl,rfl⟩)
 · split at h
   · rename_i hk;subst hk;split at h
     all_goals first
      |(cases h;done)
      |(simp only[Ye,Yt]at h
        obtain⟨rfl,rfl⟩:=h;refine⟨rfl,?_⟩;simp[binOp,Op.floatCmp];done)
   · cases h
 · split at h
   · rename_i hk;subst hk;split at h
     all_goals first
      |(cases h;done)
      |(simp only[Ye,Yt]at h
        obtain⟨rfl,rfl⟩:=h;refine⟨rfl,?_⟩;simp[binOp,Op.complexOp,Op.Complex.cmp,Op.floatCmp,asBool];done)
   · cases h
 · cases h
theorem boolV_ok {op:BinOp} {t:TypeId} {a b v:Bool} (h:boolV op a b=some v) (ht:P.underlying t=some .bool):(binOp op t (.bool a) (.bool b)).run P x=.ok (.bool v) x:=by
 unfold boolV at h;split at h
 · cases h;simp[binOp,Op.equal,Op.maxDepth,run_equalIn_bool' x 9999 t a b ht]
 · cases h;simp[binOp,Op.equal,Op.maxDepth,run_equalIn_bool' x 9999 t a b ht]
 · cases h
theorem eqGuard_plain {op:BinOp} {t:TypeId} {p q:Operand} {a b:Value} (ha:plain a=true) (hb:plain b=true) (hn:errV a=false):(eqGuard op t p q a b).run P x=.ok () x:=by
 cases a<;>simp[plain]at ha<;>first|(cases op<;>rfl)|cases hn
end
def unS (op:UnOp):Value->Option Value
 | .int k n=>match op with
   | .neg=>some (.int k (k.wrap (0-n)))
   | .xor=>some (.int k (k.wrap (BitVec.ofInt k.bits (if k.signed then-1 else k.max) ^^^ BitVec.ofInt k.bits n).toNat))
   |_=>none
 | .bool b=>match op with
   | .not=>some (.bool !b)
   |_=>none
 |_=>none
theorem unS_ok {P:Program} {x:World} {op:UnOp} {a v:Value} (h:unS op a=some v):plain v=true/\(Op.unary op a).run P x=.ok v x:=by
 unfold unS at h;split at h<;>first|(cases h;done)|(split at h<;>first|(cases h;done)|(cases h;exact⟨rfl,rfl⟩))
def byteAt (s:DT) (i:Nat):Int:=(s.data.getD i 0).toNat
def yes (s:SV):Option (Prop×SV):=some (True,s)
def ofV:Option (Prop×Value)->Option (Prop×SV)
 |some (c,v)=>some (c,.p (.v v))
 |none=>none
abbrev TT:=List (TypeId×TyI)
def rPick (c a b:Option SV):Option (Prop×SV):=match c with
 |some (.p (.v (.bool c)))=>match a,b with
  |some (.p (.v (.bool x))),some (.p (.v (.bool y)))=>yes (.p (.v (.bool (bif c then x else y))))
  |a,b=>match c with
   |true=>match a with|some s=>yes s|none=>none
   |false=>match b with|some s=>yes s|none=>none
 |_=>none
def rBin (T:TT) (op:BinOp) (t:TypeId) (a b:Option SV):Option (Prop×SV):=match a,b with
 |some (.p (.v (.bool a))),some (.p (.v (.bool b)))=>match lk t T with
  |some ⟨_,_,.bool,_,_⟩=>match boolV op a b with
   |some v=>yes (.p (.v (.bool v)))
   |none=>none
  |_=>none
 |some (.p (.v a)),some (.p (.v b))=>ofV (binV op a b)
 |some (.p (.agg xs)),some (.p (.agg ys))=>match lk t T with
  |some ⟨_,_,_,z,true⟩=>match eqL xs ys with
   |some r=>match op with
    | .eql=>some (jh xs z=true,.p (.v (.bool r)))
    | .neq=>some (jh xs z=true,.p (.v (.bool !r)))
    |_=>none
   |none=>none
  |_=>none
 |_,_=>none
def rConv (T:TT) (src dst:TypeId) (a:Option SV):Option (Prop×SV):=match lk src T,lk dst T,a with
 |some ⟨_,_,.int _,_,_⟩,some ⟨_,_,.int k,_,_⟩,some (.p (.v (.int _ n)))=>yes (.p (.v (.int k (k.wrap n))))
 |some ⟨_,_,.str,_,_⟩,some ⟨_,_,.str,_,_⟩,some (.p (.v (.string s)))=>yes (.p (.v (.string s)))
 |some ⟨_,_,.cpx,_,_⟩,some ⟨_,_,.cpx,_,_⟩,some (.p (.v (.complex .f64 x y)))=>yes (.p (.v (.complex .f64 x y)))
 |_,_,_=>none
def takeT (i:TyI) (cs:List PV):Option PV:=match i.d.agg with
 |true=>bif Nat.ble i.size cs.length then some (.agg (cs.take i.size))else none
 |false=>match cs with
  |c::_=>some c
  |[]=>none
def takeS (i:TyI) (cs:List SV):Option SV:=match i.d.agg with
 |true=>bif Nat.ble i.size cs.length then some (mkAgg (cs.take i.size))else none
 |false=>match cs with
  |c::_=>some c
  |[]=>none
def rField (T:TT) (t:TypeId) (a:Option SV) (f:Nat):Option (Prop×SV):=match lk t T with
 |some ⟨_,_,.st fs,_,_⟩=>match fs[f]? with
  |some (off,ft)=>match lk ft T with
   |some i=>match a with
    |some (.p (.agg cs))=>match takeT i (cs.drop off)with
     |some s=>yes (.p s)
     |none=>none
    |some (.agg cs)=>match takeS i (cs.drop off)with
     |some s=>yes s
     |none=>none
    |_=>none
   |none=>none
  |none=>none
 |_=>none
def rFieldAddr (T:TT) (t:TypeId) (a:Option SV) (f:Nat):Option (Prop×SV):=match lk t T with
 |some ⟨_,_,.st fs,_,_⟩=>match fs[f]? with
  |some (off,ft)=>match lk ft T with
   |some i=>bif Nat.beq i.size 0 then none else match a with
    |some (.p (.rp cs))=>yes (.p (.rp (cs.drop off)))
    |some (.ptr j o)=>yes (.ptr j (o+off))
    |some (.eptr j z k o)=>yes (.eptr j z k (o+off))
    |_=>none
   |none=>none
  |none=>none
 |_=>none
def rIndexAddr (T:TT) (st:St) (t:TypeId) (a i:Option SV):Option (Prop×SV):=match lk t T with
 |some ⟨_,_,.sl e,_,_⟩=>match lk e T with
  |some ei=>match a,i with
   |some (.p (.sl z l)),some (.p (.v (.int _ n)))=>bif Nat.beq z ei.size then some (0<=n/\n<l.length,.p (.rp (l.getD n.toNat [])))else none
   |some (.row j),some (.p (.v (.int _ n)))=>match lk j st.own with
    |some (.row _ z l)=>bif Nat.beq z ei.size then some (0<=n/\n<l.length,.eptr j z n.toNat 0)else none
    |some (.rws _ z pre mid post)=>bif Nat.beq z ei.size then some (0<=n/\n<(pre.length+(mid.length/z+post.length):Nat),.ptr j (n.toNat*z))else none
    |_=>none
   |some (.view j z lo hi),some (.p (.v (.int _ n)))=>bif Nat.beq z ei.size then some (0<=n/\n<(hi-lo:Nat),.eptr j z (lo+n.toNat) 0)else none
   |_,_=>none
  |none=>none
 |some ⟨_,_,.arr len e,_,_⟩=>match lk e T with
  |some ei=>match a,i with
   |some (.p (.rp cs)),some (.p (.v (.int _ n)))=>some (0<=n/\n<len,.p (.rp (cs.drop (n.toNat*ei.size))))
   |some (.ptr j o),some (.p (.v (.int _ n)))=>some (0<=n/\n<len,.ptr j (o+n.toNat*ei.size))
   |_,_=>none
  |none=>none
 |_=>none
def rIndex (T:TT) (t:TypeId) (a i:Option SV):Option (Prop×SV):=match lk t T with
 |some ⟨_,_,.str,_,_⟩=>match a,i with
  |some (.p (.v (.string s))),some (.p (.v (.int _ n)))=>some (0<=n/\n<s.size,.p (.v (.int .u8 (byteAt s n.toNat))))
  |_,_=>none
 |some ⟨_,_,.arr len e,_,_⟩=>match lk e T with
  |some ei=>match a,i with
   |some (.p (.agg cs)),some (.p (.v (.int _ n)))=>match takeT ei (cs.drop (n.toNat*ei.size))with
    |some s=>some (0<=n/\n<len,.p s)
    |none=>none
   |_,_=>none
  |none=>none
 |_=>none
def intS (st:St) (o:Operand):Option Int:=match evS st o with
 |some (.p (.v (.int _ n)))=>some n
 |_=>none
def ends (st:St) (n:Nat):Option Operand->Option Operand->Option (Int×Int)
 |none,none=>some (0,(n:Int))
 |some l,none=>match intS st l with
  |some l=>some (l,(n:Int))
  |none=>none
 |none,some h=>match intS st h with
  |some h=>some (0,h)
  |none=>none
 |some l,some h=>match intS st l with
  |some l=>match intS st h with
   |some h=>some (l,h)
   |none=>none
  |none=>none
def rSlice (T:TT) (st:St) (t:TypeId) (a:Option SV) (lo hi mx:Option Operand):Option (Prop×SV):=match mx with
 |some _=>none
 |none=>match lk t T with
  |some ⟨_,_,.str,_,_⟩=>match a with
   |some (.p (.v (.string s)))=>match ends st s.size lo hi with
    |some (l,h)=>some (0<=l/\l<=h/\h<=s.size,.p (.v (.string (s.extract l.toNat h.toNat))))
    |none=>none
   |_=>none
  |some ⟨_,_,.sl e,_,_⟩=>match lk e T with
   |some ei=>match a with
    |some (.p (.sl z xs))=>bif Nat.beq z ei.size then match ends st xs.length lo hi with
     |some (l,h)=>some (0<=l/\l<=h/\h<=xs.length,.p (.sl z ((xs.drop l.toNat).take (h.toNat-l.toNat))))
     |none=>none
     else none
    |some (.row j)=>match lk j st.own with
     |some (.row _ z xs)=>bif Nat.beq z ei.size then match ends st xs.length lo hi with
      |some (l,h)=>some (0<=l/\l<=h/\h<=xs.length,.view j z l.toNat h.toNat)
      |none=>none
      else none
     |_=>none
    |some (.view j z lo0 hi0)=>bif Nat.beq z ei.size then match ends st (hi0-lo0) lo hi with
     |some (l,h)=>some (0<=l/\l<=h/\h<=(hi0-lo0:Nat),.view j z (lo0+l.toNat) (lo0+h.toNat))
     |none=>none
     else none
    |_=>none
   |none=>none
  |_=>none
def rLoad (T:TT) (K:List Nat) (st:St) (t:TypeId) (a:Option SV):Option (Prop×SV):=match lk t T with
 |some i=>match a with
  |some (.p (.rp cs))=>match takeT i cs with
   |some s=>yes (.p s)
   |none=>none
  |some (.ptr j o)=>match K.contains j with
   |true=>none
   |false=>match lk j st.own with
    |some bx=>match bx.cs? with
     |some cs=>match takeS i (cs.drop o)with
      |some s=>yes s
      |none=>none
     |none=>none
    |none=>none
  |some (.eptr j z k o)=>match K.contains j with
   |true=>none
   |false=>match lk j st.own with
    |some (.row _ z' l)=>bif Nat.beq z z' then(match takeT i ((l.getD k []).drop o)with
     |some s=>some (k<l.length,.p s)
     |none=>none)else none
    |_=>none
  |_=>none
 |none=>none
def rLen (T:TT) (st:St) (t:TypeId) (a:Option SV):Option (Prop×SV):=match lk t T with
 |some ⟨_,_,.str,_,_⟩=>match a with
  |some (.p (.v (.string s)))=>yes (.p (.v (.int .i64 s.size)))
  |_=>none
 |some ⟨_,_,.sl _,_,_⟩=>match a with
  |some (.p (.sl _ l))=>yes (.p (.v (.int .i64 l.length)))
  |some (.p (.v (.slice none 0 0)))=>yes (.p (.v (.int .i64 0)))
  |some (.row j)=>match lk j st.own with
   |some (.row _ _ l)=>yes (.p (.v (.int .i64 l.length)))
   |some (.rws _ z pre mid post)=>yes (.p (.v (.int .i64 (pre.length+(mid.length/z+post.length):Nat))))
   |_=>none
  |some (.view _ _ lo hi)=>yes (.p (.v (.int .i64 (hi-lo:Nat))))
  |_=>none
 |_=>none
def evs (st:St):List Operand->Option (List SV)
 |[]=>some []
 |x::r=>match evS st x,evs st r with
  |some s,some l=>some (s::l)
  |_,_=>none
def kdOk:Ty->Value->Bool
 | .str,.string _=>true
 | .int k,.int k' _=>decide (k'=k)
 |_,_=>false
def keyEq:Value->Value->Bool
 | .string a,.string b=>decide (a=b)
 | .int j a,.int k b=>decide (j=k/\a=b)
 |_,_=>false
def mfind (k:Value):List (Value×PV)->Option PV
 |[]=>none
 |(k',p)::r=>bif keyEq k k' then some p else mfind k r
def rLookup (T:TT) (K:List Nat) (st:St) (t:TypeId) (m k:Option SV):Option (Prop×SV):=match lk t T with
 |some ⟨_,_,.mp kt et,_,_⟩=>match lk kt T,lk et T with
  |some ki,some ei=>match m,k with
   |some (.row j),some (.p (.v kv))=>match K.contains j with
    |true=>none
    |false=>match lk j st.own with
     |some (.mp es)=>bif kdOk ki.d kv then some (es.all (fun x=>kdOk ki.d x.1)=true,.tup [match mfind kv es with|some p=>.p p|none=>(match ei.zero with|[]=>.p (.agg [])|_=>.junk),.p (.v (.bool (mfind kv es).isSome))])else none
     |_=>none
   |_,_=>none
  |_,_=>none
 |_=>none
def rParts (T:TT) (st:St) (fs:List (Nat×TypeId)):List (Nat×Operand)->List SV->Option (List SV)
 |[],zs=>some zs
 |(i,x)::r,zs=>match fs[i]? with
  |some (off,ft)=>match lk ft T with
   |some fi=>match evS st x with
    |some s=>match cellsOf s with
     |some xs=>bif Nat.beq xs.length fi.size&&Nat.ble (off+xs.length) zs.length then rParts T st fs r (zs.take off++xs++zs.drop (off+xs.length))else none
     |none=>none
    |none=>none
   |none=>none
  |none=>none
def rBuild (T:TT) (st:St) (t:TypeId) (parts:List (Nat×Operand)):Option (Prop×SV):=match lk t T with
 |some ⟨_,_,.st fs,z,_⟩=>bif z.all plain&&fs.all (fun f=>(lk f.2 T).isSome)then(match rParts T st fs parts (z.map fun v=>.p (.v v))with
  |some zs=>yes (mkAgg zs)
  |none=>none)else none
 |_=>none
def maxF (k:FloatKind) (x y:Nat):Option Nat:=match k.format.order x y with
 |none=>none
 |some .lt=>some y
 |some .gt=>some x
 |some .eq=>some (if(k.decode x).neg then y else x)
def rMinMax (mn:Bool) (a b:Option SV):Option (Prop×SV):=match a,b with
 |some (.p (.v (.float k x))),some (.p (.v (.float _ y)))=>match mn,maxF k x y with
  |false,some r=>yes (.p (.v (.float k r)))
  |_,_=>none
 |some (.p (.v (.int k x))),some (.p (.v (.int _ y)))=>yes (.p (.v (.int k (match mn with|true=>if y<x then y else x|false=>if x<y then y else x))))
 |_,_=>none
def rReal:Option SV->Option (Prop×SV)
 |some (.p (.v (.complex k x _)))=>yes (.p (.v (.float k x)))
 |_=>none
def rImag:Option SV->Option (Prop×SV)
 |some (.p (.v (.complex k _ y)))=>yes (.p (.v (.float k y)))
 |_=>none
def rCplx:Option SV->Option SV->Option (Prop×SV)
 |some (.p (.v (.float .f64 x))),some (.p (.v (.float .f64 y)))=>yes (.p (.v (.complex .f64 x y)))
 |_,_=>none
def opR (T:TT) (K:List Nat) (st:St) (o:Op):Option (Prop×SV):=match o with
 | .move x=>match evS st x with|some s=>yes s|none=>none
 | .assign x=>match evS st x with|some s=>yes s|none=>none
 | .pick c a b=>rPick (evS st c) (evS st a) (evS st b)
 | .binOp op t x y _=>rBin T op t (evS st x) (evS st y)
 | .unOp op _ x=>match evS st x with
   |some (.p (.v v))=>match unS op v with
    |some v=>yes (.p (.v v))
    |none=>none
   |_=>none
 | .convert s d x=>rConv T s d (evS st x)
 | .field t x f=>rField T t (evS st x) f
 | .fieldAddr t x f=>rFieldAddr T t (evS st x) f
 | .indexAddr t x i=>rIndexAddr T st t (evS st x) (evS st i)
 | .index t x i=>rIndex T t (evS st x) (evS st i)
 | .slice t x lo hi mx=>rSlice T st t (evS st x) lo hi mx
 | .load t a=>rLoad T K st t (evS st a)
 | .extract x n=>match evS st x with
   |some (.tup cs)=>match cs[n]? with
    |some s=>yes s
    |none=>none
   |_=>none
 | .makeFunc (.func f) first caps=>match first.size with
   |0=>match evs st caps.toList with
    |some l=>match pures l with
     |some ps=>yes (.p (.fn f ps))
     |none=>yes (.fn f l)
    |none=>none
   |_=>none
 | .call c=>match c.callee with
   | .builtin .len=>match c.args.toList,c.argTypes.toList with
     |[x],[t]=>rLen T st t (evS st x)
     |_,_=>none
   | .builtin .min=>match c.args.toList with
     |[x,y]=>rMinMax true (evS st x) (evS st y)
     |_=>none
   | .builtin .max=>match c.args.toList with
     |[x,y]=>rMinMax false (evS st x) (evS st y)
     |_=>none
   | .builtin .real=>match c.args.toList with
     |[x]=>rReal (evS st x)
     |_=>none
   | .builtin .imag=>match c.args.toList with
     |[x]=>rImag (evS st x)
     |_=>none
   | .builtin .complex=>match c.args.toList with
     |[x,y]=>rCplx (evS st x) (evS st y)
     |_=>none
   |_=>none
 | .lookup t m k true=>rLookup T K st t (evS st m) (evS st k)
 | .build t parts=>rBuild T st t parts.toList
 | .nilCheck x=>match evS st x with
   |some (.ptr j o)=>yes (.ptr j o)
   |some (.eptr j z k o)=>yes (.eptr j z k o)
   |some (.p (.rp cs))=>yes (.p (.rp cs))
   |_=>none
 |_=>none
theorem addr_add2 (a:Addr) (m n z:Nat):(a.add (m*z)).add (n*z)=a.add ((m+n)*z):=by
 rw[Nat.add_mul];generalize m*z=x;generalize n*z=y;unfold Addr.add;by_cases hx:x=0
 · subst hx;simp
 · by_cases hy:y=0
   · subst hy;simp
   · rw[Yc hx,Yc hy,Yc DP];simp[Nat.add_assoc]
theorem we (b o n:Nat):(⟨b,o,none⟩:Addr).add n=⟨b,o+n,none⟩:=by
 unfold Addr.add;split
 · simp[*]
 · rfl
section
variable {P:Program} {T:TT} (hT:zm P T) {K:List Nat} {w0:Base} {Sx:Nat->Prop} {γ:Nat->Value} {st:St} {a:Act} {w:World} (hI:Sim w0 Sx γ st a w)
def Rd (P:Program) (K:List Nat) (Sx:Nat->Prop) (γ:Nat->Value) (st:St) (w:World) (sem:Sem Value) (s:SV):Prop:=
 ∃v,RelS (okO Sx γ st.own) (hp γ st.own) w s v/\∀x,SameOn (vis K γ st.own) w x->sem.run P x=.ok v x
theorem zn {sem:Sem Value} {s:SV} {v:Value} (h:RelS (okO Sx γ st.own) (hp γ st.own) w s v) (h2:∀x,sem.run P x=.ok v x):Rd P K Sx γ st w sem s:=⟨v,h,fun x _=>h2 x⟩
theorem takeT_list {ok:Nat->Prop} {t:TypeId} {i:TyI} (hi:TyOk P t i) {cs:List PV} {us:List Value} {s:PV} (h:takeT i cs=some s) (hl:us.length=cs.length)
 (hr:∀(j:Nat) (s:PV) (u:Value),cs[j]?=some s->us[j]?=some u->RelP ok w s u):
 ∃v,RelP ok w s v/\(i.d.agg=true->v=.agg (us.take i.size).toArray/\i.size<=us.length)/\(i.d.agg=false->us[0]?=some v):=by
 unfold takeT at h;split at h
 · rename_i hg;cases hb:Nat.ble i.size cs.length with
   |false=>rw[hb]at h;cases h
   |true=>
    rw[hb]at h;simp only[cond_true,Ye]at h;subst h;have hle:i.size<=cs.length:=Y8 hb;refine⟨_,.agg (us:=us.take i.size) DE (fun j s u hj hu=>?_),fun _=>⟨rfl,by omega⟩,(fun h=>by rw[hg]at h;cases h)⟩;rw[Xv]at hj hu;split at hj
    · rename_i hlt;rw[Yi hlt]at hu;exact hr j s u hj hu
    · cases hj
 · rename_i hg;split at h
   · rename_i c r;simp only[Ye]at h;subst h;cases us with
     |nil=>simp at hl
     |cons u us=>
      refine⟨u,hr 0 _ u rfl rfl,(fun h=>by rw[hg]at h;cases h),fun _=>rfl⟩
   · cases h
theorem takeS_list {ok:Nat->Prop} {H:Nat->Option Value} {t:TypeId} {i:TyI} (hi:TyOk P t i) {cs:List SV} {us:List Value} {s:SV} (h:takeS i cs=some s) (hl:us.length=cs.length)
 (hr:∀(j:Nat) (s:SV) (u:Value),cs[j]?=some s->us[j]?=some u->RelS ok H w s u):
 ∃v,RelS ok H w s v/\(i.d.agg=true->v=.agg (us.take i.size).toArray/\i.size<=us.length)/\(i.d.agg=false->us[0]?=some v):=by
 unfold takeS at h;split at h
 · rename_i hg;cases hb:Nat.ble i.size cs.length with
   |false=>rw[hb]at h;cases h
   |true=>
    rw[hb]at h;simp only[cond_true,Ye]at h;subst h;have hle:i.size<=cs.length:=Y8 hb;refine⟨_,relS_mkAgg (us:=us.take i.size) DE (fun j s u hj hu=>?_),fun _=>⟨rfl,by omega⟩,(fun h=>by rw[hg]at h;cases h)⟩;rw[Xv]at hj hu;split at hj
    · rename_i hlt;rw[Yi hlt]at hu;exact hr j s u hj hu
    · cases hj
 · rename_i hg;split at h
   · rename_i c r;simp only[Ye]at h;subst h;cases us with
     |nil=>simp at hl
     |cons u us=>
      refine⟨u,hr 0 _ u rfl rfl,(fun h=>by rw[hg]at h;cases h),fun _=>rfl⟩
   · cases h
theorem RelP.rp_cells {ok:Nat->Prop} {cs:List PV} {u:Value} (h:RelP ok w (.rp cs) u):∃b o us,u=.pointer (some ⟨b,o,none⟩)/\ok b/\b<w.heap.size/\us.length=cs.length/\CellsAt w b o us/\
 ∀(j:Nat) (s:PV) (u:Value),cs[j]?=some s->us[j]?=some u->RelP ok w s u:=by
 cases h with
 |@rp cs b o hok hlt hx h=>
  have hex:∀j:Nat,∃u,j<cs.length->w.cell? ⟨b,o+j,none⟩=some u:=fun j=>by
   by_cases hj:j<cs.length
   · obtain⟨u,hu⟩:=hx j hj;exact⟨u,fun _=>hu⟩
   · exact⟨.nilIface,fun h=>absurd h hj⟩
  obtain⟨f,hf⟩:=Classical.axiomOfChoice hex;refine⟨b,o,(List.range cs.length).map f,rfl,hok,hlt,by simp,fun j u hj=>?_,fun j s u hs hu=>?_⟩
  · have hj':j<cs.length:=by have:=(Yq.1 hj).1;simpa using this
    simp[hj']at hj;rw[<-hj];exact hf j hj'
  · have hj':j<cs.length:=(Yq.1 hs).1;simp[hj']at hu;exact h j s u hs (by rw[<-hu];exact hf j hj')
theorem load_at {t:TypeId} {i:TyI} (hi:TyOk P t i) {b o:Nat} {us:List Value} {v:Value} (hc:CellsAt w b o us) (h1:i.d.agg=true->v=.agg (us.take i.size).toArray/\i.size<=us.length) (h2:i.d.agg=false->us[0]?=some v)
 {x:World} (hx:∀k,x.cell? ⟨b,k,none⟩=w.cell? ⟨b,k,none⟩):(Instr.loadAt t (.pointer (some ⟨b,o,none⟩))).run P x=.ok v x:=by
 simp only[Instr.loadAt,Instr.sureAddr,YG,YR,Ys,loadVar,hi.isAgg x];cases hg:i.d.agg with
 |true=>
  obtain⟨rfl,hle⟩:=h1 hg;simp only[if_true,YG,hi.size x,Ys];have:=run_loadCells_list (P:=P) x ⟨b,o,none⟩ (us.take i.size) (fun j v hj=>by
   rw[we,hx];rw[Xv]at hj;split at hj
   · exact hc j v hj
   · cases hj)
  rw[Yd,Nat.min_eq_left hle]at this;rw[this];rfl
 |false=>
  have h3:=hc 0 v (h2 hg);simp only[YC,if_false,load,Sem.run];rw[hx,<-Nat.add_zero o,h3]
theorem row_elem {B:Base} (h:HeapOk B Sx γ st.own w) {j:Nat} {e:TypeId} {z:Nat} {l:List (List PV)} (hj:lk j st.own=some (.row e z l)) {k:Nat} (hk:k<l.length):
 ∃b cs,zg (γ j)=some b/\b<w.heap.size/\CellsAt w b (k*z) cs/\cs.length=z/\rPV (okO Sx γ st.own) w cs l[k]:=by
 cases h.box j _ hj with
 |row hr he hm=>
  obtain⟨A,c,hv,hlc,hcm⟩:=hr.shape;obtain⟨css,h1,h2,h3⟩:=hr;rcases h1.2 with⟨hv',h0⟩|⟨g,cap,cur,hv',hg,hh,_⟩
  · omega
  · have h1':OwnF Subtype.val z w 0 e (.slice (some ⟨g,0,none⟩) css.length cap) css:=by rw[<-hv'];exact h1
    obtain⟨b,o,hA,hlt,hc⟩:=OwnF.slat (R:=fun _ cs (y:Cel z)=>cs=y.val) (fun x=>x.2.1) h1' (fun x _=>rfl) DP;simp only[Ye,Addr.mk.injEq]at hA;obtain⟨rfl,rfl,_⟩:=hA;obtain⟨cs,a1,a2,rfl⟩:=hc k DP;refine⟨g,_,by rw[hv'];rfl,hlt,by rw[Xk]at a2;exact a2,a1,?_⟩;refine good_PV.weak _ _ _ _ _ (fun c _ hok=>⟨hok.1.1,fun i bx hi hic=>?_⟩) (h3 k DP hk);by_cases e:i=j
    · subst e;refine hok.2 ?_;rw[hv']at hic⊢;rw[<-hic];rfl
    · exact hok.1.2 i bx hi e hic
theorem view_addr {B:Base} {own:List (Nat×Box)} (h:HeapOk B Sx γ own w) {j:Nat} {A:Option Addr} {n c:Nat} (hj:hp γ own j=some (.slice A n c)) (hn:0<n):∃b,A=some ⟨b,0,none⟩:=by
 cases hl:lk j own with
 |none=>unfold hp at hj;rw[hl]at hj;cases hj
 |some bx=>
  have hg:γ j=.slice A n c:=by unfold hp at hj;rw[hl]at hj;simpa using hj
  cases h.box j bx hl with
  |row hr=>
   obtain⟨css,h1,_⟩:=hr;rcases h1.2 with⟨hv,h0⟩|⟨g,cap,cur,hv,_⟩
   · rw[hg]at hv;cases hv;omega
   · rw[hg]at hv;cases hv;exact⟨g,rfl⟩
  |cells hg'=>rw[hg]at hg';cases hg'
  |mp hg'=>rw[hg]at hg';cases hg'
  |rws h1=>
   rcases h1.2 with⟨hv,h0⟩|⟨g,cap,cur,hv,_⟩
   · rw[hg]at hv;cases hv;omega
   · rw[hg]at hv;cases hv;exact⟨g,rfl⟩
theorem flatG_len {α β:Type} {f:α->List β} {z:Nat}:∀(l:List α) (_:∀x∈l,(f x).length=z),(l.flatMap f).length=l.length*z
 |[],_=>by simp
 |x::l,hf=>by
  rw[YW,Ya,flatG_len l (fun y hy=>hf y (by simp[hy])),hf x DQ,Yg,Nat.succ_mul];omega
theorem qbg {l:List (List PV)} {z:Nat} (h:∀x∈l,x.length=z):(rowF l).length=l.length*z:=flatG_len l fun x hx=>by rw[List.length_map];exact h x hx
theorem rwC_len {pre post:List (List PV)} {mid:List SV} {z n nm:Nat} (hp:∀x∈pre++post,x.length=z/\∀s∈x,oneP s=true) (hn:n=pre.length+(nm+post.length)) (hmid:mid.length=nm*z):(rwC pre mid post).length=n*z:=by
 rw[rwC,Ya,Ya,qbg fun x hx=>(hp x (List.mem_append_left _ hx)).1,qbg fun x hx=>(hp x (List.mem_append_right _ hx)).1,hmid,hn,Nat.add_mul,Nat.add_mul]
theorem box_cells {B:Base} (h:HeapOk B Sx γ st.own w) {j:Nat} {bx:Box} (hj:lk j st.own=some bx) {cs:List SV} (hc:bx.cs?=some cs) {b:Nat} (hb:zg (γ j)=some b):
 ∃us:List Value,b<w.heap.size/\us.length=cs.length/\(∀(k:Nat) (s:SV) (u:Value),cs[k]?=some s->us[k]?=some u->RelS (okO Sx γ st.own) (hp γ st.own) w s u)/\CellsAt w b 0 us:=by
 cases h.box j _ hj with
 |row=>cases hc
 |mp=>cases hc
 |@cells cs us ty b' hg' hB hh hl hr=>
  cases hc;rw[hg']at hb;simp only[zg,Ye]at hb;subst hb;refine⟨us,lt_of_block hh,hl,hr,fun k u hk=>?_⟩;unfold World.cell?;rw[hh];simpa using hk
 |@rws e z pre post mid css nm h1 hz hpp hn hmid hr hm hk=>
  cases hc;have hl:=rwC_len hpp hn hmid;rcases h1.2 with⟨hv,h0⟩|⟨g,cap,cur,hv,hg,hh,hnc,hcm,hcs,htake⟩
  · rw[hv]at hb;cases hb
  · rw[hv]at hb;simp only[zg,Ye]at hb;subst hb;refine⟨css.flatMap Subtype.val,lt_of_block hh,by rw[zU (fun x:Cel z=>x.2.1)];exact hl.symm,hr,fun k u hk=>?_⟩;unfold World.cell?;rw[hh];have hk':k<css.length*z:=by rw[<-zU (fun x:Cel z=>x.2.1) css];exact(Yq.1 hk).1
    rw[<-htake,List.getElem?_take_of_lt hk']at hk;simpa using hk
theorem rws_shape {B:Base} (h:HeapOk B Sx γ st.own w) {j:Nat} {e:TypeId} {z:Nat} {pre post:List (List PV)} {mid:List SV} (hj:lk j st.own=some (.rws e z pre mid post)):
 ∃A c,γ j=.slice A (pre.length+(mid.length/z+post.length)) c/\pre.length+(mid.length/z+post.length)<=c/\(0<pre.length+(mid.length/z+post.length)->∃b,A=some ⟨b,0,none⟩):=by
 cases h.box j _ hj with
 |@rws _ _ _ _ _ css nm h1 hz hpp hn hmid hr hm hk=>
  have hd:mid.length/z=nm:=by rw[hmid];exact Nat.mul_div_cancel _ hz
  rw[hd,<-hn];rcases h1.2 with⟨hv,h0⟩|⟨g,cap,cur,hv,hg,hh,hnc,_⟩
  · exact⟨none,0,by rw[hv,h0],by omega,fun h=>by omega⟩
  · exact⟨_,cap,hv,by omega,fun _=>⟨g,rfl⟩⟩
theorem RelS.eptr_inv {ok:Nat->Prop} {H:Nat->Option Value} {i z k o b:Nat} {u g:Value} (h:RelS ok H w (.eptr i z k o) u) (hg:H i=some g) (hb:zg g=some b):u=.pointer (some ⟨b,k*z+o,none⟩):=by
 cases h with
 |eptr h hb'=>rw[hg]at h;cases h;rw[hb]at hb';cases hb';rfl
include hT hI
theorem rLoad_ok {t:TypeId} {x:Operand} {s:SV} {c:Prop} (h:rLoad T K st t (evS st x)=some (c,s)) (hc:c):Rd P K Sx γ st w (Instr.loadAt t (a.eval x)) s:=by
 unfold rLoad at h;split at h
 · rename_i i hti;have hi:=hT t i hti;split at h
   · rename_i cs hx;split at h
     · rename_i s' hs;simp only[yes,Ye,Yt]at h;obtain⟨_,rfl⟩:=h;obtain⟨b,o,us,hu,hok,hlt,hl,hc,hr⟩:=(qK hI hx).p_inv.rp_cells;obtain⟨v,h1,h2,h3⟩:=takeT_list hi hs hl hr;refine⟨v,.p h1,fun y hy=>?_⟩;rw[hu];exact load_at hi hc h2 h3 fun k=>World.cell?_of_block (w:=w) (a:=⟨b,k,none⟩) (hy.block b hlt (okO_vis hok))
     · cases h
   · rename_i j o hx;split at h
     · cases h
     · rename_i hK;split at h
       · rename_i bx hj;split at h
         · rename_i cs hcs;split at h
           · rename_i s' hs;simp only[yes,Ye,Yt]at h;obtain⟨_,rfl⟩:=h;have he:=qK hI hx;generalize hau:a.eval x=u at he;cases he with
             |@ptr _ _ b g hg hb=>
              have e1:g=γ j:=by unfold hp at hg;rw[hj]at hg;simpa using hg.symm
              subst e1;obtain⟨us,hlt,hl,hr,hat⟩:=box_cells hI.heap hj hcs hb;obtain⟨v,h1,h2,h3⟩:=takeS_list (us:=us.drop o) (ok:=okO Sx γ st.own) (H:=hp γ st.own) (w:=w) hi hs DK (fun k s u hk hu=>hr (o+k) s u E3 E4);refine⟨v,h1,fun y hy=>?_⟩;refine load_at hi (o:=o) (us:=us.drop o) (fun k u hk=>?_) h2 h3 fun k=>World.cell?_of_block (w:=w) (a:=⟨b,k,none⟩) (hy.block b hlt fun i bx hib hiK hbi=>?_)
              · have:=hat (o+k) u E3;rwa [Xk]at this
              · have:j=i:=hI.heap.inj j i _ _ b hj hib hb hbi
                subst this;rw[hK]at hiK;cases hiK
           · cases h
         · cases h
       · cases h
   · rename_i j z k o hx;split at h
     · cases h
     · rename_i hK;split at h
       · rename_i e z' l hj;cases hz:Nat.beq z z' with
         |false=>rw[hz]at h;cases h
         |true=>
          rw[hz]at h;simp only[cond_true]at h;have hzz:z=z':=YK hz;subst hzz;split at h
          · rename_i s' hs;simp only[Ye,Yt]at h;obtain⟨rfl,rfl⟩:=h;obtain⟨b,us,hb,hlt,hcs,hlen,hrp⟩:=row_elem hI.heap hj hc;have hpj:hp γ st.own j=some (γ j):=by unfold hp;rw[hj]
            have hau:=(qK hI hx).eptr_inv hpj hb;have hgd:l.getD k []=l[k]:=by simp[hc]
            rw[hgd]at hs;obtain⟨v,h1,h2,h3⟩:=takeT_list (us:=us.drop o) (ok:=okO Sx γ st.own) (w:=w) hi hs (by simp[hrp.1]) (fun m s u hm hu=>hrp.2 (o+m) s u (by simpa [YV]using hm) E4);refine⟨v,.p h1,fun y hy=>?_⟩;rw[hau];refine load_at hi (o:=k*z+o) (fun m u hm=>?_) h2 h3 fun m=>World.cell?_of_block (w:=w) (a:=⟨b,m,none⟩) (hy.block b hlt fun i bx hib hiK hbi=>?_)
            · rw[Nat.add_assoc];exact hcs (o+m) u (by simpa [YV]using hm)
            · have:j=i:=hI.heap.inj j i _ _ b hj hib hb hbi
              subst this;rw[hK]at hiK;cases hiK
          · cases h
       · cases h
   · cases h
 · cases h
theorem rBin_ok {op:BinOp} {t:TypeId} {x y:Operand} {s:SV} {c:Prop} (h:rBin T op t (evS st x) (evS st y)=some (c,s)) (hc:c):
 Rd P K Sx γ st w (do eqGuard op t x y (a.eval x) (a.eval y);binOp op t (a.eval x) (a.eval y)) s:=by
 unfold rBin at h;split at h
 · rename_i p q hx hy;have ex:=(qK hI hx).v_inv;have ey:=(qK hI hy).v_inv;rw[ex,ey];split at h
   · rename_i hti;have hi:=(hT t _ hti).und;split at h
     · rename_i v hv;simp only[yes,Ye,Yt]at h;obtain⟨_,rfl⟩:=h;refine zn (.p (.v (by rfl:plain (.bool v)=true))) fun z=>?_
       rw[YG,eqGuard_plain rfl rfl rfl];exact boolV_ok hv hi
     · cases h
   · cases h
 · rename_i p q hneg hx hy;have ex:=qK hI hx;have ey:=qK hI hy;have px:plain (a.eval x)=true:=by have:=ex.p_inv;cases this;assumption
   have py:plain (a.eval y)=true:=by have:=ey.p_inv;cases this;assumption
   have ex:=ex.v_inv;have ey:=ey.v_inv;rw[ex]at px⊢;rw[ey]at py⊢;unfold ofV at h;split at h
   · rename_i c' v hv;simp only[Ye,Yt]at h;obtain⟨rfl,rfl⟩:=h;refine zn (.p (.v (binV_ok (P:=P) (x:=w) (t:=t) hv hc).1)) fun z=>?_
     rw[YG,eqGuard_plain px py (by cases p<;>first|rfl|(simp[binV]at hv;done))];exact(binV_ok hv hc).2
   · cases h
 · rename_i xs ys hx hy;split at h
   · rename_i _ _ _ z hti;have hi:=hT t _ hti;split at h
     · rename_i r hr;have hun:∀{xs ys:List PV} {r:Bool},eqL xs ys=some r->ys.length=xs.length/\(∀e∈xs,∃v,e=.v v)/\(∀e∈ys,∃v,e=.v v):=by
        intro xs
        induction xs with
        |nil=>intro ys r h;cases ys<;>simp[eqL]at h;simp
        |cons e xs ih=>
         intro ys r h;cases ys with
         |nil=>simp[eqL]at h
         |cons f ys=>
          unfold eqL at h;split at h
          · rename_i b1 h1;split at h
            · rename_i b2 h2;obtain⟨i1,i2,i3⟩:=ih h2;have:(∃v,e=.v v)/\(∃v,f=.v v):=by
               unfold eqC at h1;split at h1<;>first|(cases h1;done)|exact⟨⟨_,rfl⟩,⟨_,rfl⟩⟩
              exact⟨by simp[i1],List.forall_mem_cons.2 ⟨this.1,i2⟩,List.forall_mem_cons.2 ⟨this.2,i3⟩⟩
            · cases h
          · cases h
       obtain⟨hlen,hvx,hvy⟩:=hun hr;have val:∀{zs:List PV} {u:Value},(∀e∈zs,∃v,e=.v v)->RelP (okO Sx γ st.own) w (.agg zs) u->u=.agg (zs.map unv).toArray:=by
        intro zs u hz hu;cases hu with
        |@agg cs us hl h=>
         congr 1;congr 1;refine List.ext_getElem? fun i=>?_
         by_cases hi:i<zs.length
         · have h1:zs[i]?=some zs[i]:=Yj hi
           have h2:us[i]?=some (us[i]'DP):=Yj DP
           obtain⟨v,hv⟩:=hz zs[i] (Yn hi);have h3:=h i _ _ h1 h2;rw[hv]at h3;have h4:us[i]'DP=v:=by cases h3;rfl
           rw[YH,h1,h2,hv,h4];rfl
         · rw[YT DP,YH,YT DP];rfl
       have ex:=val hvx (qK hI hx).p_inv;have ey:=val hvy (qK hI hy).p_inv;rw[ex,ey];obtain⟨hg,he⟩:=hi.eqs rfl;split at h
       · simp only[Ye,Yt]at h;obtain⟨rfl,rfl⟩:=h;refine zn (.p (.v (by rfl:plain (.bool r)=true))) fun z=>?_
         rw[YG,run_eqGuard_agg z .eql t x y _ _ hg];simp only[Ys,run_eql_struct,he xs ys r z hr hc]
       · simp only[Ye,Yt]at h;obtain⟨rfl,rfl⟩:=h;refine zn (.p (.v (by rfl:plain (.bool !r)=true))) fun z=>?_
         rw[YG,run_eqGuard_agg z .neq t x y _ _ hg];simp only[Ys,run_neq_struct,he xs ys r z hr hc]
       · cases h
     · cases h
   · cases h
 · cases h
omit hT in
theorem rPick_ok {x y z:Operand} {s:SV} {c:Prop} (h:rPick (evS st x) (evS st y) (evS st z)=some (c,s)):
 Rd P K Sx γ st w (do pure (if<-asBool (a.eval x)then a.eval y else a.eval z)) s:=by
 unfold rPick at h;split at h
 · rename_i b hx;have ex:=(qK hI hx).v_inv;rw[ex];split at h
   · rename_i p q hy hz;have ey:=(qK hI hy).v_inv;have ez:=(qK hI hz).v_inv;rw[ey,ez];simp only[yes,Ye,Yt]at h;obtain⟨_,rfl⟩:=h;refine zn (.p (.v (by rfl:plain (.bool (bif b then p else q))=true))) fun z=>?_
     cases b<;>rfl
   · split at h
     · split at h
       · rename_i s' hy;simp only[yes,Ye,Yt]at h;obtain⟨_,rfl⟩:=h;exact zn (qK hI hy) fun z=>rfl
       · cases h
     · split at h
       · rename_i s' hz;simp only[yes,Ye,Yt]at h;obtain⟨_,rfl⟩:=h;exact zn (qK hI hz) fun z=>rfl
       · cases h
 · cases h
theorem rConv_ok {t d:TypeId} {x:Operand} {s:SV} {c:Prop} (h:rConv T t d (evS st x)=some (c,s)):Rd P K Sx γ st w (convert t d (a.eval x)) s:=by
 unfold rConv at h;split at h
 · rename_i ht hd hx;have ex:=(qK hI hx).v_inv;rw[ex];have ut:=(hT t _ ht).und;have ud:=(hT d _ hd).und;simp only[jV]at ut ud;simp only[yes,Ye,Yt]at h;obtain⟨_,rfl⟩:=h;refine zn (.p (.v rfl)) fun z=>?_
   simp[convert,run_underlying ut,run_underlying ud,Conv.intToInt]
 · rename_i ht hd hx;have ex:=(qK hI hx).v_inv;rw[ex];have ut:=(hT t _ ht).und;have ud:=(hT d _ hd).und;simp only[jV]at ut ud;simp only[yes,Ye,Yt]at h;obtain⟨_,rfl⟩:=h;refine zn (.p (.v rfl)) fun z=>?_
   simp[convert,run_underlying ut,run_underlying ud]
 · rename_i ht hd hx;have ex:=(qK hI hx).v_inv;rw[ex];have ut:=(hT t _ ht).und;have ud:=(hT d _ hd).und;simp only[jV]at ut ud;simp only[yes,Ye,Yt]at h;obtain⟨_,rfl⟩:=h;refine zn (.p (.v rfl)) fun z=>?_
   simp[convert,run_underlying ut,run_underlying ud,Conv.complexToComplex,Conv.floatToFloat]
 · cases h
omit hT hI in
theorem run_partT {ft:TypeId} {i:TyI} (hi:TyOk P ft i) {us:List Value} {off:Nat} {v:Value} (h1:i.d.agg=true->v=.agg ((us.drop off).take i.size).toArray/\i.size<=(us.drop off).length) (h2:i.d.agg=false->(us.drop off)[0]?=some v)
 (x:World):(part ft us.toArray off).run P x=.ok v x:=by
 simp only[part,YG,hi.isAgg x,Ys];cases hg:i.d.agg with
 |true=>
  obtain⟨rfl,hle⟩:=h1 hg;simp only[if_true,YG,hi.size x,Ys,YR];congr 2;rw[List.extract_toArray];congr 1;simp[List.extract_eq_take_drop]
 |false=>
  have h3:=h2 hg;simp only[YV,Nat.add_zero]at h3;simp[h3]
theorem rField_ok {t:TypeId} {x:Operand} {f:Nat} {s:SV} {c:Prop} (h:rField T t (evS st x) f=some (c,s)):Rd P K Sx γ st w (Instr.field t (a.eval x) f) s:=by
 unfold rField at h;split at h
 · rename_i fs _ _ ht;obtain⟨fields,hu,hf⟩:=(hT t _ ht).und;split at h
   · rename_i off ft hof;split at h
     · rename_i i hft;have hi:=hT ft i hft;have hfld:∃fl,fields[f]?=some fl/\fl.offset=off/\fl.type=ft:=by
        rw[<-hf]at hof;simp only[YH,YP,Yt]at hof;obtain⟨fl,h1,h2,h3⟩:=hof;exact⟨fl,by simpa using h1,h2,h3⟩
       obtain⟨fl,hfl,rfl,rfl⟩:=hfld;split at h
       · rename_i cs hx;have ex:=(qK hI hx).p_inv;generalize a.eval x=u at ex⊢;cases ex with
         |@agg _ us hl hr=>
          split at h
          · rename_i s' hs;simp only[yes,Ye,Yt]at h;obtain⟨_,rfl⟩:=h;obtain⟨v,h1,h2,h3⟩:=takeT_list (us:=us.drop fl.offset) (ok:=okO Sx γ st.own) (w:=w) hi hs DK (fun k s u hk hu=>hr (fl.offset+k) s u E3 E4);refine zn (.p h1) fun z=>?_
            simp only[Instr.field,YG,run_underlying hu,Ys,hfl,asAgg,YR];exact run_partT hi h2 h3 z
          · cases h
       · rename_i cs hx;have ex:=qK hI hx;generalize a.eval x=u at ex⊢;cases ex with
         |@agg _ us hl hr=>
          split at h
          · rename_i s' hs;simp only[yes,Ye,Yt]at h;obtain⟨_,rfl⟩:=h;obtain⟨v,h1,h2,h3⟩:=takeS_list (us:=us.drop fl.offset) (ok:=okO Sx γ st.own) (H:=hp γ st.own) (w:=w) hi hs DK (fun k s u hk hu=>hr (fl.offset+k) s u E3 E4);refine zn h1 fun z=>?_
            simp only[Instr.field,YG,run_underlying hu,Ys,hfl,asAgg,YR];exact run_partT hi h2 h3 z
          · cases h
       · cases h
     · cases h
   · cases h
 · cases h
end
section
variable {P:Program} {T:TT} (hT:zm P T) {K:List Nat} {w0:Base} {Sx:Nat->Prop} {γ:Nat->Value} {st:St} {a:Act} {w:World} (hI:Sim w0 Sx γ st a w)
theorem RelP.rp_drop {ok:Nat->Prop} {cs:List PV} {b o:Nat} (h:RelP ok w (.rp cs) (.pointer (some ⟨b,o,none⟩))) (n:Nat):RelP ok w (.rp (cs.drop n)) (.pointer (some ⟨b,o+n,none⟩)):=by
 cases h with
 |rp hok hlt hx h=>
  refine .rp hok hlt (fun j hj=>?_) (fun j s u hj hu=>?_)
  · rw[Nat.add_assoc];exact hx (n+j) (by simp at hj;omega)
  · rw[Nat.add_assoc]at hu;exact h (n+j) s u (by simpa [YV]using hj) hu
theorem RelP.rp_form {ok:Nat->Prop} {cs:List PV} {u:Value} (h:RelP ok w (.rp cs) u):∃b o,u=.pointer (some ⟨b,o,none⟩):=by cases h;exact⟨_,_,rfl⟩
theorem RelS.eptr_form {ok:Nat->Prop} {H:Nat->Option Value} {i z k o:Nat} {u:Value} (h:RelS ok H w (.eptr i z k o) u):∃b g,u=.pointer (some ⟨b,k*z+o,none⟩)/\H i=some g/\zg g=some b:=by cases h;exact⟨_,_,rfl,‹_›,‹_›⟩
theorem RelS.ptr_form {ok:Nat->Prop} {H:Nat->Option Value} {i o:Nat} {u:Value} (h:RelS ok H w (.ptr i o) u):∃b g,u=.pointer (some ⟨b,o,none⟩)/\H i=some g/\zg g=some b:=by cases h;exact⟨_,_,rfl,‹_›,‹_›⟩
include hT hI
theorem rFieldAddr_ok {t:TypeId} {x:Operand} {f:Nat} {s:SV} {c:Prop} (h:rFieldAddr T t (evS st x) f=some (c,s)):Rd P K Sx γ st w (Instr.fieldAt t (a.eval x) f) s:=by
 unfold rFieldAddr at h;split at h
 · rename_i fs _ _ ht;obtain⟨fields,hu,hf⟩:=(hT t _ ht).und;split at h
   · rename_i off ft hof;split at h
     · rename_i i hft;have hi:=hT ft i hft;have hfld:∃fl,fields[f]?=some fl/\fl.offset=off/\fl.type=ft:=by
        rw[<-hf]at hof;simp only[YH,YP,Yt]at hof;obtain⟨fl,h1,h2,h3⟩:=hof;exact⟨fl,by simpa using h1,h2,h3⟩
       obtain⟨fl,hfl,rfl,rfl⟩:=hfld;cases hz:Nat.beq i.size 0 with
       |true=>rw[hz]at h;cases h
       |false=>
        rw[hz]at h;simp only[cond_false]at h;have hne:i.size≠0:=fun e=>by rw[e]at hz;cases hz
        have run:∀b o (z:World),(Instr.fieldAt t (.pointer (some ⟨b,o,none⟩)) f).run P z=.ok (.pointer (some ⟨b,o+fl.offset,none⟩)) z:=fun b o z=>by
         simp only[Instr.fieldAt,YG,run_underlying hu,Ys,hfl,Instr.sureAddr,YR,fieldPlace,hi.size z];rw[Yc hne];simp[we]
        split at h
        · rename_i cs hx;simp only[yes,Ye,Yt]at h;obtain⟨_,rfl⟩:=h;have ex:=(qK hI hx).p_inv;obtain⟨b,o,hu'⟩:=ex.rp_form;rw[hu']at ex⊢;exact zn (.p (ex.rp_drop fl.offset)) (run b o)
        · rename_i j o hx;simp only[yes,Ye,Yt]at h;obtain⟨_,rfl⟩:=h;obtain⟨b,g,hu',h1,h2⟩:=(qK hI hx).ptr_form;rw[hu'];exact zn (.ptr h1 h2) (run b o)
        · rename_i j z k o hx;simp only[yes,Ye,Yt]at h;obtain⟨_,rfl⟩:=h;obtain⟨b,g,hu',h1,h2⟩:=(qK hI hx).eptr_form;rw[hu'];refine zn (.eptr h1 h2) fun z=>?_
          rw[<-Nat.add_assoc];exact run b _ z
        · cases h
     · cases h
   · cases h
 · cases h
theorem rIndexAddr_ok {t:TypeId} {x i:Operand} {s:SV} {c:Prop} (h:rIndexAddr T st t (evS st x) (evS st i)=some (c,s)) (hc:c):Rd P K Sx γ st w (Instr.indexAt t (a.eval x) (a.eval i)) s:=by
 unfold rIndexAddr at h;split at h
 · rename_i e _ _ ht;have hu:=(hT t _ ht).und;simp only[jV]at hu;split at h
   · rename_i ei hei;have hi:=hT e ei hei;split at h
     · rename_i z l k n hx hix;cases hz:Nat.beq z ei.size with
       |false=>rw[hz]at h;cases h
       |true=>
        rw[hz]at h;simp only[cond_true,Ye,Yt]at h;obtain⟨rfl,rfl⟩:=h;have hzz:z=ei.size:=YK hz;have hin:n.toNat<l.length:=by omega
        have ex:=(qK hI hx).p_inv;have ei':=(qK hI hix).v_inv;rw[ei'];obtain⟨A,c,hu',hlc,hm,he,hsl⟩:=ex.slat;obtain⟨b,o,rfl,hok,hlt,hel⟩:=hsl DP;obtain⟨us,h1,h2,h3⟩:=hel n.toNat hin;rw[hu'];refine zn (s:=.p (.rp (l.getD n.toNat []))) (v:=.pointer (some ⟨b,o+n.toNat*ei.size,none⟩)) (.p ?_) fun y=>?_
        · have hg:l.getD n.toNat []=l[n.toNat]:=by simp[hin]
          rw[hg,<-hzz];refine .rp hok hlt (fun j hj=>?_) (fun j s u hj hu=>?_)
          · exact⟨us[j]'(by rw[h3.1];exact hj),h2 j _ (Yj _)⟩
          · have hjl:j<us.length:=by rw[h3.1];exact(Yq.1 hj).1
            have h4:=h2 j _ (Yj hjl);rw[hu]at h4;exact h3.2 j s u hj (by rw[Yj hjl];exact h4.symm)
        · simp only[Instr.indexAt,asIntOf,YG,YR,Ys,run_underlying hu,hi.size y];rw[Yi hc];simp[we,hi.size y]
     · rename_i j k n hx hix;split at h
       · rename_i e' z l hj;cases hz:Nat.beq z ei.size with
         |false=>rw[hz]at h;cases h
         |true=>
          rw[hz]at h;simp only[cond_true,Ye,Yt]at h;obtain⟨rfl,rfl⟩:=h;have hzz:z=ei.size:=YK hz;subst hzz;have hin:n.toNat<l.length:=by omega
          obtain⟨b,us,hb,hlt,_⟩:=row_elem hI.heap hj hin;have hpj:hp γ st.own j=some (γ j):=by unfold hp;rw[hj]
          have ei':=(qK hI hix).v_inv;have ex:=qK hI hx;rw[ei'];generalize a.eval x=u at ex⊢;cases ex with
          |row hg=>
           rw[hpj]at hg;cases hg;have hsh:∃c,γ j=.slice (some ⟨b,0,none⟩) l.length c:=by
            cases hI.heap.box j _ hj with
            |row hr he hm=>
             obtain⟨css,h1,h2,h3⟩:=hr;rcases h1.2 with⟨hv',h0⟩|⟨g,cap,cur,hv',_⟩
             · omega
             · rw[hv']at hb⊢;simp only[zg,Ye]at hb;subst hb;exact⟨cap,by rw[h2]⟩
           obtain⟨c,hsh⟩:=hsh;have hv:(.pointer (some ⟨b,n.toNat*ei.size+0,none⟩):Value)=.pointer (some ⟨b,n.toNat*ei.size,none⟩):=rfl;refine zn (s:=.eptr j ei.size n.toNat 0) (.eptr hpj hb) fun y=>?_
           rw[hsh,hv];refine M4 ?_;rw[Yi hc];simp[we,hi.size y]
       · rename_i e' z pre mid post hj;cases hz:Nat.beq z ei.size with
         |false=>rw[hz]at h;cases h
         |true=>
          rw[hz]at h;simp only[cond_true,Ye,Yt]at h;obtain⟨rfl,rfl⟩:=h;have hzz:z=ei.size:=YK hz;subst hzz;have ei':=(qK hI hix).v_inv;have ex:=qK hI hx;rw[ei'];obtain⟨A,c,hsh,_,hA⟩:=rws_shape hI.heap hj;obtain⟨b,rfl⟩:=hA DP;have hpj:hp γ st.own j=some (γ j):=by unfold hp;rw[hj]
          generalize a.eval x=u at ex⊢;cases ex with
          |row hg=>
           rw[hpj]at hg;cases hg;refine zn (s:=.ptr j (n.toNat*ei.size)) (v:=.pointer (some ⟨b,n.toNat*ei.size,none⟩)) (.ptr hpj (by rw[hsh];rfl)) fun y=>?_
           rw[hsh];refine M4 ?_;rw[Yi hc];simp[we,hi.size y]
       · cases h
     · rename_i j z lo hi' k n hx hix;cases hz:Nat.beq z ei.size with
       |false=>rw[hz]at h;cases h
       |true=>
        rw[hz]at h;simp only[cond_true,Ye,Yt]at h;obtain⟨rfl,rfl⟩:=h;have hzz:z=ei.size:=YK hz;subst hzz;have ei':=(qK hI hix).v_inv;have ex:=qK hI hx;rw[ei'];generalize a.eval x=u at ex⊢;cases ex with
        |@view _ _ _ _ m c A A' hg h1 h2 h3 h4=>
         obtain⟨b,rfl⟩:=view_addr hI.heap hg DP;have hA':=h4 (Or.inl DP);rw[Option.map_some,we]at hA';subst hA';refine zn (s:=.eptr j ei.size (lo+n.toNat) 0) (.eptr hg rfl) fun y=>?_
         have hv:(.pointer (some ⟨b,(lo+n.toNat)*ei.size+0,none⟩):Value)=.pointer (some ⟨b,0+lo*ei.size+n.toNat*ei.size,none⟩):=by rw[Nat.add_mul,Xk,Nat.add_zero]
         rw[hv];refine M4 ?_;rw[Yi hc];simp[we,hi.size y]
     · cases h
   · cases h
 · rename_i len e _ _ ht;have hu:=(hT t _ ht).und;simp only[jV]at hu;split at h
   · rename_i ei hei;have hi:=hT e ei hei;have run:∀b o k (n:Int) (y:World),0<=n/\n<len->(Instr.indexAt t (.pointer (some ⟨b,o,none⟩)) (.int k n)).run P y=.ok (.pointer (some ⟨b,o+n.toNat*ei.size,none⟩)) y:=fun b o k n y hc=>by
      simp only[Instr.indexAt,asIntOf,YG,YR,Ys,run_underlying hu,Instr.sureAddr];rw[Yi hc];simp[we,hi.size y]
     split at h
     · rename_i cs k n hx hix;simp only[Ye,Yt]at h;obtain⟨rfl,rfl⟩:=h;have ex:=(qK hI hx).p_inv;have ei':=(qK hI hix).v_inv;obtain⟨b,o,hu'⟩:=ex.rp_form;rw[hu']at ex⊢;rw[ei'];exact zn (.p (ex.rp_drop _)) fun y=>run b o k n y hc
     · rename_i j o k n hx hix;simp only[Ye,Yt]at h;obtain⟨rfl,rfl⟩:=h;have ei':=(qK hI hix).v_inv;obtain⟨b,g,hu',h1,h2⟩:=(qK hI hx).ptr_form;rw[hu',ei'];exact zn (.ptr h1 h2) fun y=>run b o k n y hc
     · cases h
   · cases h
 · cases h
theorem rIndex_ok {t:TypeId} {x i:Operand} {s:SV} {c:Prop} (h:rIndex T t (evS st x) (evS st i)=some (c,s)) (hc:c):Rd P K Sx γ st w (Instr.index t (a.eval x) (a.eval i)) s:=by
 unfold rIndex at h;split at h
 · rename_i ht;have hu:=(hT t _ ht).und;simp only[jV]at hu;split at h
   · rename_i q k n hx hix;simp only[Ye,Yt]at h;obtain⟨rfl,rfl⟩:=h;have ex:=(qK hI hx).v_inv;have ei':=(qK hI hix).v_inv;rw[ex,ei'];refine zn (.p (.v rfl)) fun y=>?_
     have hlt:n.toNat<q.size:=by omega
     have hg:q[n.toNat]?=some q[n.toNat]:=by simp[hlt]
     simp only[Instr.index,asIntOf,YG,YR,Ys,run_underlying hu];rw[Yi hc.1,hg];have:byteAt q n.toNat=(q[n.toNat]).toNat:=by
      have h1:q.data.getD n.toNat 0=q.data[n.toNat]'hlt:=by simp only[Array.getD,show n.toNat<q.data.size from hlt,dite_true,Array.getInternal_eq_getElem]
      unfold byteAt;rw[h1];rfl
     rw[this];rfl
   · cases h
 · rename_i len e _ _ ht;have hu:=(hT t _ ht).und;simp only[jV]at hu;split at h
   · rename_i ei hei;have hi:=hT e ei hei;split at h
     · rename_i cs k n hx hix;split at h
       · rename_i s' hs;simp only[Ye,Yt]at h;obtain⟨rfl,rfl⟩:=h;have ex:=(qK hI hx).p_inv;have ei':=(qK hI hix).v_inv;rw[ei'];generalize a.eval x=u at ex⊢;cases ex with
         |@agg _ us hl hr=>
          obtain⟨v,h1,h2,h3⟩:=takeT_list (us:=us.drop (n.toNat*ei.size)) (ok:=okO Sx γ st.own) (w:=w) hi hs DK (fun k s u hk hu=>hr (n.toNat*ei.size+k) s u E3 E4);refine zn (.p h1) fun z=>?_
          simp only[Instr.index,asIntOf,YG,YR,Ys,run_underlying hu];rw[Yi hc];simp only[YG,hi.size z,Ys];exact run_partT hi h2 h3 z
       · cases h
     · cases h
   · cases h
 · cases h
omit hT hI in
theorem run_bound {v:Value} {k:IntKind} {n:Int} (hv:v=.int k n) {y:Nat} {code:BoundsCode} (h:0<=n/\n<=y) (z:World):(Instr.sliceBound v y code).run P z=.ok n.toNat z:=by
 subst hv;simp only[Instr.sliceBound,asIntOf,YG,YR,Ys];rw[Yi h];rfl
omit hT in
theorem intS_ok {o:Operand} {n:Int} (h:intS st o=some n):∃k,a.eval o=.int k n:=by
 unfold intS at h;split at h
 · rename_i k n' ho;simp only[Ye]at h;subst h;exact⟨k,(qK hI ho).v_inv⟩
 · cases h
omit hT in
theorem ends_ok {n cap:Nat} {isSlice:Bool} {lo hi:Option Operand} {l r:Int} (h:ends st n lo hi=some (l,r)) (hc:0<=l/\l<=r/\r<=n) (hcap:n<=cap) (z:World):
 (Instr.sliceBounds isSlice n cap (lo.map a.eval) (hi.map a.eval) none).run P z=.ok (l.toNat,r.toNat,cap) z:=by
 unfold ends at h;cases lo with
 |none=>
  cases hi with
  |none=>
   simp only[Ye,Yt]at h;obtain⟨rfl,rfl⟩:=h;simp[Instr.sliceBounds]
  |some q=>
   try simp only at h
   split at h
   · rename_i r' hq;simp only[Ye,Yt]at h;obtain⟨rfl,rfl⟩:=h;obtain⟨k,hk⟩:=intS_ok hI hq;simp only[Instr.sliceBounds,Option.map_some,Option.map_none,YG,YR,Ys,run_bound hk (P:=P) (show 0<=r'/\r'<=(cap:Int)by omega) z];rfl
   · cases h
 |some p=>
  try simp only at h
  cases hi with
  |none=>
   try simp only at h
   split at h
   · rename_i l' hp;simp only[Ye,Yt]at h;obtain⟨rfl,rfl⟩:=h;obtain⟨k,hk⟩:=intS_ok hI hp;simp only[Instr.sliceBounds,Option.map_some,Option.map_none,YG,YR,Ys,run_bound hk (P:=P) (show 0<=l'/\l'<=(n:Int)by omega) z];simp
   · cases h
  |some q=>
   try simp only at h
   split at h
   · rename_i l' hp;split at h
     · rename_i r' hq;simp only[Ye,Yt]at h;obtain⟨rfl,rfl⟩:=h;obtain⟨k,hk⟩:=intS_ok hI hp;obtain⟨k',hk'⟩:=intS_ok hI hq;simp only[Instr.sliceBounds,Option.map_some,YG,YR,Ys,run_bound hk' (P:=P) (show 0<=r'/\r'<=(cap:Int)by omega) z,run_bound hk (P:=P) (y:=r'.toNat) (show 0<=l'/\l'<=(r'.toNat:Int)by omega) z]
     · cases h
   · cases h
theorem rSlice_ok {t:TypeId} {x:Operand} {lo hi mx:Option Operand} {s:SV} {c:Prop} (h:rSlice T st t (evS st x) lo hi mx=some (c,s)) (hc:c):
 Rd P K Sx γ st w (Instr.sliceAt t (a.eval x) (lo.map a.eval) (hi.map a.eval) (mx.map a.eval)) s:=by
 unfold rSlice at h;split at h
 · cases h
 · split at h
   · rename_i ht;have hu:=(hT t _ ht).und;simp only[jV]at hu;split at h
     · rename_i q hx;split at h
       · rename_i l r he;simp only[Ye,Yt]at h;obtain⟨rfl,rfl⟩:=h;have ex:=(qK hI hx).v_inv;rw[ex];refine zn (.p (.v rfl)) fun z=>?_
         simp only[Instr.sliceAt,Instr.slice,YG,run_underlying hu,Ys,Option.map_none,Option.isSome_none,YC,if_false,ends_ok hI (P:=P) (isSlice:=false) he hc (Yk _) z,YR]
       · cases h
     · cases h
   · rename_i e _ _ ht;have hu:=(hT t _ ht).und;simp only[jV]at hu;split at h
     · rename_i ei hei;have hi':=hT e ei hei;split at h
       · rename_i zz xs hx;cases hz:Nat.beq zz ei.size with
         |false=>rw[hz]at h;cases h
         |true=>
          rw[hz]at h;simp only[cond_true]at h;have hzz:zz=ei.size:=YK hz;split at h
          · rename_i l r he;simp only[Ye,Yt]at h;obtain⟨rfl,rfl⟩:=h;obtain⟨A,c,hu',hlc,hm,hee,hsl⟩:=(qK hI hx).p_inv.slat;rw[hu'];have hlen:((xs.drop l.toNat).take (r.toNat-l.toNat)).length=r.toNat-l.toNat:=by simp;omega
            refine zn (s:=.p (.sl zz ((xs.drop l.toNat).take (r.toNat-l.toNat)))) (v:=.slice (if c=l.toNat then A else A.map (·.add (l.toNat*ei.size))) ((xs.drop l.toNat).take (r.toNat-l.toNat)).length (c-l.toNat)) (.p ?_) fun z=>?_
            · refine .of_slat (by rw[hlen];omega) ⟨by rw[hlen];omega,by omega⟩ (fun e he=>hee e (YX (Xd he))) fun hl=>?_
              rw[hlen]at hl;obtain⟨b,o,rfl,hok,hlt,hel⟩:=hsl DP;refine⟨b,o+l.toNat*ei.size,?_,hok,hlt,fun i hi=>?_⟩
              · rw[Yc DP];simp[we]
              · rw[hlen]at hi;obtain⟨us,h1,h2,h3⟩:=hel (l.toNat+i) DP;refine⟨us,h1,?_,?_⟩
                · rw[Nat.add_assoc,<-hzz,<-Nat.add_mul];exact h2
                · simpa using h3
            · rw[hlen];exact Gz
          · cases h
       · rename_i j hx;split at h
         · rename_i e' zz xs hj;cases hz:Nat.beq zz ei.size with
           |false=>rw[hz]at h;cases h
           |true=>
            rw[hz]at h;simp only[cond_true]at h;have hzz:zz=ei.size:=YK hz;split at h
            · rename_i l r he;simp only[Ye,Yt]at h;obtain⟨rfl,rfl⟩:=h;have ex:=qK hI hx;generalize a.eval x=u at ex⊢;cases ex with
              |row hg=>
               cases hI.heap.box j _ hj with
               |row hr hel hm=>
                obtain⟨A,c,hv,hlc,_⟩:=hr.shape;have hg':=hg;unfold hp at hg';rw[hj]at hg';cases hg';rw[hv]at hg⊢;refine zn (s:=.view j zz l.toNat r.toNat) (v:=.slice (if c=l.toNat then A else A.map (·.add (l.toNat*ei.size))) (r.toNat-l.toNat) (c-l.toNat)) (.view hg DP DP hlc fun hlt=>by
                 split
                 · have h0:l.toNat=0:=by omega
                   rw[h0,Nat.zero_mul];cases A with
                   |none=>rfl
                   |some ad=>simp[Addr.add]
                 · rw[hzz]) fun z=>?_
                exact Gz
            · cases h
         · cases h
       · rename_i j zz lo0 hi0 hx;cases hz:Nat.beq zz ei.size with
         |false=>rw[hz]at h;cases h
         |true=>
          rw[hz]at h;simp only[cond_true]at h;have hzz:zz=ei.size:=YK hz;split at h
          · rename_i l r he;simp only[Ye,Yt]at h;obtain⟨rfl,rfl⟩:=h;have ex:=qK hI hx;generalize a.eval x=u at ex⊢;cases ex with
            |@view _ _ _ _ n c A A' hg h1 h2 h3 h4=>
             have e1:r.toNat-l.toNat=lo0+r.toNat-(lo0+l.toNat):=by omega
             have e2:c-lo0-l.toNat=c-(lo0+l.toNat):=by omega
             refine zn (s:=.view j zz (lo0+l.toNat) (lo0+r.toNat)) (v:=.slice (if c-lo0=l.toNat then A' else A'.map (·.add (l.toNat*ei.size))) (lo0+r.toNat-(lo0+l.toNat)) (c-(lo0+l.toNat))) (.view hg DP DP h3 fun hlt=>?_) fun z=>?_
             · have e0:(if c-lo0=l.toNat then A' else A'.map (·.add (l.toNat*ei.size)))=A'.map (·.add (l.toNat*ei.size)):=by
                split
                · have h0:l.toNat=0:=by omega
                  rw[h0,Nat.zero_mul];cases A' with
                  |none=>rfl
                  |some ad=>simp[Addr.add]
                · rfl
               rw[e0,h4 DP,hzz];cases A with
               |none=>rfl
               |some ad=>
                simp only[Option.map_some,Ye];exact addr_add2 ad lo0 l.toNat ei.size
             · simp only[Instr.sliceAt,Instr.slice,YG,run_underlying hu,Ys,Option.map_none,ends_ok hI (P:=P) (isSlice:=true) (cap:=c-lo0) he hc DP z,YR,hi'.size z,e1,e2]
          · cases h
       · cases h
     · cases h
   · cases h
omit hT in
theorem evs_ok {l:List Operand} {ss:List SV} (h:evs st l=some ss):l.length=ss.length/\∀(i:Nat) (s:SV) (u:Value),ss[i]?=some s->(l.map a.eval)[i]?=some u->RelS (okO Sx γ st.own) (hp γ st.own) w s u:=by
 induction l generalizing ss with
 |nil=>simp only[evs,Ye]at h;subst h;simp
 |cons o l ih=>
  unfold evs at h;split at h
  · rename_i s0 l0 h1 h2;simp only[Ye]at h;subst h;obtain⟨i1,i2⟩:=ih h2;refine⟨by simp[i1],fun i s u hs hu=>?_⟩;cases i with
    |zero=>simp at hs hu;subst hs;subst hu;exact qK hI h1
    |succ i=>exact i2 i s u (by simpa using hs) Dj
  · cases h
theorem rLen_ok {t ty:TypeId} {x:Operand} {s:SV} {c:Prop} (h:rLen T st t (evS st x)=some (c,s)):Rd P K Sx γ st w (Builtin.len_ #[t] ty #[a.eval x]) s:=by
 unfold rLen at h;split at h
 · rename_i ht;have hu:=(hT t _ ht).und;simp only[jV]at hu;split at h
   · rename_i q hx;simp only[yes,Ye,Yt]at h;obtain⟨_,rfl⟩:=h;rw[(qK hI hx).v_inv];refine zn (.p (.v rfl)) fun z=>?_
     simp[Builtin.len_,run_underlying hu,goInt]
   · cases h
 · rename_i e _ _ ht;have hu:=(hT t _ ht).und;simp only[jV]at hu;have run:∀A n c (z:World),(Builtin.len_ #[t] ty #[.slice A n c]).run P z=.ok (.int .i64 n) z:=fun A n c z=>by
    simp[Builtin.len_,run_underlying hu,goInt]
   split at h
   · rename_i zz l hx;simp only[yes,Ye,Yt]at h;obtain⟨_,rfl⟩:=h;obtain⟨A,c,hu',_⟩:=(qK hI hx).p_inv.slat;rw[hu'];exact zn (.p (.v rfl)) (run _ _ _)
   · rename_i hx;simp only[yes,Ye,Yt]at h;obtain⟨_,rfl⟩:=h;rw[(qK hI hx).v_inv];exact zn (.p (.v rfl)) (run _ _ _)
   · rename_i j hx;split at h
     · rename_i e' z' l hj;simp only[yes,Ye,Yt]at h;obtain⟨_,rfl⟩:=h;have ex:=qK hI hx;generalize a.eval x=u at ex⊢;cases ex with
       |@row _ _ hg=>
        have e1:u=γ j:=by unfold hp at hg;rw[hj]at hg;simpa using hg.symm
        cases hI.heap.box j _ hj with
        |row hr he=>
         obtain⟨A,c,hv,_⟩:=hr.shape;rw[e1,hv];exact zn (.p (.v rfl)) (run _ _ _)
     · rename_i e' z pre mid post hj;simp only[yes,Ye,Yt]at h;obtain⟨_,rfl⟩:=h;have ex:=qK hI hx;generalize a.eval x=u at ex⊢;cases ex with
       |@row _ _ hg=>
        have e1:u=γ j:=by unfold hp at hg;rw[hj]at hg;simpa using hg.symm
        obtain⟨A,c,hv,_⟩:=rws_shape hI.heap hj;rw[e1,hv];exact zn (.p (.v rfl)) (run _ _ _)
     · cases h
   · rename_i lo hi hx;simp only[yes,Ye,Yt]at h;obtain⟨_,rfl⟩:=h;have ex:=qK hI hx;generalize a.eval x=u at ex⊢;cases ex with
     |view=>exact zn (.p (.v rfl)) (run _ _ _)
   · cases h
 · cases h
omit hT in
theorem rMinMax_ok {mn:Bool} {x y:Operand} {s:SV} {c:Prop} {ts:Array TypeId} {ty:TypeId} (h:rMinMax mn (evS st x) (evS st y)=some (c,s)):
 Rd P K Sx γ st w (match mn with|true=>Builtin.min_ ts ty #[a.eval x,a.eval y]|false=>Builtin.max_ ts ty #[a.eval x,a.eval y]) s:=by
 unfold rMinMax at h;split at h
 · rename_i k p k' q hx hy;cases hr:maxF k p q with
   |none=>rw[hr]at h;cases mn<;>cases h
   |some r=>
    rw[hr]at h;cases mn with
    |true=>cases h
    |false=>
     simp only[yes,Ye,Yt]at h;obtain⟨_,rfl⟩:=h;rw[(qK hI hx).v_inv,(qK hI hy).v_inv];refine zn (.p (.v rfl)) fun z=>?_
     unfold maxF at hr;split at hr<;>rename_i ho<;>first|(cases hr;done)|(obtain rfl:=YS hr;simp[Builtin.max_,Builtin.max2,ho])
 · rename_i k p k' q hx hy;simp only[yes,Ye,Yt]at h;obtain⟨_,rfl⟩:=h;rw[(qK hI hx).v_inv,(qK hI hy).v_inv];refine zn (.p (.v rfl)) fun z=>?_
   cases mn
   · simp[Builtin.max_,Builtin.max2]
   · simp[Builtin.min_,Builtin.min2]
 · cases h
omit hT hI in
theorem kd_und {t:TypeId} {d:Ty} {v:Value} (hu:jV P t d) (h:kdOk d v=true):∃td,P.underlying t=some td/\∀u,kdOk d u=true->MapKept.IsKey td u:=by
 unfold kdOk at h;split at h
 · refine⟨.string,hu,fun u hu=>?_⟩;cases u<;>first|exact True.intro|cases hu
 · rename_i k k' n;refine⟨.int k,hu,fun u hu=>?_⟩;cases u<;>first|(simp[kdOk]at hu;done)|(simp only[kdOk,Yf]at hu;exact hu)
 · cases h
omit hT hI in
theorem sameNow_eq {d:Ty} {td:TypeDesc} {a b:Value} (hd:∀u,kdOk d u=true->MapKept.IsKey td u) (ha:kdOk d a=true) (hb:kdOk d b=true):Instr.sameNow td a b=some (keyEq a b):=by
 have h1:=hd a ha;have h2:=hd b hb;cases td<;>cases a<;>first|(exact h1.elim)|skip
 all_goals cases b<;>first|(exact h2.elim)|skip
 · exact(by cases d<;>cases ha)
 · rename_i k k1 n1 k2 n2;have e1:k1=k:=h1;have e2:k2=k:=h2;subst e1;subst e2;simp[Instr.sameNow,keyEq];rw[YO,beq_iff_eq,decide_eq_true_iff]
 · rename_i x y;have:(x==y)=decide (x=y):=by
    rw[YO,MapKept.bytes_beq,decide_eq_true_iff]
   simp[Instr.sameNow,keyEq,this]
omit hT hI in
theorem qbl {d:Ty} {td:TypeDesc} {k:Value} (hd:∀u,kdOk d u=true->MapKept.IsKey td u) (hk:kdOk d k=true):∀{es:List (Value×PV)} {ens:List MapEntry} (i:Nat),ens.length=es.length->(∀(j:Nat) (x:Value×PV) (e:MapEntry),es[j]?=some x->ens[j]?=some e->e.key=x.1)->
 es.all (fun x=>kdOk d x.1)=true->(mfind k es=none/\Instr.findNow td k ens i=some none)\/∃(j:Nat) (x:Value×PV) (e:MapEntry),mfind k es=some x.2/\es[j]?=some x/\ens[j]?=some e/\Instr.findNow td k ens i=some (some (i+j,e.val))
 |[],[],i,_,_,_=>Or.inl ⟨rfl,rfl⟩
 |[],_::_,i,h,_,_=>by simp at h
 |_::_,[],i,h,_,_=>by simp at h
 |(k',p)::es,e::ens,i,hl,hr,ha=>by
  simp only[List.all_cons,Yp]at ha;have e0:e.key=k':=hr 0 _ _ rfl rfl;have hs:=sameNow_eq hd hk ha.1;cases hq:keyEq k k' with
  |true=>
   refine Or.inr ⟨0,(k',p),e,by simp[mfind,hq],rfl,rfl,?_⟩;simp[Instr.findNow,e0,hs,hq]
  |false=>
   rcases qbl hd hk (es:=es) (ens:=ens) (i+1) Dk (fun j x e h1 h2=>hr (j+1) x e (by simpa using h1) Dl) ha.2 with⟨h1,h2⟩|⟨j,x,e2,h1,h2,h3,h4⟩
   · exact Or.inl ⟨by simp[mfind,hq,h1],by simp[Instr.findNow,e0,hs,hq,h2]⟩
   · exact Or.inr ⟨j+1,x,e2,by simp[mfind,hq,h1],by simpa using h2,by simpa using h3,by simp only[Instr.findNow,e0,hs,hq,h4];congr 3;omega⟩
theorem rLookup_ok {t:TypeId} {m k:Operand} {s:SV} {c:Prop} (h:rLookup T K st t (evS st m) (evS st k)=some (c,s)) (hc:c):Rd P K Sx γ st w (Instr.lookup t (a.eval m) (a.eval k) true) s:=by
 unfold rLookup at h;split at h
 · rename_i kt et _ _ ht;have hu:=(hT t _ ht).und;simp only[jV]at hu;split at h
   · rename_i ki ei hk he;split at h
     · rename_i j kv hm hkv;split at h
       · cases h
       · rename_i hK;split at h
         · rename_i es hj;cases hd:kdOk ki.d kv with
           |false=>rw[hd]at h;cases h
           |true=>
            rw[hd]at h;simp only[cond_true,Ye,Yt]at h;obtain⟨rfl,rfl⟩:=h;obtain⟨td,q1,q2⟩:=kd_und (hT kt _ hk).und hd;obtain⟨info,zv,z1,_,_,z2,z3⟩:=(hT et _ he).info;cases hI.heap.box j _ hj with
            |@mp _ ens clock b hg hB hh hl hr=>
             have hkv':=(qK hI hkv).v_inv;have hmv:a.eval m=.map (some b):=by
              have:=qK hI hm;generalize a.eval m=u at this⊢;cases this with
              |row h0=>unfold hp at h0;rw[hj]at h0;simp only[Ye]at h0;rw[<-h0,hg]
             have hlook:∀x:World,SameOn (vis K γ st.own) w x->x.heap[b]?=some (.map ens.toArray clock):=fun x hx=>by
              rw[hx.block b (lt_of_block hh) fun i bx hi hKi hb=>?_];exact hh;have:=hI.heap.inj i j _ _ b hi hj hb DD;subst this;rw[hK]at hKi;cases hKi
             rw[hkv',hmv];rcases qbl q2 hd (es:=es) (ens:=ens) 0 hl (fun j x e h1 h2=>(hr j x e h1 h2).1) hc with⟨h1,h2⟩|⟨n,x,e,h1,h2,h3,h4⟩
             · refine⟨.tuple #[zv,.bool false],?_,fun x hx=>?_⟩
               · rw[h1];exact .tup (us:=[zv,.bool false]) rfl fun i s u hs hu=>by
                  match i with
                  |0=>
                   simp at hs hu;subst hs;subst hu;cases hz:ei.zero with
                   |nil=>
                    rw[hz]at z3;have:zv=.agg #[]:=by
                     cases zv with
                     |agg cs=>
                      have:cs.toList=[]:=z3
                      rw[Array.toList_eq_nil_iff.1 this]
                     |_=>cases z3
                    rw[this];exact .p (.agg (us:=[]) rfl fun i s u hs _=>by simp at hs)
                   |cons=>exact .junk
                  |1=>simp at hs hu;subst hs;subst hu;exact .p (.v rfl)
                  |i+2=>simp at hs
               · simp[Instr.lookup,run_underlying hu,MapKept.run_getObj_map (hlook x hx),MapKept.run_checkKey q1 (q2 _ hd),MapKept.run_findKey q1 h2,zeroValue,typeInfo,z1,z2,Result.andThen]
             · refine⟨.tuple #[e.val,.bool true],?_,fun x hx=>?_⟩
               · rw[h1];exact .tup (us:=[e.val,.bool true]) rfl fun i s u hs hu=>by
                  match i with
                  |0=>simp at hs hu;subst hs;subst hu;exact .p (hr n x e h2 h3).2
                  |1=>simp at hs hu;subst hs;subst hu;exact .p (.v rfl)
                  |i+2=>simp at hs
               · simp[Instr.lookup,run_underlying hu,MapKept.run_getObj_map (hlook x hx),MapKept.run_checkKey q1 (q2 _ hd),MapKept.run_findKey q1 h4,Result.andThen]
         · cases h
     · cases h
   · cases h
 · cases h
omit hT hI in
theorem fold_set (off:Nat):∀(vs:List Value) (k:Nat) (cs:Array Value),((vs.zipIdx k).foldl (fun(cs:Array Value) (p:Value×Nat)=>cs.setIfInBounds (off+p.2) p.1) cs).size=cs.size/\
 ∀i,((vs.zipIdx k).foldl (fun(cs:Array Value) (p:Value×Nat)=>cs.setIfInBounds (off+p.2) p.1) cs)[i]?=if off+k<=i/\i<off+k+vs.length/\i<cs.size then vs[i-(off+k)]? else cs[i]?
 |[],k,cs=>⟨rfl,fun i=>by
  rw[Yc DE];rfl⟩
 |v::vs,k,cs=>by
  obtain⟨h1,h2⟩:=fold_set off vs (k+1) (cs.setIfInBounds (off+k) v);rw[List.zipIdx_cons,List.foldl_cons];refine⟨by rw[h1];simp,fun i=>?_⟩;rw[h2 i,Array.size_setIfInBounds,Yg];by_cases e:i=off+k
  · subst e;rw[Yc DP];by_cases hlt:off+k<cs.size
    · rw[Yi ⟨Yk _,by omega,hlt⟩,Array.getElem?_setIfInBounds_self_of_lt hlt];simp
    · rw[Yc DP,Array.getElem?_eq_none DE,Array.getElem?_eq_none DP]
  · rw[Array.getElem?_setIfInBounds_ne DP];by_cases hc:off+k<=i/\i<off+k+(vs.length+1)/\i<cs.size
    · rw[Yi hc,Yi DP];have:i-(off+k)=(i-(off+(k+1)))+1:=by omega
      rw[this,List.getElem?_cons_succ]
    · rw[Yc hc,Yc DP]
omit hT in
theorem rParts_ok {fs:List (Nat×TypeId)} {places:Nat->Option (Nat×Nat)} (hp':∀(i off:Nat) (ft:TypeId) (fi:TyI),fs[i]?=some (off,ft)->lk ft T=some fi->places i=some (off,fi.size)):∀{parts:List (Nat×Operand)} {zs zs':List SV} {cells:Array Value},rParts T st fs parts zs=some zs'->
 cells.size=zs.length->(∀(i:Nat) (s:SV) (u:Value),zs[i]?=some s->cells[i]?=some u->RelS (okO Sx γ st.own) (hp γ st.own) w s u)->
 ∃cells',Instr.fill places cells (parts.map fun(i,x)=>(i,a.eval x))=some cells'/\cells'.size=zs'.length/\∀(i:Nat) (s:SV) (u:Value),zs'[i]?=some s->cells'[i]?=some u->RelS (okO Sx γ st.own) (hp γ st.own) w s u
 |[],zs,zs',cells,h,hl,hr=>by
  simp only[rParts,Ye]at h;subst h;exact⟨cells,rfl,hl,hr⟩
 |(i,x)::r,zs,zs',cells,h,hl,hr=>by
  unfold rParts at h;split at h
  · rename_i off ft hf;split at h
    · rename_i fi hfi;split at h
      · rename_i s hs;split at h
        · rename_i xs hxs;cases hb:(Nat.beq xs.length fi.size&&Nat.ble (off+xs.length) zs.length)with
          |false=>rw[hb]at h;cases h
          |true=>
           rw[hb]at h;simp only[cond_true]at h;simp only[Yp]at hb;have e1:xs.length=fi.size:=YK hb.1;have e2:off+xs.length<=zs.length:=Y8 hb.2;obtain⟨c1,c2⟩:=qaW hI.heap.one (qK hI hs) hxs;obtain⟨q1,q2⟩:=fold_set off (a.eval x).cells.toList 0 cells;have e3:(a.eval x).cells.zipIdx.foldl (fun(cs:Array Value) (p:Value×Nat)=>cs.setIfInBounds (off+p.2) p.1) cells=((a.eval x).cells.toList.zipIdx 0).foldl (fun(cs:Array Value) (p:Value×Nat)=>cs.setIfInBounds (off+p.2) p.1) cells:=by
            rw[<-Array.foldl_toList,Array.toList_zipIdx]
           have hsz:(a.eval x).cells.size=fi.size:=by rw[<-Yx,c1,e1]
           obtain⟨cells',k1,k2,k3⟩:=rParts_ok hp' h (cells:=(a.eval x).cells.zipIdx.foldl (fun(cs:Array Value) (p:Value×Nat)=>cs.setIfInBounds (off+p.2) p.1) cells) (by rw[e3,q1];simp;omega) (fun n s u hs' hu=>by
            rw[e3,q2]at hu;by_cases hn:off+0<=n/\n<off+0+(a.eval x).cells.toList.length/\n<cells.size
            · rw[Yi hn]at hu;rw[YU,Yy DE,Yw DE]at hs';refine c2 (n-off) s u ?_ Dj;rw[<-hs'];congr 1;simp;omega
            · rw[Yc hn]at hu;refine hr n s u ?_ hu;rw[c1]at hn;by_cases hlt:n<off
              · rw[YU,Yw DE,Xv,Yi hlt]at hs';exact hs'
              · have hge:off+xs.length<=n:=by
                 rcases Nat.lt_or_ge n cells.size with h1|h1
                 · omega
                 · rw[Array.getElem?_eq_none h1]at hu;cases hu
                rw[Yy DE,YV]at hs';rw[<-hs'];congr 1;simp;omega)
           refine⟨cells',?_,k2,k3⟩;rw[Y2,Instr.fill,hp' i off ft fi hf hfi];simp only;rw[Yc (by simp[hsz];omega)];exact k1
        · cases h
      · cases h
    · cases h
  · cases h
theorem rBuild_ok {t:TypeId} {parts:Array (Nat×Operand)} {s:SV} {c:Prop} (h:rBuild T st t parts.toList=some (c,s)):Rd P K Sx γ st w (Instr.build t (parts.map fun(i,x)=>(i,a.eval x))) s:=by
 unfold rBuild at h;split at h
 · rename_i fs z eq ht;have hu:=(hT t _ ht).und;simp only[jV]at hu;obtain⟨fields,hu,hfs⟩:=hu;obtain⟨info,zv,z1,_,_,z2,z3⟩:=(hT t _ ht).info;cases hb:(z.all plain&&fs.all (fun f=>(lk f.2 T).isSome))with
   |false=>rw[hb]at h;cases h
   |true=>
    rw[hb]at h;simp only[cond_true]at h;simp only[Yp]at hb;split at h
    · rename_i zs hzs;simp only[yes,Ye,Yt]at h;obtain⟨_,rfl⟩:=h;let szT:TypeId->Nat:=fun t=>match lk t T with|some i=>i.size|none=>0
      have szs:∀{ft fi},lk ft T=some fi->szT ft=fi.size:=fun{ft fi} h=>by
       show(match lk ft T with|some i=>i.size|none=>0)=_;rw[h]
      have gen:∀(x:World) (l:List Field),(∀f∈l,(lk f.type T).isSome=true)->(l.mapM fun f=>(do pure (f.offset,<-sizeOf f.type):Sem (Nat×Nat))).run P x=.ok (l.map fun f=>(f.offset,szT f.type)) x:=by
       intro x l
       induction l with
       |nil=>intro _;rfl
       |cons f l ih=>
        intro hl;have p1:=ih fun g hg=>hl g (Y3 _ hg)
        obtain⟨fi,hfi⟩:=Yv.1 (hl f List.mem_cons_self);rw[List.mapM_cons];simp only[YG,(hT _ _ hfi).size x,Ys,YR,p1,Y2,szs hfi]
      have hmap:∀x:World,(fields.mapM fun f=>(do pure (f.offset,<-sizeOf f.type):Sem (Nat×Nat))).run P x=.ok (fields.toList.map fun f=>(f.offset,szT f.type)).toArray x:=fun x=>by
       have e:fields=fields.toList.toArray:=by simp
       have g:=gen x fields.toList fun f hf=>YE.1 hb.2 (f.offset,f.type) (by rw[<-hfs];exact Y1.2 ⟨f,hf,rfl⟩)
       rw[e,List.mapM_toArray,Sem.run_map,g];rfl
      obtain⟨cells',k1,k2,k3⟩:=rParts_ok (T:=T) hI (places:=fun i=>(fields.toList.map fun f=>(f.offset,szT f.type)).toArray[i]?) (fun i off ft fi hi hfi=>by
       rw[<-hfs,YH]at hi;obtain⟨f,h1,h2⟩:=YP.1 hi;cases h2;have h1':fields[i]?=some f:=by simpa using h1
       simp[h1',szs hfi]) hzs (cells:=zv.cells) (by rw[<-Yx,z3];simp) (fun i s u hs hu'=>by
       rw[YH]at hs;have:zv.cells.toList[i]?=some u:=by simpa using hu'
       rw[z3]at this;rw[this]at hs;cases hs;exact .p (.v (YE.1 hb.1 u (YI this))))
      have hagg:RelS (okO Sx γ st.own) (hp γ st.own) w (mkAgg zs) (.agg cells'.toList.toArray):=relS_mkAgg (by simpa using k2) fun i s u hs hu=>k3 i s u hs Dj
      refine⟨_,hagg,fun x _=>?_⟩;have hmx:=hmap x;have hz0:(zeroValue t).run P x=.ok zv x:=by simp[zeroValue,typeInfo,z1,z2]
      have k1':Instr.fill (fun i=>(fields.toList.map fun f=>(f.offset,szT f.type)).toArray[i]?) zv.cells (parts.map fun(i,x)=>(i,a.eval x)).toList=some cells':=by
       rw[Array.toList_map];exact k1
      unfold Instr.build;rw[YG,hz0];simp only[Ys];rw[YG,run_underlying hu];simp only[Ys];rw[YG,hmx];simp only[Ys];rw[k1'];simp
    · cases h
 · cases h
theorem opR_ok {o:Oper} {s:SV} {c:Prop} (h:opR T K st o.op=some (c,s)) (hc:c):
 ∃v,RelS (okO Sx γ st.own) (hp γ st.own) w s v/\∀x,SameOn (vis K γ st.own) w x->(execOp a.eval o).run P x=.ok (.value v) x:=by
 have fin:∀{sem:Sem Value},execOp a.eval o=(do pure (.value (<-sem)):Sem Next)->Rd P K Sx γ st w sem s->∃v,RelS (okO Sx γ st.own) (hp γ st.own) w s v/\∀x,SameOn (vis K γ st.own) w x->(execOp a.eval o).run P x=.ok (.value v) x:=by
  intro sem he ⟨v,h1,h2⟩;exact⟨v,h1,fun x hx=>by rw[he];exact run_v (h2 x hx)⟩
 unfold opR at h;split at h
 · rename_i x ho;split at h
   · rename_i s' hx;simp only[yes,Ye,Yt]at h;obtain⟨_,rfl⟩:=h;exact⟨_,qK hI hx,fun z _=>by simp only[execOp,ho];rfl⟩
   · cases h
 · rename_i x ho;split at h
   · rename_i s' hx;simp only[yes,Ye,Yt]at h;obtain⟨_,rfl⟩:=h;exact⟨_,qK hI hx,fun z _=>by simp only[execOp,ho];rfl⟩
   · cases h
 · rename_i x y z ho;obtain⟨v,h1,h2⟩:=rPick_ok (P:=P) (K:=K) hI h;refine⟨v,h1,fun x hx=>?_⟩;have h3:=h2 x hx;simp only[execOp,ho,YG]at h3⊢;cases hb:(asBool (a.eval _)).run P x with
   |ok b w1=>rw[hb]at h3;simp only[Ys,YR,Result.ok.injEq]at h3⊢;exact⟨by rw[h3.1],h3.2⟩
   |halt e w1=>rw[hb]at h3;cases h3
 · rename_i ho;exact fin EX (rBin_ok hT hI h hc)
 · rename_i ho;split at h
   · rename_i v hx;split at h
     · rename_i v' hv;simp only[yes,Ye,Yt]at h;obtain⟨_,rfl⟩:=h;have ex:=(qK hI hx).v_inv;exact fin (by simp only[execOp,ho,ex]) (zn (.p (.v (unS_ok (P:=P) (x:=w) hv).1)) fun z=>(unS_ok hv).2)
     · cases h
   · cases h
 · rename_i ho;exact fin EX (rConv_ok hT hI h)
 · rename_i ho;exact fin EX (rField_ok hT hI h)
 · rename_i ho;exact fin EX (rFieldAddr_ok hT hI h)
 · rename_i ho;exact fin EX (rIndexAddr_ok hT hI h hc)
 · rename_i ho;exact fin EX (rIndex_ok hT hI h hc)
 · rename_i ho;exact fin EX (rSlice_ok hT hI h hc)
 · rename_i ho;exact fin EX (rLoad_ok hT hI h hc)
 · rename_i x n ho;split at h
   · rename_i cs hx;split at h
     · rename_i s' hs;simp only[yes,Ye,Yt]at h;obtain⟨_,rfl⟩:=h;have ex:=qK hI hx;have ho':execOp a.eval o=(do pure (.value (<-Instr.extract (a.eval x) n)):Sem Next):=by simp only[execOp,ho]
       refine fin ho' ?_;generalize a.eval x=u at ex⊢;cases ex with
       |@tup _ us hl hr=>
        have hn:n<us.length:=by rw[hl];exact(Yq.1 hs).1
        refine zn (hr n _ us[n] hs (Yj hn)) fun z=>?_
        simp[Instr.extract,hn]
     · cases h
   · cases h
 · rename_i f first caps ho;split at h
   · rename_i hsz;have h0:first=#[]:=Array.eq_empty_of_size_eq_zero hsz;subst h0;split at h
     · rename_i l hl;obtain⟨h1,h2⟩:=evs_ok hI hl;have ho':execOp a.eval o=(do pure (.value (<-Instr.makeFunc (.func f) #[] (caps.map a.eval))):Sem Next):=by simp only[execOp,ho,List.map_toArray,List.map_nil]
       refine fin ho' ?_;have hcap:caps.map a.eval=(caps.toList.map a.eval).toArray:=by rw[<-Array.toList_map,Xc]
       rw[hcap];split at h
       · rename_i ps hp';obtain⟨g1,g2⟩:=pures_get hp';simp only[yes,Ye,Yt]at h;obtain⟨_,rfl⟩:=h;refine zn (.p (.fn (us:=caps.toList.map a.eval) (by rw[Yb,g1,<-h1]) fun i s u hs hu=>(h2 i (.p s) u (by rw[g2,hs];rfl) hu).p_inv)) fun z=>rfl
       · simp only[yes,Ye,Yt]at h;obtain⟨_,rfl⟩:=h;exact zn (.fn (by rw[Yb,h1]) h2) fun z=>rfl
     · cases h
   · cases h
 · rename_i cl ho;split at h
   · rename_i hcl;split at h
     · rename_i x t hx ht;have hx':cl.args=#[x]:=by rw[<-Xc (xs:=cl.args),hx]
       have ht':cl.argTypes=#[t]:=by rw[<-Xc (xs:=cl.argTypes),ht]
       refine fin (sem:=Builtin.len_ #[t] o.type #[a.eval x]) ?_ (rLen_ok hT hI h);simp[execOp,ho,resolve,hcl,hx',ht',invoke,builtin]
     · cases h
   · rename_i hcl;split at h
     · rename_i x y hx;have hx':cl.args=#[x,y]:=by rw[<-Xc (xs:=cl.args),hx]
       refine fin (sem:=Builtin.min_ cl.argTypes o.type #[a.eval x,a.eval y]) ?_ (rMinMax_ok (mn:=true) hI h);simp[execOp,ho,resolve,hcl,hx',invoke,builtin]
     · cases h
   · rename_i hcl;split at h
     · rename_i x y hx;have hx':cl.args=#[x,y]:=by rw[<-Xc (xs:=cl.args),hx]
       refine fin (sem:=Builtin.max_ cl.argTypes o.type #[a.eval x,a.eval y]) ?_ (rMinMax_ok (mn:=false) hI h);simp[execOp,ho,resolve,hcl,hx',invoke,builtin]
     · cases h
   · rename_i hcl;split at h
     · rename_i x hx;have hx':cl.args=#[x]:=by rw[<-Xc (xs:=cl.args),hx]
       refine fin (sem:=Builtin.real_ cl.argTypes o.type #[a.eval x]) Ez ?_;unfold rReal at h;split at h
       · rename_i he;simp only[yes,Ye,Yt]at h;obtain⟨_,rfl⟩:=h;rw[(qK hI he).v_inv];exact zn (.p (.v rfl)) fun z=>rfl
       · cases h
     · cases h
   · rename_i hcl;split at h
     · rename_i x hx;have hx':cl.args=#[x]:=by rw[<-Xc (xs:=cl.args),hx]
       refine fin (sem:=Builtin.imag_ cl.argTypes o.type #[a.eval x]) Ez ?_;unfold rImag at h;split at h
       · rename_i he;simp only[yes,Ye,Yt]at h;obtain⟨_,rfl⟩:=h;rw[(qK hI he).v_inv];exact zn (.p (.v rfl)) fun z=>rfl
       · cases h
     · cases h
   · rename_i hcl;split at h
     · rename_i x y hx;have hx':cl.args=#[x,y]:=by rw[<-Xc (xs:=cl.args),hx]
       refine fin (sem:=Builtin.complex_ cl.argTypes o.type #[a.eval x,a.eval y]) Ez ?_;unfold rCplx at h;split at h
       · rename_i he1 he2;simp only[yes,Ye,Yt]at h;obtain⟨_,rfl⟩:=h;rw[(qK hI he1).v_inv,(qK hI he2).v_inv];exact zn (.p (.v rfl)) fun z=>rfl
       · cases h
     · cases h
   · cases h
 · rename_i ho;exact fin EX (rLookup_ok hT hI h hc)
 · rename_i ho;exact fin EX (rBuild_ok hT hI h)
 · rename_i x ho;split at h
   · rename_i j o' hx;simp only[yes,Ye,Yt]at h;obtain⟨_,rfl⟩:=h;have ex:=qK hI hx;obtain⟨b,g,hu,_⟩:=ex.ptr_form;exact M5
   · rename_i j zz k o' hx;simp only[yes,Ye,Yt]at h;obtain⟨_,rfl⟩:=h;have ex:=qK hI hx;obtain⟨b,g,hu,_⟩:=ex.eptr_form;exact M5
   · rename_i cs hx;simp only[yes,Ye,Yt]at h;obtain⟨_,rfl⟩:=h;have ex:=qK hI hx;obtain⟨b,o',hu⟩:=ex.p_inv.rp_form;exact M5
   · cases h
 · cases h
end
end
end Go.Proofs.YtblgnefkgkchhaaGreatDoor
