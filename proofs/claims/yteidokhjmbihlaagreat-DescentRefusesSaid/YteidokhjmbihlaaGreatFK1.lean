/-
  prime.sieve, prime.Small: the primes up to a limit.
-/
import Derived.RangeFuncNested
import Derived.RangeFuncBound
import Derived.RangeFuncCalls
import Derived.RangeFuncLeaves
import Derived.RangeFuncFrom
import Derived.Shelf.Abstract
import Derived.Shelf.RegionOpen
import Derived.WalkKit
import Derived.OwnWalkIn
import Derived.TacticsInMore
import Derived.LoopNIn
import Derived.LoopIn
import Derived.IntWalk
import Derived.Test.YteidokhjmbihlaaGreatFA
import Derived.Test.YteidokhjmbihlaaGreatFG1
import Derived.Test.YteidokhjmbihlaaGreatFH1
set_option linter.all false
set_option maxRecDepth 100000
set_option maxHeartbeats 2000000
namespace Go.Proofs.YteidokhjmbihlaaGreat
open Go.RowKit Go.Shelf
attribute [local go_sem] Oper.semAt_some
theorem Qer (F:Fence) (n:Nat) (h5:F.fn 234) (hro:F.round=none) (p l:Int) (w:World) :
  CallsIn F n Tryz.prog 234 #[.int .i64 p,.int .i64 l] w fun e w'=>e=.returned (.func (.func 238) #[] #[.pointer (some ⟨w.heap.size,0,none⟩),.pointer (some ⟨w.heap.size+1,0,none⟩)])/\w'=(w.alloc (.cells #[.int .i64 p] 3)).alloc (.cells #[.int .i64 l] 3):=by
 refine callsIn_of_wp Tryz.func234 rfl h5 ?_ hro;simp only[Tryz.ntmps234,List.size_toArray,List.length_cons,List.length_nil,Nat.reduceAdd,Nat.reduceSub,Array.replicate_succ,Array.replicate_zero,List.push_toArray,List.append_toArray,List.nil_append,List.cons_append];gi_wp2
 go_ret
 exact⟨rfl,rfl⟩
abbrev QaO (l:Int):Type:={ k:Int // 0<=k/\k<=l }
def KpM (b1 b2:Nat) (W W':World):Prop:=W'.heap[b1]? = W.heap[b1]? /\ W'.heap[b2]? = W.heap[b2]?
def Qjo (p l:Int) (xs:List (QaO l)):Prop:=∀ k:Int,(∃ x∈xs,x.1=k)↔p*p<=k/\k<=l/\∃ t:Nat,k=p*p+t*p
theorem QcZ (F:Fence) (n:Nat) (h6:F.fn 238) (hro:F.round=none) (hn:1<=n) (b1 b2:Nat) (p l:Int) (hp:2<=p) (hpl:p<=1048576) (hl:l<=1048576) (w:World) (hb1:b1<w.heap.size) (hb2:b2<w.heap.size)
  (hc1:w.heap[b1]? = some (.cells #[.int .i64 p] 3 (0,0))) (hc2:w.heap[b2]? = some (.cells #[.int .i64 l] 3 (0,0))) :
  SeqStopsK F n Tryz.prog 238 #[.pointer (some ⟨b1,0,none⟩),.pointer (some ⟨b2,0,none⟩)] (fun x:QaO l=>#[Value.int .i64 x.1]) (KpM b1 b2) (Qjo p l) (fun _=>True) 1048577 w:=by
 intro lp J Jx W hW _ _ hY h0;have aD:=(hW.block b1 hb1).trans hc1;have aH:=(hW.block b2 hb2).trans hc2;have i1:0<=p*p:=Int.mul_nonneg (by omega) (by omega);have i2:p*p<=1048576*1048576:=Int.mul_le_mul hpl hpl (by omega) (by omega);have aA:∀ {W:World},W.heap[b1]? = some (.cells #[.int .i64 p] 3 (0,0))->W.cell? ⟨b1,0,none⟩=some (.int .i64 p):=fun h=>by simp[World.cell?,h]
 have aC:∀ {W:World},W.heap[b2]? = some (.cells #[.int .i64 l] 3 (0,0))->W.cell? ⟨b2,0,none⟩=some (.int .i64 l):=fun h=>by simp[World.cell?,h]
 have q1:=aA aD;have aP:IntKind.i64.wrap (p*p)=p*p:=IntWalk.i64_in _ (by omega);refine callsIn_of_wp Tryz.func238 rfl h6 ?_ hro;simp only[Tryz.ntmps238,List.size_toArray,List.length_cons,List.length_nil,Nat.reduceAdd,Nat.reduceSub,Array.replicate_succ,Array.replicate_zero,List.push_toArray,List.append_toArray,List.nil_append,List.cons_append];gi_wp2
 gi_loopw [4] (fun s wr=>∃ (t:Nat) (k:Int) (pre:List (QaO l)),s=.int .i64 k/\k=p*p+t*p/\k<=1099512676352/\pre.length=t/\(∀ j:Int,(∃ x∈pre,x.1=j)↔∃ i,i<t/\j=p*p+(i:Int)*p)/\J pre wr /\
   wr.heap[b1]? = some (.cells #[.int .i64 p] 3 (0,0))/\wr.heap[b2]? = some (.cells #[.int .i64 l] 3 (0,0))) (fun s _=>(l+1-intOf s).toNat)
 case atStart=>
  refine⟨0,p*p,[],rfl,by simp,by omega,rfl,fun j=>?_,h0,aD,aH⟩;constructor
  ·rintro⟨x,hx,-⟩;simp at hx
  ·rintro⟨i,hi,-⟩;omega
 case round=>
  obtain⟨t,k,pre,rfl,hk,aU,aE,aB,hJ,aJ,aI⟩:=hrel;have c1:=aA aJ;have c2:=aC aI;have HK:=Qh hk;clear hk q1 aP aD aH
  have k0:0<=k:=by
   rw[HK.out];exact Int.add_nonneg i1 (Int.mul_nonneg (by omega) (by omega))
  by_cases hkl:k<=l
  ·have aS:t<1048577:=by
    have h2:(t:Int)*2<=t*p:=Int.mul_le_mul_of_nonneg_left (by omega) (by omega);have:=HK.out;omega
   obtain⟨fn,aM,aG,aR,hy,hR⟩:=hY pre ⟨k,k0,hkl⟩ wr hJ (by omega);have aT:IntKind.i64.wrap (k+p)=k+p:=IntWalk.i64_in _ (by omega);dsimp only at hy;gi_wp2
   refine hR.mono ?_;rintro e W3 (⟨rfl,aQ,aL⟩|⟨rfl,aF⟩)
   ·have aK:=aL.1.trans aJ;have aO:=aL.2.trans aI;have c3:=aA aK;gi_wp2
    go_roundw
    case rel=>
     refine⟨t+1,k+p,pre++[⟨k,k0,hkl⟩],rfl,?_,by omega,by simp[aE],fun j=>?_,aQ,aK,aO⟩
     ·rw[HK.out,Int.natCast_add,Int.add_mul];omega
     ·constructor
      ·rintro⟨x,hx,rfl⟩;rcases List.mem_append.1 hx with hx|hx
       ·obtain⟨i,hi,e⟩:=(aB _).1 ⟨x,hx,rfl⟩;exact⟨i,by omega,e⟩
       ·simp at hx
        subst hx;exact⟨t,by omega,HK.out⟩
      ·rintro⟨i,hi,e⟩;rcases Nat.lt_or_ge i t with h|h
       ·obtain⟨x,hx,e'⟩:=(aB j).2 ⟨i,h,e⟩;exact⟨x,List.mem_append_left _ hx,e'⟩
       ·have:i=t:=by omega
        subst this;exact⟨⟨k,k0,hkl⟩,by simp,by rw[e];exact HK.out⟩
    case measure=>simp[intOf];omega
   ·gi_wp2
    refine bodyPost_ret (results_none rfl _ _ _) rfl ?_;exact⟨⟨_,rfl⟩,.inr ⟨_,trivial,aF⟩⟩
  ·gi_wp2
   go_end0
   refine⟨⟨_,rfl⟩,.inl ⟨pre,fun j=>?_,hJ⟩⟩;constructor
   ·rintro⟨x,hx,rfl⟩;obtain⟨i,hi,e⟩:=(aB _).1 ⟨x,hx,rfl⟩;refine⟨?_,x.2.2,i,e⟩;rw[e];have:0<=(i:Int)*p:=Int.mul_nonneg (by omega) (by omega);omega
   ·rintro⟨h1,h2,i,e⟩;refine(aB j).2 ⟨i,?_,e⟩;rcases Nat.lt_or_ge i t with h|h
    ·exact h
    ·exfalso
     have h3:(t:Int)*p<=i*p:=Int.mul_le_mul_of_nonneg_right (by omega) (by omega);have:=HK.out;omega
theorem Qk0:(Tryz.prog.info? 4).map (fun i=>(i.zero,i.size,i.bytes))=some (some (.bool false),1,1):=by kernel_rfl
theorem Qin (z:Int) (k:Nat) (hz:z=k) (hk:k<=1099511627776) (w:World) :
  (Instr.makeSlice 184 (.int .i64 z) (.int .i64 z)).run Tryz.prog w=.ok (.slice (some ⟨w.heap.size,0,none⟩) k k) (w.alloc (.cells (madeCells #[.bool false] k) 4)):=by
 subst hz;obtain⟨i0,hi,aC,aB,aA⟩:=info_parts Qk0;have h:=run_make (P:=Tryz.prog) w 184 4 i0 (.bool false) Tryz.underlying184 hi aC .i64 .i64 (k:Int) (k:Int) (by omega) (Int.le_refl _) (by rw[aA];omega) (by omega);simpa [aB,Value.cells] using h
def mks (Ds:List Nat):List Deferred:=Ds.map fun D=>{ target:=.collected D,args:=#[] }
def mkd (p j:Nat):Prop:=∃ q,Pri q/\q<p/\q*q<=j/\q∣j
open Classical in
noncomputable def mkB (p j:Nat):Bool:=decide (mkd p j)
open Classical in
noncomputable def prB (p:Nat):Bool:=decide (Pri p)
noncomputable def prL (p:Nat):List Nat:=(List.range' 2 (p-2)).filter prB
noncomputable def prZ (p:Nat):List Int:=(prL p).map fun (x:Nat)=>(x:Int)
theorem Qje {p:Nat} (hp:2<=p):mkd p p↔¬ Pri p:=by
 constructor
 ·rintro⟨q,h1,h2,h3,h4⟩ h;exact h.2 q h1.1 h2 h4
 ·intro h;obtain⟨q,h1,h2⟩:=Qp hp;obtain⟨c,hc⟩:=h2
  have hq:q<p:=by
   rcases Nat.lt_or_ge q p with hl|hl
   ·exact hl
   ·exfalso
    have:=Nat.le_of_dvd (by omega) ⟨c,hc⟩;have:q=p:=by omega
    rw[this] at h1;exact h h1
  have aA:∀ k,Pri k->k∣p->k<p->∃ q',Pri q'/\q'<p/\q'*q'<=p/\q'∣p:=by
   intro k;induction k using Nat.strongRecOn with
   | _ k ih =>
     intro g1 g2 g3;obtain⟨c,hc⟩:=g2;rcases Nat.lt_or_ge p (k*k) with hlt|hge
     ·have aD:c<k:=by
       rcases Nat.lt_or_ge c k with h|h
       ·exact h
       ·have:=Nat.mul_le_mul_left k h;omega
      have aB:2<=c:=by
       rcases Nat.lt_or_ge c 2 with h|h
       ·exfalso
        have:c=0\/c=1:=by omega
        rcases this with rfl|rfl
        ·omega
        ·rw[Nat.mul_one] at hc;omega
       ·exact h
      obtain⟨r,r1,r2⟩:=Qp aB;have aC:=Nat.le_of_dvd (by omega) r2;exact ih r (by omega) r1 (Nat.dvd_trans r2 ⟨k,by rw[hc,Nat.mul_comm]⟩) (by omega)
     ·exact⟨k,g1,g3,hge,⟨c,hc⟩⟩
  obtain⟨q',a1,a2,a3,a4⟩:=aA q h1 ⟨c,hc⟩ hq;exact⟨q',a1,a2,a3,a4⟩
theorem Qf2 {p j:Nat}:mkd (p+1) j↔mkd p j\/(Pri p/\p*p<=j/\p∣j):=by
 constructor
 ·rintro⟨q,h1,h2,h3,h4⟩;rcases Nat.lt_or_ge q p with h|h
  ·exact .inl ⟨q,h1,h,h3,h4⟩
  ·have:q=p:=by omega
   subst this;exact .inr ⟨h1,h3,h4⟩
 ·rintro (⟨q,h1,h2,h3,h4⟩|⟨h1,h3,h4⟩)
  ·exact⟨q,h1,by omega,h3,h4⟩
  ·exact⟨p,h1,by omega,h3,h4⟩
theorem Qf1 {p:Nat} (hp:2<=p):prL (p+1)=prL p++if prB p then [p] else []:=by
 unfold prL;rw[show p+1-2=(p-2)+1 by omega,List.range'_concat,List.filter_append];rw[show 2+1*(p-2)=p by omega];congr 1
 rw[List.filter_cons];rfl
theorem Qe2 (p:Nat):prB p=true↔Pri p:=by unfold prB;simp
theorem QcS (p j:Nat):mkB p j=true↔mkd p j:=by unfold mkB;simp
theorem QeR {p:Nat} (hp:2<=p):mkB p p=true↔¬ Pri p:=by rw[QcS];exact Qje hp
theorem QiG {p:Nat} (hp:2<=p):mkB p p=false↔Pri p:=by
 rw[<- Bool.not_eq_true,QeR hp];exact Classical.not_not
theorem QjP (j:Nat):mkB 2 j=false:=by
 unfold mkB;rw[decide_eq_false_iff_not];rintro⟨q,h1,h2,-,-⟩;have:=h1.1;omega
section
variable {α : Type} {E:Elt α}
theorem QhN {F:Fence} {N:Nat} {ops:Array Oper} {rest:List Oper} {o:Oper} {a:Act} {Q:Exit->Act->World->Prop} {w:World} (hgd:o.guard=none) (su sx:Operand) (t:TypeId)
  (ho:o.op=.call { callee:=.builtin .append,args:=#[su,sx],argTypes:=#[t,t] }) (ht:Tryz.prog.underlying t=some (.slice E.T)) (base:Nat) (v:Value) (l l':List α) (hs:a.eval su=v) (h:So E w base v l) (hbase:base<=w.heap.size)
  (b off m c1:Nat) (hxv:a.eval sx=.slice (some ⟨b,off,none⟩) m c1) (hm:l'.length=m) (h':Sc E w b off l') (hne:0<m) (hl:l.length+m<=1099511627776)
  (hK:∀ g cap w',So E w' base (.slice (some ⟨g,0,none⟩) (l.length+m) cap) (l++l')->ButS (fun k=>v.ownBlock=some k) w w'->(v.ownBlock=some g\/g=w.heap.size)->wpListIn F N Tryz.prog ops Q rest (a.put o.dst (.slice (some ⟨g,0,none⟩) (l.length+m) cap)) w') :
  wpListIn F N Tryz.prog ops Q (o :: rest) a w:=by
 subst hm;refine wpListIn_plain hgd fun K hK'=>?_;obtain⟨g,cap,w',hr,h2,h3,h4⟩:=QdT t o.type ht h hbase (c1:=c1) h' hne hl;unfold Oper.wpIn;refine⟨?_,?_⟩
 ·simp[Oper.about,ho,resolve,Target.leads,Sem.run_pure]
 ·rw[Oper.semAt_plain F _ _ (by rw[ho];intro c aA;cases aA)];simp only[execOp,ho,resolve,invoke,builtin,Sem.run_bind,Sem.run_pure,Result.andThen_ok,List.map_toArray,List.map_cons,List.map_nil,hs,hxv,hr];exact hK' _ _ (hK g cap w' h2 h3 h4)
end
structure Mk (w W:World) (L:Nat) (f:Nat->Bool) (v:Value) (l:List Int) (Ds:List Nat):Prop where
 hC:∃ cur,W.heap[w.heap.size]? = some (.cells cur 4 (0,0))/\cur.size=L+1/\∀ j,j<=L->cur[j]? = some (.bool (f j))
 hB:W.heap[w.heap.size+1]? = some (.cells #[.slice (some ⟨w.heap.size,0,none⟩) (L+1) (L+1)] 184 (0,0))
 hO:So J1 W (w.heap.size+2) v l
 hN:Ds.Nodup
 hD:∀ D∈Ds,w.heap.size+2<=D/\W.heap[D]? = some (.deferred (some []))
 hW:Below w.heap.size w W
theorem Mk.ext {w W:World} {L:Nat} {f f':Nat->Bool} {v:Value} {l:List Int} {Ds:List Nat} (h:Mk w W L f v l Ds) (he:∀ j,j<=L->f' j=f j):Mk w W L f' v l Ds:=by
 obtain⟨⟨aA,a1,a2,a3⟩,h4,h5,h6,h7,h8⟩:=h;exact⟨⟨aA,a1,a2,fun j hj=>by rw[he j hj];exact a3 j hj⟩,h4,h5,h6,h7,h8⟩
theorem JT {W:World} {r:Nat} {o:Obj} (h:W.heap[r]? = some o) (ho:o.isCells=false):NoW W r:=fun i x e=>by
 cases o <;> simp_all [World.cell?,Obj.isCells]
theorem Mk.grown {w W W':World} {L:Nat} {f:Nat->Bool} {v:Value} {l:List Int} {Ds:List Nat} {row:Option Nat} (h:Mk w W L f v l Ds) (hg:W.grownBy W' row)
  (hr:∀ r,row=some r->w.heap.size<=r/\(∀ D∈Ds,D≠r)/\∃ o:Obj,W.heap[r]? = some o/\o.isCells=false):Mk w W' L f v l Ds:=by
 obtain⟨⟨aC,a1,a2,a3⟩,h4,h5,h6,h7,h8⟩:=h
 have aA:∀ k c T fr,W.heap[k]? = some (.cells c T fr)->row≠some k:=fun k c T fr hk e=>by
  obtain⟨-,-,o,ho,hc⟩:=hr k e;rw[hk] at ho;cases ho;simp[Obj.isCells] at hc
 have aB:∀ {k:Nat} {o:Obj},W.heap[k]? = some o->k<W.heap.size:=fun hk=>(Ql hk).1;have hB:=ButS.grown hg;refine⟨⟨aC,(hg.block _ (aB a1) (fun e=>aA _ _ _ _ a1 e.symm)).trans a1,a2,a3⟩,(hg.block _ (aB h4) (fun e=>aA _ _ _ _ h4 e.symm)).trans h4,?_,h6,fun D hD=>?_,?_⟩
 ·refine h5.fr hB (fun g e=>?_) (fun g hv e=>?_)
  ·obtain⟨-,-,o,ho,hc⟩:=hr g e;exact JT ho hc
  ·obtain⟨xs,⟨-,k2⟩,-⟩:=h5;rcases k2 with ⟨k2,-⟩|⟨g',cap,cur',e',k3,k4⟩
   ·subst k2;cases hv
   ·subst e';obtain rfl:g'=g:=by simpa [Value.ownBlock] using hv
    exact aA _ _ _ _ k4.1 e
 ·have:=h7 D hD;exact⟨this.1,(hg.block _ (aB this.2) (fun e=>(hr D e.symm).2.1 D hD rfl)).trans this.2⟩
 ·exact ButS.below h8 hB h8.size (fun k e=>(hr k e).1)
theorem Mk.alloc {w W:World} {L:Nat} {f:Nat->Bool} {v:Value} {l:List Int} {Ds:List Nat} (h:Mk w W L f v l Ds) (o:Obj):Mk w (W.alloc o) L f v l Ds:=
 h.grown (World.grownBy_alloc W o none) (fun r e=>by cases e)
theorem Mk.set {w W:World} {L:Nat} {f:Nat->Bool} {v:Value} {l:List Int} {Ds:List Nat} (h:Mk w W L f v l Ds) {k:Nat} (hk:k<=L) :
  Mk w (W.setCell ⟨w.heap.size,k,none⟩ (.bool true)) L (fun j=>f j || decide (j=k)) v l Ds:=by
 obtain⟨⟨aB,a1,a2,a3⟩,h4,h5,h6,h7,h8⟩:=h;have hB:=ButS.set W w.heap.size k (.bool true);have aA:∀ {k:Nat} {o:Obj},W.heap[k]? = some o->k<W.heap.size:=fun hk=>(Ql hk).1;refine⟨⟨aB.setIfInBounds k (.bool true),heap_setCell_same _ _ _ _ _ _ a1,by simpa using a2,fun j hj=>?_⟩,(hB.block _ (aA h4) (by omega)).trans h4,?_,h6,fun D hD=>?_,?_⟩
 ·by_cases hjk:j=k
  ·subst hjk;simp[a2,show j<L+1 by omega]
  ·rw[Array.getElem?_setIfInBounds_ne (fun e=>hjk e.symm),a3 j hj];simp[hjk]
 ·refine h5.fr hB (fun g e=>?_) (fun g hv e=>?_)
  ·subst e;intro i x e';simp only[World.cell?,a1] at e';rcases Nat.lt_or_ge i (L+1) with hi|hi
   ·rw[a3 i (by omega)] at e';simp at e'
   ·rw[Array.getElem?_eq_none (by omega)] at e';cases e'
  ·have:=(h5.lt g hv).1;omega
 ·have:=h7 D hD;exact⟨this.1,(hB.block _ (aA this.2) (by omega)).trans this.2⟩
 ·exact ButS.below h8 hB h8.size (fun k e=>by omega)
theorem Mk.but {w W W':World} {L:Nat} {f:Nat->Bool} {v v':Value} {l l':List Int} {Ds:List Nat} (h:Mk w W L f v l Ds) (hb:ButS (fun k=>v.ownBlock=some k) W W') (h':So J1 W' (w.heap.size+2) v' l'):Mk w W' L f v' l' Ds:=by
 obtain⟨⟨aB,a1,a2,a3⟩,h4,h5,h6,h7,h8⟩:=h;have aA:∀ {k:Nat} {o:Obj},W.heap[k]? = some o->k<W.heap.size:=fun hk=>(Ql hk).1;refine⟨⟨aB,(hb.block _ (aA a1) (fun e=>by have:=(h5.lt _ e).1;omega)).trans a1,a2,a3⟩,(hb.block _ (aA h4) (fun e=>by have:=(h5.lt _ e).1;omega)).trans h4,h',h6,fun D hD=>?_,?_⟩
 ·have:=h7 D hD;refine⟨this.1,(hb.block _ (aA this.2) (fun e=>?_)).trans this.2⟩;obtain⟨xs,⟨-,k2⟩,-⟩:=h5;rcases k2 with ⟨k2,-⟩|⟨g',cap,cur',e',k3,k4⟩
  ·subst k2;cases e
  ·subst e';obtain rfl:g'=D:=by simpa [Value.ownBlock] using e
   rw[k4.1] at this;cases this.2
 ·exact ButS.below h8 hb h8.size (fun k e=>by have:=(h5.lt _ e).1;omega)
def SvI (w W:World) (L p:Nat) (v:Value) (Ds:List Nat):Prop:=2<=p/\(p<=L+1\/p=2)/\Mk w W L (mkB p) v (prZ p) Ds
theorem Qd8 {p j:Nat} (hp:¬ Pri p):mkB (p+1) j=mkB p j:=by
 rw[Bool.eq_iff_iff,QcS,QcS,Qf2];exact⟨fun h=>h.elim id fun h=>absurd h.1 hp,.inl⟩
theorem Qiy {p:Nat} (h2:2<=p) (hp:¬ Pri p):prZ (p+1)=prZ p:=by
 have:prB p=false:=by rw[<- Bool.not_eq_true,Qe2];exact hp
 unfold prZ;rw[Qf1 h2,this];simp
theorem Qep {p:Nat} (h2:2<=p) (hp:Pri p):prZ (p+1)=prZ p++[(p:Int)]:=by
 unfold prZ;rw[Qf1 h2,(Qe2 p).2 hp];simp
theorem SvI.comp {w W:World} {L p:Nat} {vout:Value} {Ds:List Nat} (h:SvI w W L p vout Ds) (hl:p<=L) (hp:¬ Pri p):SvI w W L (p+1) vout Ds:=by
 obtain⟨h1,h2,h3⟩:=h;exact⟨by omega,by omega,by rw[Qiy h1 hp];exact h3.ext fun j _=>Qd8 hp⟩
open Classical in
noncomputable def mkX (p:Nat) {l:Int} (pre:List (QaO l)) (j:Nat):Bool:=mkB p j || decide (∃ x∈pre,x.1=(j:Int))
theorem QjT (p:Nat) {l:Int} (j:Nat):mkX p ([]:List (QaO l)) j=mkB p j:=by simp[mkX]
theorem Qh9 (p:Nat) {l:Int} (pre:List (QaO l)) (x:QaO l) (j:Nat):mkX p (pre++[x]) j=(mkX p pre j || decide (j=x.1.toNat)):=by
 have h0:=x.2.1
 have e1:(decide (∃ y∈pre++[x],y.1=(j:Int)):Bool)=(decide (∃ y∈pre,y.1=(j:Int)) || decide (j=x.1.toNat)):=by
  rw[Bool.eq_iff_iff];simp only[decide_eq_true_eq,Bool.or_eq_true];constructor
  ·rintro⟨y,hy,e⟩;rcases List.mem_append.1 hy with h|h
   ·exact .inl ⟨y,h,e⟩
   ·simp at h;subst h;exact .inr (by omega)
  ·rintro (⟨y,hy,e⟩|e)
   ·exact⟨y,List.mem_append_left _ hy,e⟩
   ·exact⟨x,by simp,by omega⟩
 unfold mkX;rw[e1,Bool.or_assoc]
theorem QjR {p L:Nat} (hp:Pri p) {xs:List (QaO (L:Int))} (h:Qjo p L xs) (j:Nat) (hj:j<=L):mkB (p+1) j=mkX p xs j:=by
 rw[Bool.eq_iff_iff,QcS,Qf2];simp only[mkX,Bool.or_eq_true,QcS,decide_eq_true_eq];rw[h (j:Int)];refine or_congr_right ?_;constructor
 ·rintro⟨-,h2,c,hc⟩
  have h3:p<=c:=by
   rcases Nat.lt_or_ge c p with hlt|hge
   ·exfalso
    have:=Nat.mul_lt_mul_of_pos_left hlt (show 0<p from by have:=hp.1;omega);omega
   ·exact hge
  refine⟨by exact_mod_cast h2,by omega,c-p,?_⟩;obtain⟨d,rfl⟩:=Nat.exists_eq_add_of_le h3;rw[hc,show p+d-p=d by omega,Nat.mul_add,Int.natCast_add,Int.natCast_mul,Int.natCast_mul,Int.mul_comm (d:Int)]
 ·rintro⟨h1,h2,t,ht⟩;have aB:p*p<=j:=by exact_mod_cast h1
  have aA:j=p*p+t*p:=by exact_mod_cast ht
  exact⟨hp,aB,⟨p+t,by rw[aA,Nat.mul_add,Nat.mul_comm t]⟩⟩
theorem QgA {F:Fence} {n:Nat} {P:Program} {fn:Func} {tmps:Array Value} {R:Ending->World->Prop} {w:World} {L:Nat} {f:Nat->Bool} {v:Value} {l:List Int} :
  ∀ (Ds:List Nat) (W:World),Mk w W L f v l Ds->(∀ W',Mk w W' L f v l []->LeavesInM F n P fn tmps R [] .returning W')->LeavesInM F n P fn tmps R (mks Ds) .returning W:=by
 intro Ds;induction Ds with
 | nil=>intro W h hK;exact hK W h
 | cons D Ds ih =>
   intro W h hK;have hD:=h.hD D (by simp);have aA:=List.nodup_cons.1 h.hN;refine⟨by simp,.inl ⟨D,_,rfl,run_takeDeferred hD.2,ih _ ?_ hK⟩⟩;have h':Mk w W L f v l Ds:=⟨h.hC,h.hB,h.hO,aA.2,fun D' hD'=>h.hD D' (List.mem_cons_of_mem _ hD'),h.hW⟩;exact h'.grown (grownBy_putObj' W D _) (fun r e=>by cases e;exact⟨by omega,fun D' hD' e=>aA.1 (e▸hD'),_,hD.2,rfl⟩)
theorem Qia (F:Fence) (n:Nat) (h1:F.fn 214) (h2:F.fn 234) (h3:F.fn 238) (hro:F.round=none) (hn:3<=n) (L:Nat) (hL:L<=1048576) (w:World) :
  CallsIn F n Tryz.prog 214 #[.int .i64 (L:Int)] w fun e w'=>∃ v,e=.returned v/\So J1 w' w.heap.size v (prZ (L+1))/\Below w.heap.size w w':=by
 have bP:IntKind.i64.wrap ((L:Int)+1)=(L:Int)+1:=IntWalk.i64_in _ (by omega);have bR:1<=n:=by omega
 have bS:=fun w=>Qin ((L:Int)+1) (L+1) (by omega) (by omega) w;refine callsIn_of_wp_marks Tryz.func214 rfl h1 ?_ hro;simp only[Tryz.ntmps214,List.size_toArray,List.length_cons,List.length_nil,Nat.reduceAdd,Nat.reduceSub,Array.replicate_succ,Array.replicate_zero,List.push_toArray,List.append_toArray,List.nil_append,List.cons_append];gi_wp2
 have bG:=Zk1 w (.cells (madeCells #[.bool false] (L+1)) 4);have aS:=Zk1 (w.alloc (.cells (madeCells #[.bool false] (L+1)) 4)) (.cells #[.slice (some ⟨w.heap.size,0,none⟩) (L+1) (L+1)] 184);have bB:=(Qc w (.cells (madeCells #[.bool false] (L+1)) 4));have aE:=(Qc (w.alloc (.cells (madeCells #[.bool false] (L+1)) 4)) (.cells #[.slice (some ⟨w.heap.size,0,none⟩) (L+1) (L+1)] 184))
 have aC:SvI w ((w.alloc (.cells (madeCells #[.bool false] (L+1)) 4)).alloc (.cells #[.slice (some ⟨w.heap.size,0,none⟩) (L+1) (L+1)] 184)) L 2 (.slice none 0 0) []:=by
  refine⟨Nat.le_refl _,.inr rfl,⟨⟨_,(aE.block _ (by simp)).trans bG,by simp[size_madeCells],fun j hj=>?_⟩,by rw[Zk2] at aS;exact aS,?_,List.nodup_nil,fun D h=>by simp at h,bB.trans (aE.mono (by simp))⟩⟩
  ·rw[QjP];simp only[madeCells];rw[Array.getElem?_map];simp[show j<L+1 by omega,Nat.mod_one]
  ·exact(So.nil J1 _ _:So J1 _ _ (.slice none 0 0) ([]:List Int))
 clear bG aS bB aE;generalize (w.alloc (.cells (madeCells #[.bool false] (L+1)) 4)).alloc (.cells #[.slice (some ⟨w.heap.size,0,none⟩) (L+1) (L+1)] 184)=W0 at *
 refine wpIn_loop (fun a W=>∃ (p:Nat) (aA:Value) (Ds:List Nat) (y6 a7 a6 a5 aM aL a4 a3 a2 a1 a0 aZ aY aX aW aV aU aT aK aJ aI aH:Value),a = { tmps:=#[.int .i64 (L:Int),undef,.slice none 0 0,.pointer (some ⟨w.heap.size+1,0,none⟩),aA,.int .i64 (p:Int),y6,.int .i64 (L:Int),.int .i64 ((L:Int)+1),.slice (some ⟨w.heap.size,0,none⟩) (L+1) (L+1),a7,a6,a5,aM,aL,a4,a3,a2,a1,a0,aZ,aY,aX,aW,aV,aU,aT,aK,aJ,aI,aH],defers:=mks Ds }/\SvI w W L p aA Ds)
  (fun a _=>(L+1-(intOf (a.tmps.getD 5 undef)).toNat)) ⟨2,.slice none 0 0,[],_,_,_,_,_,_,_,_,_,_,_,_,_,_,_,_,_,_,_,_,_,_,rfl,aC⟩ ?_
 rintro a W ⟨p,aA,Ds,y6,a7,a6,a5,aM,aL,a4,a3,a2,a1,a0,aZ,aY,aX,aW,aV,aU,aT,aK,aJ,aI,aH,rfl,hI⟩;clear aC;by_cases hpL:p<=L
 ·obtain⟨bM,aD,aQ,aF⟩:=hI.2.2.hC;have hB:=hI.2.2.hB;have cB:W.cell? ⟨w.heap.size+1,0,none⟩=some (.slice (some ⟨w.heap.size,0,none⟩) (L+1) (L+1)):=by simp[World.cell?,hB]
  have cC:W.cell? ⟨w.heap.size,p,none⟩=some (.bool (mkB p p)):=by simp[World.cell?,aD,aF p hpL]
  have i1:(p:Int)<=(L:Int):=by omega
  have i2:(0:Int)<=(p:Int):=by omega
  have i3:(p:Int)<(L:Int)+1:=by omega
  have i4:IntKind.i64.wrap ((p:Int)+1)=(p:Int)+1:=IntWalk.i64_in _ (by omega);have HI:=Qh hI;clear hI hB aD aQ aF;by_cases hp:Pri p
  ·have hm:mkB p p=false:=(QiG HI.out.1).2 hp;rw[hm] at cC;have bC:=Sc.one (E:=J1) (w:=W.alloc (.cells #[.int .i64 (p:Int)] 3)) (B:=W.heap.size) (T:=3) (fr:=(0,0)) (cs:=[.int .i64 (p:Int)]) (x:=(p:Int)) (Zk1 _ _) rfl;have a8:=HI.out.2.2.hO.alloc (.cells #[.int .i64 (p:Int)] 3);have bE:=HI.out.2.2.alloc (.cells #[.int .i64 (p:Int)] 3)
   have aP:(prZ p).length+1<=1099511627776:=by
    have:(prL p).length<=p:=Qt (List.length_filter_le _ _) (by simp);simp only[prZ,List.length_map];omega
   have bQ:=HI.out.2.2.hW.size;have a9:(prZ p).length+1=(prZ (p+1)).length:=by rw[Qep HI.out.1 hp];simp
   gi_wp2_with (first|(gi_at_builtin;go_must (refine QhN (E:=J1) rfl (.tmp 19) (.tmp 21) _ rfl Tryz.underlying76 (w.heap.size+2) aA _ [(p:Int)] rfl a8 (by simp;have:=(Ql HI.out.2.2.hB).1;omega) W.heap.size 0 1 1 rfl rfl bC (by omega) aP ?_);intro g aG w1 bD bH bL;have aR:=bE.but bH bD;rw[<- Qep HI.out.1 hp,a9] at aR;rw[a9];clear bE bH bD a8 bC bL cB cC;have HM:=Qh aR;clear aR)|(gi_at_call 234;refine(Qer F (n-1) h2 hro _ _ _).mono ?_;rintro e w' ⟨rfl,rfl⟩))
   have bF:=(HM.out.alloc (.cells #[.int .i64 (p:Int)] 3)).alloc (.cells #[.int .i64 (L:Int)] 3);have aE:=(Qc (w1.alloc (.cells #[.int .i64 (p:Int)] 3)) (.cells #[.int .i64 (L:Int)] 3)).block w1.heap.size (by simp);rw[Zk1] at aE;have bA:=Zk1 (w1.alloc (.cells #[.int .i64 (p:Int)] 3)) (.cells #[.int .i64 (L:Int)] 3);rw[Zk2] at bA;have hz:((w1.alloc (.cells #[.int .i64 (p:Int)] 3)).alloc (.cells #[.int .i64 (L:Int)] 3)).heap.size=w1.heap.size+2:=by simp
   have bJ:=HM.out.hW.size;generalize (w1.alloc (.cells #[.int .i64 (p:Int)] 3)).alloc (.cells #[.int .i64 (L:Int)] 3)=w2 at *;have bT:=(Ql HM.out.hB).1;have bN:=Qh bF;clear bF
   refine wpIn_rangeFunc_ownF hro (by omega) (gf:=238) (lb:=#[.pointer (some ⟨w1.heap.size,0,none⟩),.pointer (some ⟨w1.heap.size+1,0,none⟩)]) rfl h3 (enters_of Tryz.func238 (by kernel_rfl) rfl)
    (QcZ F (n-1) h3 hro (by omega) w1.heap.size (w1.heap.size+1) (p:Int) (L:Int) (by have:=HI.out.1;omega) (by omega) (by omega) w2 (by omega) (by omega) aE bA)
    (fun h k=>⟨k.1.trans h.1,k.2.trans h.2⟩) (fun W l o o' hl _ _ _=>⟨World.putObj_heap_other (by omega),World.putObj_heap_other (by omega)⟩) (Below.refl _ _) (fun _=>rfl)
    (fun pre W=>Mk w W L (mkX p pre) (.slice (some ⟨g,0,none⟩) (prZ (p+1)).length aG) (prZ (p+1)) Ds) (fun _ _ _=>False)
    ?own (fun _ _ _ _ _ hs _ _=>hs) (bN.out.ext fun j _=>QjT p j)
    (fun x=>{ tmps:=#[.int .i64 (L:Int),undef,.slice none 0 0,.pointer (some ⟨w.heap.size+1,0,none⟩),.slice (some ⟨g,0,none⟩) (prZ (p+1)).length aG,.int .i64 (p:Int),.int .i64 x.1,.int .i64 (L:Int),.int .i64 ((L:Int)+1),.slice (some ⟨w.heap.size,0,none⟩) (L+1) (L+1),.int .i64 (p:Int),.int .i64 (L:Int),.bool true,aM,aL,.slice (some ⟨w.heap.size,0,none⟩) (L+1) (L+1),.int .i64 (p:Int),.pointer (some ⟨w.heap.size,p,none⟩),.bool false,aA,.int .i64 (p:Int),.slice (some ⟨W.heap.size,0,none⟩) 1 1,.slice (some ⟨g,0,none⟩) (prZ (p+1)).length aG,.int .i64 (p:Int),.int .i64 (L:Int),.func (.func 238) #[] #[.pointer (some ⟨w1.heap.size,0,none⟩),.pointer (some ⟨w1.heap.size+1,0,none⟩)],.int .i64 x.1,aK,aJ,aI,aH],defers:=[] }) ?assign ?body ?done ?stop
   case own=>
    intro pre A B bO hs hg hr;refine hs.grown hg fun r e=>?_;obtain⟨h4,h5⟩:=hr r e;exact⟨by omega,fun D hD e'=>by have:=(Ql (HM.out.hD D hD).2).1;omega,h5⟩
   case assign=>
    intro l x W K hK;gi_wp2
    exact hK
   case body=>
    rintro l pre x W aB -;obtain⟨bM,aD,aQ,aF⟩:=aB.hC;have hB:=aB.hB;have x0:=x.2.1;have x1:=x.2.2;have cB:W.cell? ⟨w.heap.size+1,0,none⟩=some (.slice (some ⟨w.heap.size,0,none⟩) (L+1) (L+1)):=by simp[World.cell?,hB]
    have cC:W.cell? ⟨w.heap.size,x.1.toNat,none⟩=some (.bool (mkX p pre x.1.toNat)):=by simp[World.cell?,aD,aF x.1.toNat (by omega)]
    have fC:W.frozen? ⟨w.heap.size,x.1.toNat,none⟩=false:=by simp[World.frozen?,aD]
    have aO:=(aB.set (k:=x.1.toNat) (by omega)).ext fun j _=>Qh9 p pre x j;clear hB aD aQ aF;have HK:=Qh aB;clear aB;have i6:x.1<(L:Int)+1:=by omega
    gi_wp2
    exact⟨KeepsOthers.setCell _ _ _,⟨Below.heap_setCell W ⟨w.heap.size,x.1.toNat,none⟩ _ w1.heap.size (by show w1.heap.size≠w.heap.size;omega),Below.heap_setCell W ⟨w.heap.size,x.1.toNat,none⟩ _ (w1.heap.size+1) (by show w1.heap.size+1≠w.heap.size;omega)⟩,aO⟩
   case done=>
    rintro D xs W hD bI aB hK;gi_wp2
    refine⟨⟨p+1,.slice (some ⟨g,0,none⟩) (prZ (p+1)).length aG,D :: Ds,_,_,_,_,_,_,_,_,_,_,_,_,_,_,_,_,_,_,_,_,_,_,rfl,?_⟩,?_⟩
    ·refine⟨by have:=HI.out.1;omega,by omega,(aB.ext fun j hj=>QjR hp bI j hj).hC,aB.hB,aB.hO,?_,?_,aB.hW⟩
     ·refine List.nodup_cons.2 ⟨fun hD'=>?_,aB.hN⟩;have:=(Ql (HM.out.hD D hD').2).1;omega
     ·intro D' hD';rcases List.mem_cons.1 hD' with rfl|h
      ·exact⟨by omega,hK⟩
      ·exact aB.hD D' h
    ·simp[intOf];omega
   case stop=>
    rintro D c pre W - - h -;exact h.elim
  ·have hm:mkB p p=true:=(QeR HI.out.1).2 hp;rw[hm] at cC;gi_wp2
   refine⟨⟨p+1,aA,Ds,_,_,_,_,_,_,_,_,_,_,_,_,_,_,_,_,_,_,_,_,_,_,rfl,HI.out.comp hpL hp⟩,?_⟩;simp[intOf];omega
 ·have i1:¬ (p:Int)<=(L:Int):=by omega
  gi_wp2
  refine QgA Ds W hI.2.2 fun W' hW'=>?_
  have bK:prZ p=prZ (L+1):=by
   rcases hI.2.1 with h|h
   ·rw[show p=L+1 by omega]
   ·subst h;unfold prZ prL;rw[show L+1-2=0 by omega]
  rw[bK] at hW';refine⟨_,results_tmp rfl _ _ _,?_⟩;exact⟨_,rfl,hW'.hO.base (by omega),hW'.hW⟩
theorem Qho (L:Nat) (hL:L<=1048576) (w:World) :
  Calls Tryz.prog 214 #[.int .i64 (L:Int)] w fun e w'=>∃ v,e=.returned v/\So J1 w' w.heap.size v (prZ (L+1))/\Below w.heap.size w w':=
 callsIn_wide.1 (Qia Fence.wide 3 trivial trivial trivial rfl (by omega) L hL w)
theorem QhB (n:Int) (w:World) :
  Calls Tryz.prog 173 #[.int .i64 n] w fun e w'=>∃ v,e=.returned (.tuple #[v,.int .i64 (if 1048576<n then 2 else 0)])/\(n<=1048576->So J1 w' w.heap.size v (prZ (n.toNat+1)))/\(1048576<n->v=.slice none 0 0)/\Below w.heap.size w w':=by
 go_enter Tryz.func173,Tryz.ntmps173
 by_cases h:1048576<n
 ·have h1:n>1048576:=h;rw[if_pos h];go_wp2
  refine bodyPost_ret (results_tmp2 rfl _ _ _) rfl ?_;exact⟨_,rfl,fun h'=>by omega,fun _=>rfl,Below.refl _ _⟩
 ·have h1:¬ n>1048576:=h;rw[if_neg h];obtain⟨L,hx,hL⟩:∃ L:Nat,max n 0=(L:Int)/\n.toNat=L:=⟨n.toNat,by omega,rfl⟩;have aA:L<=1048576:=by omega
  rw[hL];go_wp2_with fail;refine(Qho L aA w).mono ?_;rintro e w1 ⟨v,rfl,hv,hb⟩;go_wp2
  refine bodyPost_ret (results_tmp2 rfl _ _ _) rfl ?_;exact⟨_,rfl,fun _=>hv,fun h'=>by omega,hb⟩
