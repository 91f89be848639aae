/-
  The reference's Low and Prime.
-/
import Derived.Lib.ItoaNum
import Derived.RangeFuncNested
import Derived.RangeFuncBound
import Derived.RangeFuncCalls
import Derived.RangeFuncLeaves
import Derived.RangeFuncFrom
import Derived.Shelf.Abstract
import Derived.Shelf.RegionOpen
import Derived.WalkKit
import Derived.OwnWalkIn
import Derived.TacticsInMore
import Derived.LoopNIn
import Derived.LoopIn
import Derived.IntWalk
import Derived.Test.YteidokhjmbihlaaGreatFB
import Derived.Test.YteidokhjmbihlaaGreatFM
import Derived.Test.YteidokhjmbihlaaGreatFQ1
import Derived.Test.YteidokhjmbihlaaGreatFA
import Derived.Test.YteidokhjmbihlaaGreatFK1
import Derived.Test.YteidokhjmbihlaaGreatFSA
import Derived.Test.YteidokhjmbihlaaGreatFG1
import Derived.Test.YteidokhjmbihlaaGreatFO1
import Derived.Test.YteidokhjmbihlaaGreatFF
import Derived.Test.YteidokhjmbihlaaGreatFI1
set_option linter.all false
set_option maxRecDepth 100000
set_option maxHeartbeats 4000000
namespace Go.Proofs.YteidokhjmbihlaaGreat
open Go.RowKit
attribute [local go_sem ↓] Go.wp_at_zero Go.wp_at_succ
theorem QhT (X:Nat) (w:World) (h0:0<X) (h1:X<4294967296) :
  Calls Tryz.prog 210 #[.int .u32 (X:Int)] w fun e w'=>∃ k:Nat,e=.returned (.int .i64 (k:Int))/\1<=k/\k<=32/\2 ^ (k-1)<=X/\X<2 ^ k/\w=w':=by
 refine(Tryz.bits_Len32 (X:Int) w (by omega) (by omega)).mono ?_;rintro e w' ⟨rfl,rfl⟩;have hb:=Lib.bitLenAux_bounds 64 X (Nat.lt_of_lt_of_le h1 (by decide)) (by omega);have aA:=Lib.bitLen_le X 32 (by decide) h1;unfold Lib.bitLen at aA |-;rw[Int.toNat_natCast];generalize Lib.bitLenAux 64 X=b at *;obtain⟨b1,b2,b3⟩:=hb;exact⟨b,rfl,b1,aA,b2,b3,rfl⟩
theorem Qip {f:Nat->Nat} {m k:Nat} (hf:Wf f (m+1)) (hk:1<=k) (h1:2 ^ (k-1)<=f m) (h2:f m<2 ^ k):nv f (m+1)<2 ^ (32*m+k)/\2 ^ (32*m+k-1)<=nv f (m+1):=by
 have e:nv f (m+1)=nv f m+f m*4294967296 ^ m:=rfl;have hl:nv f m<4294967296 ^ m:=Qbk (fun i hi=>hf i (by omega));have hW:(4294967296:Nat) ^ m=2 ^ (32*m):=by rw[show (4294967296:Nat)=2 ^ 32 by decide,<- Nat.pow_mul]
 rw[e,hW];rw[hW] at hl;constructor
 ·have h3:(f m+1)*2 ^ (32*m)<=2 ^ k*2 ^ (32*m):=Nat.mul_le_mul_right _ h2;rw[Nat.add_mul,Nat.one_mul] at h3;rw[Nat.pow_add,Nat.mul_comm (2 ^ (32*m))];omega
 ·have h3:2 ^ (k-1)*2 ^ (32*m)<=f m*2 ^ (32*m):=Nat.mul_le_mul_right _ h1;rw[show 32*m+k-1=32*m+(k-1) by omega,Nat.pow_add,Nat.mul_comm (2 ^ (32*m))];omega
theorem QhD (a:Option Addr) (n cap:Nat) (f:Nat->Nat) (w:World) (h:Wd w a n f) (hf:Wf f n) (ht:n≠0->f (n-1)≠0) (hs:n<=1099511627776) :
  Calls Tryz.prog 218 #[.slice a n cap] w fun e w'=>∃ b:Nat,e=.returned (.int .i64 (b:Int))/\nv f n<2 ^ b/\(0<b->2 ^ (b-1)<=nv f n)/\Below w.heap.size w w':=by
 go_enter Tryz.func218,Tryz.ntmps218
 rcases Nat.eq_zero_or_pos n with h0|h0
 ·subst h0;go_wp2_with fail;go_ret
  exact⟨0,rfl,by simp[nv],fun h=>absurd h (by decide),Below.refl _ _⟩
 ·obtain⟨m,rfl⟩:∃ m,n=m+1:=⟨n-1,by omega⟩;obtain⟨b,aD,rfl,hb,hc⟩:=h.at (i:=m) (by omega);have aC:=hc m (by omega);have aA:=hf m (by omega);have aB:f m≠0:=ht (by omega);have hz:(((m+1:Nat):Int) == 0)=false:=by rw[beq_eq_false_iff_ne];omega
  have e1:IntKind.i64.wrap (((m+1:Nat):Int)-1)=(m:Int):=by rw[IntKind.wrap_i64];omega
  have e2:IntKind.i64.wrap (32*(m:Int))=((32*m:Nat):Int):=by rw[IntKind.wrap_i64];omega
  have i0:(0:Int)<=(m:Int):=by omega
  have i1:(m:Int)<((m+1:Nat):Int):=by omega
  obtain⟨y,hy⟩:∃ y,f m=y:=⟨_,rfl⟩;rw[hy] at aC aA aB;have HF:=Qh hf;have HY:=Qh hy;clear hc hf ht hy;go_wp2_with fail;refine(QhT y w (by omega) aA).mono ?_;rintro e w' ⟨k,rfl,k1,k2,k3,k4,rfl⟩;have e3:IntKind.i64.wrap (((32*m:Nat):Int)+(k:Int))=((32*m+k:Nat):Int):=by rw[IntKind.wrap_i64];omega
  rw[<- HY.out] at k3 k4;have hT:=Qh (Qip HF.out k1 k3 k4);go_wp2_with fail;go_ret
  exact⟨32*m+k,rfl,hT.out.1,fun _=>hT.out.2,Below.refl _ _⟩
theorem QeE (v:Value) (x:Int) (w:World) (hx:It w v x) (hs:sz x<=1099511627776) :
  Calls Tryz.prog 180 #[v] w fun e w'=>∃ b:Nat,e=.returned (.int .i64 (b:Int))/\x.natAbs<2 ^ b/\(0<b->2 ^ (b-1)<=x.natAbs)/\Below w.heap.size w w':=by
 obtain⟨a,aB,f,rfl,h1,h2,h3,h4,h5⟩:=hx.top;have HF:=Qh h2;have HV:=Qh h3;have HT:=Qh h4;clear h2 h3 h4 h5 hx;have aA:=Qc w (.cells #[.bool (decide (x<0)),.slice a (sz x) aB] 33);have aC:=h1.up aA;have HB:=Qh aA;clear aA;go_enter Tryz.func180,Tryz.ntmps180
 go_wp2_with fail;refine(QhD a (sz x) aB f _ aC HF.out HT.out hs).mono ?_;rintro e w' ⟨b,rfl,k1,k2,hb⟩;rw[HV.out] at k1 k2;have HR:=Qh (And.intro k1 (And.intro k2 (Bl.up HB.out hb)));clear k1 k2 hb;go_wp2_with fail;go_ret
 exact⟨b,rfl,HR.out⟩
open Go.RowKit Go.Shelf
attribute [local go_sem] Oper.semAt_some
theorem QjS (F:Fence) (n:Nat) (h5:F.fn 136) (hro:F.round=none) (a:Option Addr) (m c:Nat) (w:World) :
  CallsIn F n Tryz.prog 136 #[.slice a m c] w fun e w'=>e=.returned (.func (.func 182) #[] #[.pointer (some ⟨w.heap.size,0,none⟩)])/\w'=w.alloc (.cells #[.slice a m c] 26):=by
 refine callsIn_of_wp Tryz.func136 rfl h5 ?_ hro;simp only[Tryz.ntmps136,List.size_toArray,List.length_cons,List.length_nil,Nat.reduceAdd,Nat.reduceSub,Array.replicate_succ,Array.replicate_zero,List.push_toArray,List.append_toArray,List.nil_append,List.cons_append];gi_wp2
 go_ret
 exact⟨rfl,rfl⟩
abbrev Un (n:Nat):Type:={ i:Nat // i<n }
def KpB (b1:Nat) (a:Option Addr) (n:Nat) (f:Nat->Nat) (W W':World):Prop:=W'.heap[b1]? = W.heap[b1]? /\ (Wd W a n f->Wd W' a n f)
def Qg4 (n:Nat) (xs:List (Un n)):Prop:=xs.map Subtype.val=(List.range' 0 n).reverse
theorem Qgp (F:Fence) (N:Nat) (h6:F.fn 182) (hro:F.round=none) (hn:1<=N) (b1:Nat) (a:Option Addr) (n cap:Nat) (f:Nat->Nat) (hl:n<=2) (w:World) (hb1:b1<w.heap.size)
  (hc1:w.heap[b1]? = some (.cells #[.slice a n cap] 26 (0,0))) (hw:Wd w a n f) :
  SeqStopsK F N Tryz.prog 182 #[.pointer (some ⟨b1,0,none⟩)] (fun x:Un n=>#[Value.int .i64 (x.1:Int),Value.int .u32 (f x.1:Int)]) (KpB b1 a n f) (Qg4 n) (fun _=>True) 3 w:=by
 intro lp J Jx W hW _ _ hY h0;have aF:=(hW.block b1 hb1).trans hc1;have aI:=hw.up hW;have aA:∀ {W:World},W.heap[b1]? = some (.cells #[.slice a n cap] 26 (0,0))->W.cell? ⟨b1,0,none⟩=some (.slice a n cap):=fun h=>by simp[World.cell?,h]
 have q1:=aA aF;have e1:IntKind.i64.wrap ((n:Int)-1)=(n:Int)-1:=IntWalk.i64_in _ (by omega);refine callsIn_of_wp Tryz.func182 rfl h6 ?_ hro;simp only[Tryz.ntmps182,List.size_toArray,List.length_cons,List.length_nil,Nat.reduceAdd,Nat.reduceSub,Array.replicate_succ,Array.replicate_zero,List.push_toArray,List.append_toArray,List.nil_append,List.cons_append];gi_wp2
 gi_loopw [3] (fun s wr=>∃ (k:Nat) (aC:List (Un n)),s=.int .i64 ((k:Int)-1)/\k<=n/\aC.map Subtype.val=(List.range' k (n-k)).reverse/\J aC wr/\wr.heap[b1]? = some (.cells #[.slice a n cap] 26 (0,0))/\Wd wr a n f)
  (fun s _=>(intOf s+1).toNat)
 case atStart=>exact⟨n,[],rfl,Nat.le_refl _,by simp,h0,aF,aI⟩
 case round=>
  obtain⟨k,aC,rfl,hk,aD,hJ,aK,aJ⟩:=hrel;have c1:=aA aK
  have aB:aC.length=n-k:=by
   have:=congrArg List.length aD;simpa using this
  have aE:=Qh aD;have aV:=Qh aB;clear q1 aF aI e1 aD;rcases k with _|k
  ·gi_wp2
   go_end0
   refine⟨⟨_,rfl⟩,.inl ⟨aC,?_,hJ⟩⟩;unfold Qg4;rw[aE.out,Nat.sub_zero]
  ·obtain⟨b,aT,ha,hb,hc⟩:=aJ.at (i:=k) (by omega);subst ha;have aU:=hc k (by omega);have i1:(0:Int)<=((k+1:Nat):Int)-1:=by omega
   have i2:((k+1:Nat):Int)-1<(n:Int):=by omega
   have i3:(((k+1:Nat):Int)-1).toNat=k:=by omega
   have i4:((k+1:Nat):Int)-1=(k:Int):=by omega
   have i5:(0:Int)<=(k:Int):=by omega
   have i6:(k:Int)<(n:Int):=by omega
   have i7:IntKind.i64.wrap ((k:Int)-1)=(k:Int)-1:=IntWalk.i64_in _ (by omega);have aM:k<n:=by omega
   obtain⟨fn,aP,aH,aS,hy,hR⟩:=hY aC ⟨k,aM⟩ wr hJ (by omega);dsimp only at hy;rw[i4];clear hc i4 i1 i2 i3 aB;gi_wp2
   refine hR.mono ?_;rintro e W3 (⟨rfl,aR,aO⟩|⟨rfl,aG⟩)
   ·have aL:=aO.1.trans aK;have aQ:=aO.2 aJ;have c3:=aA aL;gi_wp2
    go_roundw
    case rel=>
     refine⟨k,aC++[⟨k,aM⟩],rfl,by omega,?_,aR,aL,aQ⟩;rw[List.map_append,aE.out,show n-k=(n-(k+1))+1 by omega,List.range'_succ,List.reverse_cons];rfl
    case measure=>simp[intOf]
   ·gi_wp2
    refine bodyPost_ret (results_none rfl _ _ _) rfl ?_;exact⟨⟨_,rfl⟩,.inr ⟨_,trivial,aG⟩⟩
def fdv (f:Nat->Nat) (l:List Nat):Nat:=l.foldl (fun v i=>v%4294967296*4294967296+f i) 0
theorem Qi2 (f:Nat->Nat) (l:List Nat) (i:Nat):fdv f (l++[i])=fdv f l%4294967296*4294967296+f i:=by unfold fdv;rw[List.foldl_append];rfl
theorem QjW {f:Nat->Nat} {n:Nat} (hf:Wf f n) (hn:n<=2):fdv f (List.range' 0 n).reverse=nv f n:=by
 rcases n with _|_|_|n
 ·rfl
 ·have:=hf 0 (by omega);simp[fdv,nv,List.range']
 ·have h0:=hf 0 (by omega);have h1:=hf 1 (by omega);simp[fdv,nv,List.range']
  omega
 ·omega
structure LwI (w W:World) (D:Nat) (f:Nat->Nat) (n:Nat) (box:Obj) (l:List (Un n)):Prop where
 hD:W.heap[D]? = some (.cells #[.int .u64 (fdv f (l.map Subtype.val):Int)] 138 (0,0))
 hB:W.heap[w.heap.size]? = some box
 hW:Below w.heap.size w W
theorem QkE (F:Fence) (N:Nat) (h1:F.fn 89) (h2:F.fn 136) (h3:F.fn 182) (hro:F.round=none) (hN:3<=N) (v:Value) (x:Nat) (w:World) (hx:It w v (x:Int)) (hlt:x<1099511627776) :
  CallsIn F N Tryz.prog 89 #[v] w fun e w'=>e=.returned (.tuple #[.int .i64 (x:Int),.bool true])/\Below w.heap.size w w':=by
 obtain⟨a,aA,f,rfl,hw,hf,hv,-,-⟩:=hx.top;have hs:sz (x:Int)<=2:=Qf (Nat.lt_of_lt_of_le hlt (by decide));have aB:decide ((x:Int)<0)=false:=decide_eq_false (by omega);rw[aB];obtain⟨n,hn⟩:∃ n,sz (x:Int)=n:=⟨_,rfl⟩;rw[hn] at hw hf hv hs |-;have i1:¬ (n:Int)>2:=by omega
 have hv:nv f n=x:=hv;have HF:=Qh hf;have HV:=Qh hv;have a0:1<=N:=by omega
 clear hx hn aB hf hv;refine callsIn_of_wp_marks Tryz.func89 rfl h1 ?_ hro;simp only[Tryz.ntmps89,List.size_toArray,List.length_cons,List.length_nil,Nat.reduceAdd,Nat.reduceSub,Array.replicate_succ,Array.replicate_zero,List.push_toArray,List.append_toArray,List.nil_append,List.cons_append];gi_wp2_with (gi_at_call 136;refine(QjS F (N-1) h2 hro _ _ _ _).mono ?_;rintro e w' ⟨rfl,rfl⟩)
 have hb0:=Qc w (Qlr 33 false a n aA);have aD:=Zk1 w (Qlr 33 false a n aA);have aI:=Qc (w.alloc (Qlr 33 false a n aA)) (.cells #[.int .u64 0] 138);have aC:=Zk1 (w.alloc (Qlr 33 false a n aA)) (.cells #[.int .u64 0] 138);have aF:=Qc ((w.alloc (Qlr 33 false a n aA)).alloc (.cells #[.int .u64 0] 138)) (.cells #[.slice a n aA] 26);have aO:=Zk1 ((w.alloc (Qlr 33 false a n aA)).alloc (.cells #[.int .u64 0] 138)) (.cells #[.slice a n aA] 26);replace aD:=((Bl.up aI aF).block _ (Ql aD).1).trans aD;replace aC:=(aF.block _ (Ql aC).1).trans aC;rw[Zk2] at aC;rw[Zk2,Zk2] at aO;have aH:=Bl.up hb0 (Bl.up aI aF);have aV:=hw.up aH;have aS:(((w.alloc (Qlr 33 false a n aA)).alloc (.cells #[.int .u64 0] 138)).alloc (.cells #[.slice a n aA] 26)).heap.size=w.heap.size+3:=by simp
 clear hb0 aI aF hw;generalize ((w.alloc (Qlr 33 false a n aA)).alloc (.cells #[.int .u64 0] 138)).alloc (.cells #[.slice a n aA] 26)=w2 at *;have HL:=Qh aH;have a1:=Qh aD;have aE:=Qh aS
 refine wpIn_rangeFunc_ownF (gf:=182) (lb:=#[.pointer (some ⟨w.heap.size+1+1,0,none⟩)]) (encs:=fun x:Un n=>#[Value.int .i64 (x.1:Int),Value.int .u32 (f x.1:Int)]) (Kp:=KpB (w.heap.size+1+1) a n f) (S:=Qg4 n) (Sp:=fun _=>True) (N:=3) (w0:=w2)
  ?hro ?h1 ?hg ?hFg ?eg ?hseq ?hKt ?hKb ?hb0 ?hps (fun pre W=>LwI w W (w.heap.size+1) f n (Qlr 33 false a n aA) pre) (fun _ _ _=>False) ?own ?hIx ?h0
  (fun x=>{ tmps:=#[.agg #[.bool false,.slice a n aA],.pointer (some ⟨w.heap.size,0,none⟩),.int .i64 0,.bool false,.pointer (some ⟨w.heap.size+1,0,none⟩),undef,.int .u32 (f x.1:Int),undef,.pointer (some ⟨w.heap.size,1,none⟩),.slice a n aA,.int .i64 (n:Int),.bool false,.pointer (some ⟨w.heap.size,1,none⟩),.slice a n aA,.func (.func 182) #[] #[.pointer (some ⟨w.heap.size+1+1,0,none⟩)],.int .i64 (x.1:Int),.int .u32 (f x.1:Int),undef,undef,undef,undef,undef,undef,undef,undef,undef,undef,undef,undef,undef,undef,undef,undef,undef,undef,undef,undef,undef],defers:=[] }) ?assign ?body ?done ?stop
 case hro=>exact hro
 case h1=>omega
 case hg=>rfl
 case hFg=>exact h3
 case eg=>exact enters_of Tryz.func182 (by kernel_rfl) rfl
 case hseq=>exact Qgp F (N-1) h3 hro (by omega) (w.heap.size+1+1) a n aA f hs w2 (by omega) aO aV
 case hKt=>exact fun h k=>⟨k.1.trans h.1,fun d=>k.2 (h.2 d)⟩
 case hKb=>exact fun W l o o' hl ho hc _=>⟨World.putObj_heap_other (by omega),fun d=>d.fr (ButS.grown (grownBy_putObj' W l o')) (fun g e=>by cases e;exact JT ho hc)⟩
 case hb0=>exact Below.refl _ _
 case hps=>exact fun _=>rfl
 case hIx=>exact fun _ _ _ _ _ hs _ _=>hs
 case h0=>exact⟨aC,aD,aH⟩
 case own=>
  intro pre A B aX hs hg hr;refine⟨(hg.block _ (Ql hs.hD).1 (fun e=>by have:=(hr _ e.symm).1;have:=aE.out;omega)).trans hs.hD,(hg.block _ (Ql hs.hB).1 (fun e=>by have:=(hr _ e.symm).1;have:=aE.out;omega)).trans hs.hB,ButS.below hs.hW (ButS.grown hg) hs.hW.size (fun k e=>by have:=(hr k e).1;have:=aE.out;omega)⟩
 case assign=>
  intro l x W K hK;gi_wp2
  exact hK
 case body=>
  rintro l pre x W hI -;have hD:=hI.hD;obtain⟨v,hv⟩:∃ v,fdv f (pre.map Subtype.val)=v:=⟨_,rfl⟩;rw[hv] at hD;have cD:W.cell? ⟨w.heap.size+1,0,none⟩=some (.int .u64 (v:Int)):=by simp[World.cell?,hD]
  have fD:W.frozen? ⟨w.heap.size+1,0,none⟩=false:=by simp[World.frozen?,hD]
  have aZ:=HF.out x.1 x.2;have HI:=Qh hI;have aW:=Qh hv;have HD:=Qh hD;have aY:IntKind.u64.wrap ((v:Int)*4294967296)=((v%4294967296:Nat):Int)*4294967296:=by rw[IntKind.wrap_u64];omega
  clear hI hv hD;gi_wp2
  have aT:bits BinOp.or IntKind.u64 ((v:Int)%4294967296*4294967296) (f x.1:Int)=((v%4294967296*4294967296+f x.1:Nat):Int):=by
   rw[Qeb _ _ (by omega) (by omega) (by omega) (by omega)];omega
  rw[aT];have aG:=ButS.set W (w.heap.size+1) 0 (.int .u64 ((v%4294967296*4294967296+f x.1:Nat):Int))
  have aU:∀ g,g=w.heap.size+1->NoW W g:=by
   rintro g rfl o y hy;simp only[World.cell?,HD.out] at hy;rcases o with _|o <;> simp at hy
  refine⟨KeepsOthers.setCell _ _ _,⟨Below.heap_setCell W ⟨w.heap.size+1,0,none⟩ _ (w.heap.size+1+1) (by show w.heap.size+1+1≠w.heap.size+1;omega),fun d=>d.fr aG aU⟩,?_,?_,?_⟩
  ·rw[List.map_append,List.map_cons,List.map_nil,Qi2,aW.out];simp[World.setCell,Array.getElem?_modify,HD.out]
  ·exact(aG.block _ (Ql HI.out.hB).1 (by omega)).trans HI.out.hB
  ·exact ButS.below HI.out.hW aG HI.out.hW.size (fun g e=>by omega)
 case done=>
  rintro D xs W hD aK hI hK;have aL:fdv f (xs.map Subtype.val)=x:=by rw[aK,QjW HF.out hs];exact HV.out
  have aJ:=hI.hD;rw[aL] at aJ;have aP:=hI.hB;have cD:W.cell? ⟨w.heap.size+1,0,none⟩=some (.int .u64 (x:Int)):=by simp[World.cell?,aJ]
  have cB:W.cell? ⟨w.heap.size,0,none⟩=some (.bool false):=by simp[World.cell?,aP]
  have aR:IntKind.i64.wrap (x:Int)=(x:Int):=by rw[IntKind.wrap_i64];omega
  have aB:decide ((x:Int)<0)=false:=decide_eq_false (by omega);have aM:¬ (x:Int)<0:=by omega
  have HI:=Qh hI;have HK:=Qh hK;have aQ:=Qh hD;clear hI hK hD aJ aP aL aK;by_cases hx0:(x:Int)=0
  ·have hz:((x:Int) != 0)=false:=by rw[hx0];rfl
   gi_wp2
   refine⟨by simp,.inl ⟨D,_,rfl,run_takeDeferred HK.out,?_⟩⟩;refine⟨_,results_tmp2 rfl _ _ _,?_⟩;exact⟨rfl,ButS.below HI.out.hW (ButS.grown (grownBy_putObj' W D _)) HI.out.hW.size (fun k e=>by cases e;have:=aE.out;have:=aQ.out;omega)⟩
  ·have hz:((x:Int) != 0)=true:=by rw[bne_iff_ne];exact hx0
   gi_wp2
   refine⟨by simp,.inl ⟨D,_,rfl,run_takeDeferred HK.out,?_⟩⟩;refine⟨_,results_tmp2 rfl _ _ _,?_⟩;exact⟨rfl,ButS.below HI.out.hW (ButS.grown (grownBy_putObj' W D _)) HI.out.hW.size (fun k e=>by cases e;have:=aE.out;have:=aQ.out;omega)⟩
 case stop=>
  rintro D c pre W - - h -;exact h.elim
theorem Qd9 (v:Value) (x:Nat) (w:World) (hx:It w v (x:Int)) (hlt:x<1099511627776) :
  Calls Tryz.prog 89 #[v] w fun e w'=>e=.returned (.tuple #[.int .i64 (x:Int),.bool true])/\Below w.heap.size w w':=
 callsIn_wide.1 (QkE Fence.wide 3 trivial trivial trivial rfl (by omega) v x w hx hlt)
theorem QfU (n d:Nat):(n:Int).tmod (d:Int)=((n%d:Nat):Int):=by rw[Int.tmod_eq_emod_of_nonneg (by omega)];rfl
theorem Qis (n d:Nat):(n:Int).tdiv (d:Int)=((n/d:Nat):Int):=by rw[Int.tdiv_eq_ediv_of_nonneg (by omega)];rfl
theorem DvD.sq {n0 n d:Nat} {out:List Nat} (h:DvD n0 n d out) (h0:n0<1099511627776) (h0':1<=n0) (hd:d*d<=n):d<1048576:=by
 have h1:n<=n0:=Nat.le_of_dvd h0' h.dv;rcases Nat.lt_or_ge d 1048576 with h|h
 ·exact h
 ·have:1048576*1048576<=d*d:=Nat.mul_le_mul h h;omega
theorem QdV (n0:Nat) (w:World) (h1:1<=n0) (h0:n0<1099511627776) :
  Calls Tryz.prog 181 #[.int .i64 (n0:Int)] w fun e w'=>∃ v l,e=.returned v/\So e64 w' w.heap.size v (zI l)/\Prm n0 l/\l.length<=1048577/\Below w.heap.size w w':=by
 go_enter Tryz.func181,Tryz.ntmps181
 go_wp2_with fail
 go_loopw [0,3,4] (fun s0 s3 s4 wr=>∃ (n d:Nat) (aA:List Nat),s0=.int .i64 (n:Int)/\s4=.int .i64 (d:Int)/\d<=1048576/\So e64 wr w.heap.size s3 (zI aA)/\DvD n0 n d aA/\Below w.heap.size w wr)
  (fun _ _ s4 _=>1048577-(intOf s4).toNat)
 case atStart=>exact⟨n0,2,[],rfl,rfl,by omega,So.nil e64 w _,DvD.start h1,Below.refl _ _⟩
 case round=>
  obtain⟨n,d,aA,rfl,rfl,hd,hS,hD,hb⟩:=hrel;obtain⟨ao,co,rfl,aM⟩:=hS.slice;have bA:=hD.n1;have a5:=hD.d2;have aQ:n<=n0:=Nat.le_of_dvd h1 hD.dv;have a2:(d:Int)*(d:Int)=((d*d:Nat):Int):=by rw[Int.natCast_mul]
  have aG:d*d<=1048576*1048576:=Nat.mul_le_mul hd hd;have aK:=hD.len;have HD:=Qh hD;have HS:=Qh hS;have HB:=Qh hb;obtain⟨q,hq⟩:∃ q,d*d=q:=⟨_,rfl⟩;rw[hq] at a2 aG;have hw:IntKind.i64.wrap (q:Int)=(q:Int):=by rw[IntKind.wrap_i64];omega
  have hm:=QfU n d;have aX:(zI aA).length+1<=1099511627776:=by rw[QdF];omega
  by_cases hle:q<=n
  ·have i1:(q:Int)<=(n:Int):=by omega
   have aS:=HD.out.sq h0 h1 (by omega);have a9:IntKind.i64.wrap ((d:Int)+1)=(d:Int)+1:=by rw[IntKind.wrap_i64];omega
   have bC:¬ (d:Int)=0:=by omega
   have a0:=Qh aS;by_cases hdv:d∣n
   ·have aB:n%d=0:=Nat.mod_eq_zero_of_dvd hdv;rw[aB] at hm;have hm:(n:Int).tmod (d:Int)=0:=hm;have aO:=Qh hdv;clear hS hb hD aM aK hle aG hd aS hdv aB hq;go_upto_region 6 with fail;have aD:=Qc wr (.cells #[.int .i64 (d:Int)] 2);have aF:Sc e64 (wr.alloc (.cells #[.int .i64 (d:Int)] 2)) wr.heap.size 0 [(d:Int)]:=Sc.one (E:=e64) (cs:=[.int .i64 (d:Int)]) (Zk1 wr _) rfl;have aE:=HS.out.up aD;have aC:=Bl.up HB.out aD;go_wp2_with (at_builtin;go_must (refine Qc3 (E:=e64) rfl (.tmp 16) (.tmp 18) _ rfl Tryz.underlying70 w.heap.size _ (zI aA) [(d:Int)] rfl aE aC.size _ 0 1 1 rfl rfl aF (by decide) aX ?_);intro g' aJ w6 aI aH aR)
    have aV:=Qh (ButS.below aC aH aC.size (fun g hg=>(aE.lt g hg).1));have aU:=Qh (show So e64 w6 w.heap.size _ (zI (aA++[d])) by rw[QcQ];exact aI);have a7:=Qh (HD.out.yes aO.out);clear aD aF aE aC aI aH aR hm HD HS HB aO;go_wp2_with fail
    go_loopw [0] (fun s0 wr=>∃ m:Nat,s0=.int .i64 (m:Int)/\1<=m/\cof d m=cof d n/\m<1099511627776/\Below w.heap.size w wr/\So e64 wr w.heap.size (.slice (some ⟨g',0,none⟩) ((zI aA).length+1) aJ) (zI (aA++[d])))
     (fun s0 _=>(intOf s0).toNat)
    case atStart=>exact⟨n,rfl,by omega,rfl,by omega,aV.out,aU.out⟩
    case round=>
     obtain⟨m,rfl,a4,aL,bB,aT,aP⟩:=hrel;have hm:=QfU m d;have aY:=Qis m d;have a1:=Qh aT;have aZ:=Qh aP;by_cases hdm:d∣m
     ·have aB:m%d=0:=Nat.mod_eq_zero_of_dvd hdm;rw[aB] at hm;have hm:(m:Int).tmod (d:Int)=0:=hm;have aW:1<=m/d:=(Nat.one_le_div_iff (by omega)).2 (Nat.le_of_dvd (by omega) hdm);have a3:m/d<m:=Nat.div_lt_self (by omega) (by omega);have HC:=Qh (show cof d (m/d)=cof d n by rw[<- (Qil a5 a4 hdm).2];exact aL);obtain⟨r,hr⟩:∃ r,m/d=r:=⟨_,rfl⟩;rw[hr] at aY aW a3 HC;have a8:IntKind.i64.wrap (r:Int)=(r:Int):=by rw[IntKind.wrap_i64];omega
      clear aT aP aL hdm aB hr;go_wp2_with fail;refine⟨⟨r,rfl,aW,HC.out,by omega,a1.out,aZ.out⟩,by simp[intOf];omega⟩
     ·have aB:(((m%d:Nat):Int) == 0)=false:=by
       rw[beq_eq_false_iff_ne];have:=mt Nat.dvd_of_mod_eq_zero hdm;omega
      have HE:=Qh (show m=cof d n by rw[<- aL,QiZ hdm]);obtain⟨r,hr⟩:∃ r:Int,((m%d:Nat):Int)=r:=⟨_,rfl⟩;rw[hr] at hm aB;clear aT aP aL hdm hr aY;go_wp2_with fail;have:=a0.out;refine⟨⟨m,d+1,aA++[d],rfl,by go_num,by omega,aZ.out,HE.out▸a7.out,a1.out⟩,by simp[intOf];omega⟩
   ·have aB:(((n%d:Nat):Int) == 0)=false:=by
     rw[beq_eq_false_iff_ne];have:=mt Nat.dvd_of_mod_eq_zero hdv;omega
    have aO:=Qh hdv;obtain⟨r,hr⟩:∃ r:Int,((n%d:Nat):Int)=r:=⟨_,rfl⟩;rw[hr] at hm aB;clear hS hb hD aM aK hle aG hd aQ aS hdv hr hq;go_wp2_with fail;have:=a0.out;refine⟨⟨n,d+1,aA,rfl,by go_num,by omega,HS.out,HD.out.no aO.out,HB.out⟩,by simp[intOf];omega⟩
  ·have i1:¬ (q:Int)<=(n:Int):=by omega
   have HP:=Qh (HD.out.done (by rw[hq];omega));by_cases hn2:1<n
   ·have i2:(n:Int)>1:=by omega
    rw[if_pos hn2] at HP;have aD:=Qc wr (.cells #[.int .i64 (n:Int)] 2);have aF:Sc e64 (wr.alloc (.cells #[.int .i64 (n:Int)] 2)) wr.heap.size 0 [(n:Int)]:=Sc.one (E:=e64) (cs:=[.int .i64 (n:Int)]) (Zk1 wr _) rfl;have aE:=HS.out.up aD;have aC:=Bl.up HB.out aD;have a6:=Qh aK;clear hS hb hD aM aK hle aG aQ hq hm;go_wp2_with (at_builtin;go_must (refine Qc3 (E:=e64) rfl (.tmp 29) (.tmp 31) _ rfl Tryz.underlying70 w.heap.size _ (zI aA) [(n:Int)] rfl aE aC.size _ 0 1 1 rfl rfl aF (by decide) aX ?_);intro g' aJ w6 aI aH aR)
    have aV:=Qh (ButS.below aC aH aC.size (fun g hg=>(aE.lt g hg).1));have aU:=Qh (show So e64 w6 w.heap.size _ (zI (aA++[n])) by rw[QcQ];exact aI);clear aD aF aE aC aI aH aR;go_wp2_with fail;go_ret
    exact⟨_,rfl,_,aU.out,HP.out,by rw[List.length_append];have:=a6.out;simp;omega,aV.out⟩
   ·have i2:¬ (n:Int)>1:=by omega
    rw[if_neg hn2] at HP;clear hS hb hD aM hle aG aQ hq hm;go_wp2_with fail;go_ret
    exact⟨_,rfl,_,HS.out,HP.out,by omega,HB.out⟩
