/-
  A factorization that is built in a variable: more of it.
-/
import Derived.Laws.IdiomCopy
import Derived.Test.YteidokhjmbihlaaGreatFG1
import Derived.Test.YteidokhjmbihlaaGreatFJ1
import Derived.Test.YteidokhjmbihlaaGreatFL1
set_option linter.all false
namespace Go.Proofs.YteidokhjmbihlaaGreat
open Go.RowKit
variable {α : Type} {E:Elt α}
theorem So.ofCells {α : Type} {E:Elt α} {w:World} {base g:Nat} {cur:Array Value} {l:List α} (hg:w.heap[g]? = some (.cells cur E.T (0,0))) (hbg:base<=g) (hcap:l.length<=maxLen) (hs:cur.size=l.length*E.k)
  (hel:∀ i (hi:i<l.length),∃ cs,E.ok w cs l[i]/\∀ j u,cs[j]? = some u->cur.toList[i*E.k+j]? = some u) (hno:∀ u∈cur.toList,noW u=true):So E w base (.slice (some ⟨g,0,none⟩) l.length l.length) l:=by
 refine⟨cur.toList,⟨by rw[Array.length_toList];exact hs,.inr ⟨g,l.length,cur,rfl,hbg,hg,Nat.le_refl _,hcap,hs,?_⟩⟩,hel,fun g' hg'=>?_⟩
 ·rw[<- hs,<- Array.length_toList,List.take_length]
 ·have:g'=g:=by simp[Value.ownBlock] at hg';exact hg'.symm
  subst this;exact YW (Alc.of hg hno)
theorem So.ints1 {w:World} {base g:Nat} {s0:Bool} {a0:Option Addr} {n0 c0:Nat} {x0:Int} (hg:w.heap[g]? = some (.cells #[.bool s0,.slice a0 n0 c0] 33 (0,0))) (hb:base<=g)
  (h0:It w (Qlv s0 a0 n0 c0) x0) :
  So eI w base (.slice (some ⟨g,0,none⟩) 1 1) [x0]:=by
 refine So.ofCells (E:=eI) (l:=[x0]) hg hb (show 1<=maxLen by decide) rfl (fun i hi=>?_) (fun u hu=>?_)
 ·have hi:i<1:=hi;match i,hi with
  | 0,_=>exact⟨_,⟨s0,a0,n0,c0,rfl,h0⟩,fun j u e=>by match j,e with|0,e=>exact e|1,e=>exact e|j+2,e=>simp at e⟩
 ·simp at hu
  rcases hu with rfl|rfl <;> rfl
theorem So.ints2 {w:World} {base g:Nat} {s0 s1:Bool} {a0 a1:Option Addr} {n0 c0 n1 c1:Nat} {x0 x1:Int} (hg:w.heap[g]? = some (.cells #[.bool s0,.slice a0 n0 c0,.bool s1,.slice a1 n1 c1] 33 (0,0))) (hb:base<=g)
  (h0:It w (Qlv s0 a0 n0 c0) x0) (h1:It w (Qlv s1 a1 n1 c1) x1) :
  So eI w base (.slice (some ⟨g,0,none⟩) 2 2) [x0,x1]:=by
 refine So.ofCells (E:=eI) (l:=[x0,x1]) hg hb (show 2<=maxLen by decide) rfl (fun i hi=>?_) (fun u hu=>?_)
 ·have hi:i<2:=hi;match i,hi with
  | 0,_=>exact⟨_,⟨s0,a0,n0,c0,rfl,h0⟩,fun j u e=>by match j,e with|0,e=>exact e|1,e=>exact e|j+2,e=>simp at e⟩
  | 1,_=>exact⟨_,⟨s1,a1,n1,c1,rfl,h1⟩,fun j u e=>by match j,e with|0,e=>exact e|1,e=>exact e|j+2,e=>simp at e⟩
 ·simp at hu
  rcases hu with rfl|rfl|rfl|rfl <;> rfl
theorem So.ints3 {w:World} {base g:Nat} {s0 s1 s2:Bool} {a0 a1 a2:Option Addr} {n0 c0 n1 c1 n2 c2:Nat} {x0 x1 x2:Int} (hg:w.heap[g]? = some (.cells #[.bool s0,.slice a0 n0 c0,.bool s1,.slice a1 n1 c1,.bool s2,.slice a2 n2 c2] 33 (0,0))) (hb:base<=g)
  (h0:It w (Qlv s0 a0 n0 c0) x0) (h1:It w (Qlv s1 a1 n1 c1) x1) (h2:It w (Qlv s2 a2 n2 c2) x2) :
  So eI w base (.slice (some ⟨g,0,none⟩) 3 3) [x0,x1,x2]:=by
 refine So.ofCells (E:=eI) (l:=[x0,x1,x2]) hg hb (show 3<=maxLen by decide) rfl (fun i hi=>?_) (fun u hu=>?_)
 ·have hi:i<3:=hi;match i,hi with
  | 0,_=>exact⟨_,⟨s0,a0,n0,c0,rfl,h0⟩,fun j u e=>by match j,e with|0,e=>exact e|1,e=>exact e|j+2,e=>simp at e⟩
  | 1,_=>exact⟨_,⟨s1,a1,n1,c1,rfl,h1⟩,fun j u e=>by match j,e with|0,e=>exact e|1,e=>exact e|j+2,e=>simp at e⟩
  | 2,_=>exact⟨_,⟨s2,a2,n2,c2,rfl,h2⟩,fun j u e=>by match j,e with|0,e=>exact e|1,e=>exact e|j+2,e=>simp at e⟩
 ·simp at hu
  rcases hu with rfl|rfl|rfl|rfl|rfl|rfl <;> rfl
theorem Sr.not_two {w:World} {v:Value} {l:List (Int×Int)} {D T:Nat} {fr:Nat×Nat} {x0 x1:Value} (h:Sr eP w v l) (hD:w.heap[D]? = some (.cells #[x0,x1] T fr)) (hl:l≠[]) :
  ∀ g,v.ownBlock=some g->¬ g=D:=by
 rintro g hg rfl;obtain⟨a,aA,rfl,h2,h3⟩:=h;rcases h3 with h3|⟨b,off,rfl,h4,h5⟩
 ·exact hl h3
 ·obtain rfl:b=g:=by simpa [Value.ownBlock] using hg
  obtain⟨cs,⟨s,a,n,c,rfl,-⟩,hc⟩:=h5 0 (List.length_pos_iff.2 hl);have c2:=hc 2 _ rfl;simp only[World.cell?,hD,Nat.zero_mul,Nat.add_zero] at c2;rcases off with _|_|off <;> simp at c2
def Two (w:World) (B:Nat):Prop:=∃ x0 x1 T fr,w.heap[B]? = some (.cells #[x0,x1] T fr)
theorem Two.lt {w:World} {B:Nat} (h:Two w B):B<w.heap.size:=by obtain⟨_,_,_,_,h⟩:=h;exact(Ql h).1
theorem Two.fr {w w':World} {B:Nat} {S:Nat->Prop} (h:Two w B) (hb:ButS S w w') (hn:¬ S B):Two w' B:=by
 have hl:=h.lt;obtain⟨x0,x1,T,fr,h⟩:=h;exact⟨x0,x1,T,fr,(hb.block B hl hn).trans h⟩
theorem Two.up {w w':World} {B:Nat} (h:Two w B) (hb:Below w.heap.size w w'):Two w' B:=h.fr (ButS.of hb (fun _=>False)) (fun h=>h)
def kyP (m:List (Int×Int)) (a:Nat):Int:=(m.getD a (0,0)).1
def Qlk (m:List (Int×Int)) (i:Nat):Prop:=∀ a b,a<b->b<i->kyP m a<=kyP m b
def InsI (m:List (Int×Int)) (i k:Nat):Prop:=(∀ a b,a<b->b<=i->a≠k->b≠k->kyP m a<=kyP m b)/\∀ b,k<b->b<=i->kyP m k<=kyP m b
def swP (m:List (Int×Int)) (k:Nat):List (Int×Int):=(m.set k (m.getD (k-1) (0,0))).set (k-1) (m.getD k (0,0))
theorem InsI.done {m:List (Int×Int)} {i k:Nat} (h:InsI m i k) (hk:k<=i) (he:k=0\/kyP m (k-1)<=kyP m k):Qlk m (i+1):=by
 intro a b aA hb;by_cases e1:a=k
 ·subst e1;exact h.2 b aA (by omega)
 ·by_cases e2:b=k
  ·subst e2;rcases he with he|he
   ·omega
   ·by_cases e3:a=b-1
    ·subst e3;exact he
    ·exact Int.le_trans (h.1 a (b-1) (by omega) (by omega) e1 (by omega)) he
  ·exact h.1 a b aA (by omega) e1 e2
theorem QO {α : Type} (m:List α) (i j:Nat) (x d : α) (hi:i<m.length):(m.set i x).getD j d=if j=i then x else m.getD j d:=by
 by_cases e:j=i
 ·subst e;rw[if_pos rfl,Zk3,List.getElem?_set_self hi,Option.getD_some]
 ·rw[if_neg e,Zk3,List.getElem?_set_ne (Ne.symm e),Zk3]
theorem YC {m:List (Int×Int)} {k:Nat} (h0:0<k) (hk:k<m.length) (a:Nat):kyP (swP m k) a=if a=k-1 then kyP m k else if a=k then kyP m (k-1) else kyP m a:=by
 unfold kyP swP;rw[QO _ _ _ _ _ (by rw[List.length_set];omega),QO _ _ _ _ _ hk];split
 ·rfl
 ·split <;> rfl
theorem InsI.step {m:List (Int×Int)} {i k:Nat} (h:InsI m i k) (h0:0<k) (hk:k<=i) (hi:i<m.length) (hgt:kyP m k<kyP m (k-1)):InsI (swP m k) i (k-1):=by
 have aA:k<m.length:=by omega
 refine⟨fun a b hab hb n1 n2=>?_,fun b h1 h2=>?_⟩
 ·rw[YC h0 aA,YC h0 aA,if_neg n1,if_neg n2];by_cases e1:a=k
  ·rw[if_pos e1,if_neg (by omega)];exact h.1 (k-1) b (by omega) hb (by omega) (by omega)
  ·rw[if_neg e1];by_cases e2:b=k
   ·rw[if_pos e2];exact h.1 a (k-1) (by omega) (by omega) e1 (by omega)
   ·rw[if_neg e2];exact h.1 a b hab hb e1 e2
 ·rw[YC h0 aA,YC h0 aA,if_pos rfl,if_neg (by omega)];by_cases e2:b=k
  ·rw[if_pos e2];omega
  ·rw[if_neg e2];exact h.2 b (by omega) h2
section
variable {T:TypeId} {w:World} {B:Nat} {vP vR:Value} {N:Int} {P R:List (Int×Int)} {b:Int}
theorem BuT.new (T:TypeId) {s:Bool} {a:Option Addr} {n c:Nat} (hN:It w (Qlv s a n c) N) (hP:So eP w 0 vP P) (hR:So eP w 0 vR R) (hd:∀ g,vP.ownBlock=some g->vR.ownBlock≠some g) :
  BuT T (w.alloc (.cells #[.bool s,.slice a n c,vP,vR,.int .i64 b] T)) w.heap.size vP vR N P R b:=
 ⟨⟨s,a,n,c,Zk1 w _,hN.alloc _⟩,hP.alloc _,hR.alloc _,hd,fun e=>Nat.lt_irrefl _ (hP.lt _ e).2,fun e=>Nat.lt_irrefl _ (hR.lt _ e).2⟩
theorem BuT.fx (h:BuT T w B vP vR N P R b):∃ s a n c,w.heap[B]? = some (.cells #[.bool s,.slice a n c,vP,vR,.int .i64 b] T (0,0))/\Fx w (.agg #[.bool s,.slice a n c,vP,vR,.int .i64 b]) ⟨N,P,R,b⟩:=by
 obtain⟨s,a,n,c,h1,h2⟩:=h.hb;exact⟨s,a,n,c,h1,s,a,n,c,vP,vR,rfl,h2,h.hP.sr,h.hR.sr⟩
theorem BuT.cellsA (h:BuT T w B vP vR N P R b):∃ s a n c,w.cell? ⟨B,0,none⟩=some (.bool s)/\w.cell? ⟨B,1,none⟩=some (.slice a n c)/\w.cell? ⟨B,2,none⟩=some vP/\w.cell? ⟨B,3,none⟩=some vR/\w.cell? ⟨B,4,none⟩=some (.int .i64 b) /\
  w.frozen? ⟨B,0,none⟩=false/\w.frozen? ⟨B,1,none⟩=false/\w.frozen? ⟨B,2,none⟩=false/\w.frozen? ⟨B,3,none⟩=false/\w.frozen? ⟨B,4,none⟩=false/\It w (Qlv s a n c) N:=by
 obtain⟨s,a,n,c,h1,h2⟩:=h.hb;exact⟨s,a,n,c,by simp[World.cell?,h1],by simp[World.cell?,h1],by simp[World.cell?,h1],by simp[World.cell?,h1],by simp[World.cell?,h1],by simp[World.frozen?,h1],by simp[World.frozen?,h1],by simp[World.frozen?,h1],by simp[World.frozen?,h1],by simp[World.frozen?,h1],h2⟩
end
