/-
  algoristref29.Made, Value.
-/
import Derived.Test.YteidokhjmbihlaaGreatFZA
import Derived.Test.YteidokhjmbihlaaGreatFN
import Derived.Test.YteidokhjmbihlaaGreatFF
import Derived.Test.YteidokhjmbihlaaGreatDV
import Derived.Test.YteidokhjmbihlaaGreatDW
import Derived.Test.YteidokhjmbihlaaGreatDR
import Derived.Test.YteidokhjmbihlaaGreatDO
import Derived.Test.YteidokhjmbihlaaGreatDQ
import Derived.Test.YteidokhjmbihlaaGreatDC
import Derived.Test.YteidokhjmbihlaaGreatDD
set_option linter.all false
set_option maxHeartbeats 4000000
namespace Go.Proofs.YteidokhjmbihlaaGreat
def kyI (m:List Int) (a:Nat):Int:=m.getD a 0
def SoI (m:List Int) (i:Nat):Prop:=∀ a b,a<b->b<i->kyI m a<=kyI m b
def InJ (m:List Int) (i k:Nat):Prop:=(∀ a b,a<b->b<=i->a≠k->b≠k->kyI m a<=kyI m b)/\∀ b,k<b->b<=i->kyI m k<=kyI m b
def swI (m:List Int) (k:Nat):List Int:=(m.set k (m.getD (k-1) 0)).set (k-1) (m.getD k 0)
theorem InJ.done {m:List Int} {i k:Nat} (h:InJ m i k) (hk:k<=i) (he:k=0\/kyI m (k-1)<=kyI m k):SoI m (i+1):=by
 intro a b aA hb;by_cases e1:a=k
 ·subst e1;exact h.2 b aA (by omega)
 ·by_cases e2:b=k
  ·subst e2;rcases he with he|he
   ·omega
   ·by_cases e3:a=b-1
    ·subst e3;exact he
    ·exact Int.le_trans (h.1 a (b-1) (by omega) (by omega) e1 (by omega)) he
  ·exact h.1 a b aA (by omega) e1 e2
theorem YA {m:List Int} {k:Nat} (h0:0<k) (hk:k<m.length) (a:Nat):kyI (swI m k) a=if a=k-1 then kyI m k else if a=k then kyI m (k-1) else kyI m a:=by
 unfold kyI swI;rw[QO _ _ _ _ _ (by rw[List.length_set];omega),QO _ _ _ _ _ hk]
theorem InJ.step {m:List Int} {i k:Nat} (h:InJ m i k) (h0:0<k) (hk:k<=i) (hi:i<m.length) (hgt:kyI m k<kyI m (k-1)):InJ (swI m k) i (k-1):=by
 have aA:k<m.length:=by omega
 refine⟨fun a b hab hb n1 n2=>?_,fun b h1 h2=>?_⟩
 ·rw[YA h0 aA,YA h0 aA,if_neg n1,if_neg n2];by_cases e1:a=k
  ·rw[if_pos e1,if_neg (by omega)];exact h.1 (k-1) b (by omega) hb (by omega) (by omega)
  ·rw[if_neg e1];by_cases e2:b=k
   ·rw[if_pos e2];exact h.1 a (k-1) (by omega) (by omega) e1 (by omega)
   ·rw[if_neg e2];exact h.1 a b hab hb e1 e2
 ·rw[YA h0 aA,YA h0 aA,if_pos rfl,if_neg (by omega)];by_cases e2:b=k
  ·rw[if_pos e2];omega
  ·rw[if_neg e2];exact h.2 b (by omega) h2
theorem SoI.pw {m:List Int} (h:SoI m m.length):m.Pairwise (· <= ·):=by
 rw[List.pairwise_iff_getElem];intro a b ha hb aA;have:=h a b aA hb;unfold kyI at this;rw[Zk3,Zk3,Zk4 ha,Zk4 hb,Option.getD_some,Option.getD_some] at this;exact this
open Go.RowKit
attribute [local go_sem ↓] Go.wp_at_zero Go.wp_at_succ
structure FlK (Y:Nat->Value->World->Prop) (W0:World) (b:Nat->Bool) (x:Nat->Value) (W:World):Prop where
 bl:Below W0.heap.size W0 W
 ok:∀ i,b i=true->Y i (x i) W
theorem FlK.start (Y:Nat->Value->World->Prop) (W0:World) (x:Nat->Value):FlK Y W0 (fun _=>false) x W0:=⟨Below.refl _ _,fun _ h=>nomatch h⟩
theorem FlK.put {Y:Nat->Value->World->Prop} {W0 W W':World} {b:Nat->Bool} {x:Nat->Value} (h:FlK Y W0 b x W) (hY:∀ i v,Kp (Y i v)) {i:Nat} {v:Value} (hb:Below W.heap.size W W') (h0:Y i v W'):FlK Y W0 (Qn b i true) (Qn x i v) W':=
 ⟨h.bl.trans (hb.mono h.bl.size),fun k hk=>by
  by_cases e:k=i
  ·subst e;rw[Qb];exact h0
  ·rw[Qa _ _ e] at hk |-;exact(hY _ _).up (h.ok k hk) hb⟩
theorem FlI.start0 (f:Nat->Rk) (vs:List (Nat×Nat×Int)) (cs:List Nat) (W0:World) (x:Nat->Value):FlI f vs cs W0 (fun _=>false) x W0:=
 ⟨Below.refl _ _,(fun _ _ _ h=>nomatch h),(fun _ _ _ h=>nomatch h),(fun _ _ h=>nomatch h),(fun _ _ _ _ _ h=>nomatch h),(fun _ _ h=>nomatch h),(fun _ _ _ _ h=>nomatch h),fun _ _ _ h=>nomatch h⟩
