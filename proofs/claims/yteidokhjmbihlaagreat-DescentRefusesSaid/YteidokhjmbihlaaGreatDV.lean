/-
  R29.Free: the walk.
-/
import Derived.Test.YteidokhjmbihlaaGreatDM
import Derived.Test.YteidokhjmbihlaaGreatDR
import Derived.Test.YteidokhjmbihlaaGreatFSB
import Derived.Test.YteidokhjmbihlaaGreatFM
set_option linter.all false
set_option maxHeartbeats 4000000
namespace Go.Proofs.YteidokhjmbihlaaGreat
structure LfI (N v d:Nat):Prop where
 v1:1<=v
 d2:2<=d
 pr:∀ q,Pri q->(q∣v↔q∣N/\d<=q)
theorem Pri.not_one {p:Nat} (h:Pri p):¬ p∣1:=fun hd=>by
 have:=Nat.le_of_dvd (by decide) hd;have:=h.1;omega
theorem LfI.start {N:Nat} (h:1<=N):LfI N N 2:=⟨h,Nat.le_refl _,fun q hq=>⟨fun hd=>⟨hd,hq.1⟩,fun hd=>hd.1⟩⟩
theorem LfI.skip {N v d:Nat} (h:LfI N v d) (hd:¬ d∣v):LfI N v (d+1):=by
 refine⟨h.v1,Nat.le_succ_of_le h.d2,fun q hq=>?_⟩;rw[h.pr q hq];refine⟨fun⟨h1,h2⟩=>⟨h1,?_⟩,fun⟨h1,h2⟩=>⟨h1,by omega⟩⟩;rcases Nat.lt_or_ge d q with h3|h3
 ·exact h3
 ·have e:q=d:=by omega
  subst e;exact absurd ((h.pr q hq).2 ⟨h1,h2⟩) hd
theorem LfI.pri {N v d:Nat} (h:LfI N v d) (hd:d∣v):Pri d:=by
 obtain⟨q,hq,aA⟩:=Qp h.d2;have h1:=((h.pr q hq).1 (Nat.dvd_trans aA hd)).2;have h2:=Nat.le_of_dvd (by have:=h.d2;omega) aA;have e:q=d:=by omega
 exact e▸hq
theorem LfI.take {N v d j v':Nat} (h:LfI N v d) (hd:d∣v) (hj:1<=j) (e:v=d ^ j*v') (hn:¬ d∣v'):LfI N v' (d+1):=by
 have hp:=h.pri hd
 have aA:1<=v':=Nat.pos_of_ne_zero fun e0=>by
  subst e0;have:=h.v1;rw[e,Nat.mul_zero] at this;omega
 refine⟨aA,Nat.le_succ_of_le h.d2,fun q hq=>?_⟩;constructor
 ·intro h1;have h2:=(h.pr q hq).1 (e▸Nat.dvd_trans h1 (Nat.dvd_mul_left _ _));refine⟨h2.1,?_⟩;rcases Nat.lt_or_ge d q with h3|h3
  ·exact h3
  ·have e2:q=d:=by omega
   subst e2;exact absurd h1 hn
 ·rintro⟨h1,h2⟩;have h3:=(h.pr q hq).2 ⟨h1,by omega⟩;rw[e] at h3;rcases hq.dvd_mul h3 with h4|h4
  ·have:=hq.eq hp (hq.dvd_pow h4);omega
  ·exact h4
theorem LfI.last {N v d:Nat} (h:LfI N v d) (hs:v<d*d) (h1:v≠1):Pri v:=by
 refine⟨by have:=h.v1;omega,fun x hx1 hx2 hxd=>?_⟩;obtain⟨y,hy⟩:=hxd
 have aC:2<=y:=by
  rcases Nat.lt_or_ge y 2 with h2|h2
  ·have:y=0\/y=1:=by omega
   rcases this with rfl|rfl
   ·have:=h.v1;omega
   ·omega
  ·exact h2
 have aB:∀ z,2<=z->z∣v->d<=z:=fun z hz hzd=>by
  obtain⟨q,hq,aA⟩:=Qp hz;have:=((h.pr q hq).1 (Nat.dvd_trans aA hzd)).2;have:=Nat.le_of_dvd (by omega) aA;omega
 have b1:=aB x hx1 ⟨y,hy⟩;have b2:=aB y aC ⟨x,by rw[Nat.mul_comm];exact hy⟩;have:=Nat.mul_le_mul b1 b2;omega
def PsI (N d:Nat) (ps:List Nat):Prop:=ps.Pairwise (· < ·)/\∀ q,q∈ps↔Pri q/\q∣N/\q<d
theorem PsI.start (N:Nat):PsI N 2 []:=⟨List.Pairwise.nil,fun q=>⟨fun h=>(List.not_mem_nil h).elim,fun h=>absurd h.2.2 (by have:=h.1.1;omega)⟩⟩
theorem PsI.skip {N v d:Nat} {ps:List Nat} (h:PsI N d ps) (hl:LfI N v d) (hd:¬ d∣v):PsI N (d+1) ps:=by
 refine⟨h.1,fun q=>?_⟩;rw[h.2 q];refine⟨fun⟨h1,h2,h3⟩=>⟨h1,h2,by omega⟩,fun⟨h1,h2,h3⟩=>⟨h1,h2,?_⟩⟩;rcases Nat.lt_or_ge q d with h4|h4
 ·exact h4
 ·have e:q=d:=by omega
  subst e;exact absurd ((hl.pr q h1).2 ⟨h2,h4⟩) hd
theorem PsI.take {N v d:Nat} {ps:List Nat} (h:PsI N d ps) (hl:LfI N v d) (hd:d∣v):PsI N (d+1) (ps++[d]):=by
 have hp:=hl.pri hd;have aA:=((hl.pr d hp).1 hd).1;refine⟨List.pairwise_append.2 ⟨h.1,List.pairwise_singleton _ _,fun a ha b hb=>?_⟩,fun q=>?_⟩
 ·rw[List.mem_singleton] at hb;subst hb;exact((h.2 a).1 ha).2.2
 ·rw[List.mem_append,h.2 q,List.mem_singleton];constructor
  ·rintro (⟨h1,h2,h3⟩|rfl)
   ·exact⟨h1,h2,by omega⟩
   ·exact⟨hp,aA,by omega⟩
  ·rintro⟨h1,h2,h3⟩;rcases Nat.lt_or_ge q d with h4|h4
   ·exact .inl ⟨h1,h2,h4⟩
   ·exact .inr (by omega)
theorem PsI.one {N d:Nat} {ps:List Nat} (h:PsI N d ps) (hl:LfI N 1 d):ps.Pairwise (· < ·)/\Prs N ps:=by
 refine⟨h.1,h.1.imp (fun h=>Nat.ne_of_lt h),fun q=>?_⟩;rw[h.2 q];refine⟨fun h=>⟨h.1,h.2.1⟩,fun⟨h1,h2⟩=>⟨h1,h2,?_⟩⟩;rcases Nat.lt_or_ge q d with h4|h4
 ·exact h4
 ·exact absurd ((hl.pr q h1).2 ⟨h2,h4⟩) h1.not_one
theorem PsI.last {N v d:Nat} {ps:List Nat} (h:PsI N d ps) (hl:LfI N v d) (hp:Pri v):(ps++[v]).Pairwise (· < ·)/\Prs N (ps++[v]):=by
 have hv:=(hl.pr v hp).1 (Nat.dvd_refl v)
 have aA:(ps++[v]).Pairwise (· < ·):=List.pairwise_append.2 ⟨h.1,List.pairwise_singleton _ _,fun a ha b hb=>by
  rw[List.mem_singleton] at hb;subst hb;have:=((h.2 a).1 ha).2.2;omega⟩
 refine⟨aA,aA.imp (fun h=>Nat.ne_of_lt h),fun q=>?_⟩;rw[List.mem_append,h.2 q,List.mem_singleton];constructor
 ·rintro (⟨h1,h2,-⟩|rfl)
  ·exact⟨h1,h2⟩
  ·exact⟨hp,hv.1⟩
 ·rintro⟨h1,h2⟩;rcases Nat.lt_or_ge q d with h4|h4
  ·exact .inl ⟨h1,h2,h4⟩
  ·exact .inr (h1.eq hp ((hl.pr q h1).2 ⟨h2,h4⟩))
structure FqI (N v d out:Nat):Prop where
 sq:SqF out
 o1:1<=out
 eq:∃ k,1<=k/\N=out*v*(k*k)
 lt:∀ q,Pri q->q∣out->q<d
theorem FqI.start (N:Nat):FqI N N 2 1:=⟨SqF.one,Nat.le_refl _,⟨1,Nat.le_refl _,by simp⟩,fun q hq hd=>absurd hd hq.not_one⟩
theorem FqI.skip {N v d out:Nat} (h:FqI N v d out):FqI N v (d+1) out:=⟨h.sq,h.o1,h.eq,fun q hq hd=>Nat.lt_succ_of_lt (h.lt q hq hd)⟩
theorem FqI.take {N v d j v' out:Nat} (h:FqI N v d out) (hp:Pri d) (e:v=d ^ j*v'):FqI N v' (d+1) (if j%2=1 then out*d else out):=by
 obtain⟨k,hk,hN⟩:=h.eq;have aC:1<=d:=by have:=hp.1;omega
 have aB:∀ n,1<=d ^ n:=fun n=>Nat.one_le_pow _ _ aC;by_cases hj:j%2=1
 ·rw[if_pos hj];have aA:Nat.Coprime out d:=(hp.cop (fun hd=>by have:=h.lt d hp hd;omega)).symm;refine⟨h.sq.mul (SqF.pri hp) aA,Nat.mul_pos h.o1 aC,⟨k*d ^ (j/2),Nat.mul_pos hk (aB _),?_⟩,fun q hq hd=>?_⟩
  ·have ej:j=2*(j/2)+1:=by omega
   rw[hN,e];conv=>lhs;rw[ej,Nat.pow_succ,Nat.two_mul,Nat.pow_add]
   simp only[Nat.mul_assoc,Nat.mul_left_comm,Nat.mul_comm]
  ·rcases hq.dvd_mul hd with h1|h1
   ·exact Nat.lt_succ_of_lt (h.lt q hq h1)
   ·have:=hq.eq hp h1;omega
 ·rw[if_neg hj];refine⟨h.sq,h.o1,⟨k*d ^ (j/2),Nat.mul_pos hk (aB _),?_⟩,fun q hq hd=>Nat.lt_succ_of_lt (h.lt q hq hd)⟩;have ej:j=2*(j/2):=by omega
  rw[hN,e];conv=>lhs;rw[ej,Nat.two_mul,Nat.pow_add]
  simp only[Nat.mul_assoc,Nat.mul_left_comm,Nat.mul_comm]
theorem FqI.done {N v d out:Nat} (h:FqI N v d out) (hl:LfI N v d) (hs:v<d*d):Sqc N (out*v):=by
 obtain⟨k,hk,hN⟩:=h.eq;refine⟨?_,Nat.mul_pos h.o1 hl.v1,k,hk,hN⟩;by_cases e:v=1
 ·subst e;rw[Nat.mul_one];exact h.sq
 ·have hp:=hl.last hs e;have hd:=((hl.pr v hp).1 (Nat.dvd_refl v)).2;exact h.sq.mul (SqF.pri hp) (hp.cop (fun hv=>by have:=h.lt v hp hv;omega)).symm
open Go.RowKit
attribute [local go_sem ↓] Go.wp_at_zero Go.wp_at_succ
theorem LfI.next {N v d j u:Nat} (h:LfI N v d) (e:v=d ^ j*u) (hn:¬ d∣u):LfI N u (d+1):=by
 by_cases hd:d∣v
 ·by_cases hj:j=0
  ·subst hj;rw[Nat.pow_zero,Nat.one_mul] at e;exact absurd (e▸hd) hn
  ·exact h.take hd (by omega) e hn
 ·by_cases hj:j=0
  ·subst hj;rw[Nat.pow_zero,Nat.one_mul] at e;exact e▸h.skip hd
  ·refine absurd ⟨d ^ (j-1)*u,?_⟩ hd;rw[e,<- Nat.mul_assoc,<- Nat.pow_succ',show (j-1).succ=j by omega]
theorem FqI.next {N v d j u out:Nat} (h:FqI N v d out) (hl:LfI N v d) (e:v=d ^ j*u):FqI N u (d+1) (if j%2=1 then out*d else out):=by
 by_cases hd:d∣v
 ·exact h.take (hl.pri hd) e
 ·by_cases hj:j=0
  ·subst hj;rw[Nat.pow_zero,Nat.one_mul] at e;rw[if_neg (by decide)];exact e▸h.skip
  ·refine absurd ⟨d ^ (j-1)*u,?_⟩ hd;rw[e,<- Nat.mul_assoc,<- Nat.pow_succ',show (j-1).succ=j by omega]
theorem So.m1 {w:World} {base g:Nat} {x:Int} (hg:w.heap[g]? = some (.cells #[.int .i64 x] 2 (0,0))) (hb:base<=g):So e64 w base (.slice (some ⟨g,0,none⟩) 1 1) [x]:=by
 refine So.ofCells (E:=e64) (l:=[x]) hg hb (by show 1<=maxLen;decide) rfl (fun i hi=>?_) (fun u hU=>?_)
 ·have:i=0:=by simpa using hi
  subst this
  exact⟨[.int .i64 x],rfl,fun j u e=>by
   rcases j with _|j
   ·exact e
   ·simp at e⟩
 ·simp only[List.mem_cons,List.not_mem_nil,or_false] at hU;subst hU;rfl
theorem FqI.le {N v d out:Nat} (h:FqI N v d out) (hv:1<=v):out*v<=N/\out<=N:=by
 obtain⟨k,hk,e⟩:=h.eq;have h1:1<=k*k:=Nat.mul_pos hk hk;have h2:out*v<=N:=by rw[e];exact Nat.le_mul_of_pos_right _ h1
 exact⟨h2,Qt (Nat.le_mul_of_pos_right _ hv) h2⟩
