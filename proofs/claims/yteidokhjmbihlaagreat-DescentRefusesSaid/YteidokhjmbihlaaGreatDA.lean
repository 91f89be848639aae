/-
  Images of points: which classes have points, and that these are closed under products.
-/
import Derived.Test.YteidokhjmbihlaaGreatFF
import Derived.Test.YteidokhjmbihlaaGreatFH1
import Derived.Test.YteidokhjmbihlaaGreatFSA
import Derived.Test.YteidokhjmbihlaaGreatFP1
set_option linter.all false
namespace Go.Proofs.YteidokhjmbihlaaGreat
def bc2 (w:World) (B:Nat) (x0 x1:Value):Prop:=w.cell? ⟨B,0,none⟩=some x0/\w.cell? ⟨B,1,none⟩=some x1
def bc4 (w:World) (B:Nat) (x0 x1 x2 x3:Value):Prop:=w.cell? ⟨B,0,none⟩=some x0/\w.cell? ⟨B,1,none⟩=some x1/\w.cell? ⟨B,2,none⟩=some x2/\w.cell? ⟨B,3,none⟩=some x3
def bc6 (w:World) (B:Nat) (x0 x1 x2 x3 x4 x5:Value):Prop:=w.cell? ⟨B,0,none⟩=some x0/\w.cell? ⟨B,1,none⟩=some x1/\w.cell? ⟨B,2,none⟩=some x2/\w.cell? ⟨B,3,none⟩=some x3/\w.cell? ⟨B,4,none⟩=some x4/\w.cell? ⟨B,5,none⟩=some x5
def bc8 (w:World) (B:Nat) (x0 x1 x2 x3 x4 x5 x6 x7:Value):Prop:=w.cell? ⟨B,0,none⟩=some x0/\w.cell? ⟨B,1,none⟩=some x1/\w.cell? ⟨B,2,none⟩=some x2/\w.cell? ⟨B,3,none⟩=some x3/\w.cell? ⟨B,4,none⟩=some x4/\w.cell? ⟨B,5,none⟩=some x5/\w.cell? ⟨B,6,none⟩=some x6/\w.cell? ⟨B,7,none⟩=some x7
abbrev Qma (w:World) (B:Nat) (s0:Bool) (a0:Option Addr) (n0 k0:Nat):Prop:=bc2 w B (.bool s0) (.slice a0 n0 k0)
abbrev Qmb (w:World) (B:Nat) (s0:Bool) (a0:Option Addr) (n0 k0:Nat) (s1:Bool) (a1:Option Addr) (n1 k1:Nat):Prop:=bc4 w B (.bool s0) (.slice a0 n0 k0) (.bool s1) (.slice a1 n1 k1)
abbrev Qmc (w:World) (B:Nat) (s0:Bool) (a0:Option Addr) (n0 k0:Nat) (s1:Bool) (a1:Option Addr) (n1 k1:Nat) (s2:Bool) (a2:Option Addr) (n2 k2:Nat):Prop:=bc6 w B (.bool s0) (.slice a0 n0 k0) (.bool s1) (.slice a1 n1 k1) (.bool s2) (.slice a2 n2 k2)
abbrev Qmd (w:World) (B:Nat) (s0:Bool) (a0:Option Addr) (n0 k0:Nat) (s1:Bool) (a1:Option Addr) (n1 k1:Nat) (s2:Bool) (a2:Option Addr) (n2 k2:Nat) (s3:Bool) (a3:Option Addr) (n3 k3:Nat):Prop:=bc8 w B (.bool s0) (.slice a0 n0 k0) (.bool s1) (.slice a1 n1 k1) (.bool s2) (.slice a2 n2 k2) (.bool s3) (.slice a3 n3 k3)
def rc2 (w:World) (B o:Nat) (x0 x1:Value):Prop:=w.cell? ⟨B,o,none⟩=some x0/\w.cell? ⟨B,o+1,none⟩=some x1
def rc4 (w:World) (B o:Nat) (x0 x1 x2 x3:Value):Prop:=w.cell? ⟨B,o,none⟩=some x0/\w.cell? ⟨B,o+1,none⟩=some x1/\w.cell? ⟨B,o+2,none⟩=some x2/\w.cell? ⟨B,o+3,none⟩=some x3
def rc8 (w:World) (B o:Nat) (x0 x1 x2 x3 x4 x5 x6 x7:Value):Prop:=w.cell? ⟨B,o,none⟩=some x0/\w.cell? ⟨B,o+1,none⟩=some x1/\w.cell? ⟨B,o+2,none⟩=some x2/\w.cell? ⟨B,o+3,none⟩=some x3/\w.cell? ⟨B,o+4,none⟩=some x4/\w.cell? ⟨B,o+5,none⟩=some x5/\w.cell? ⟨B,o+6,none⟩=some x6/\w.cell? ⟨B,o+7,none⟩=some x7
section
variable {w:World} {B T:Nat} {fr:Nat×Nat} {x0 x1 x2 x3 x4 x5 x6 x7:Value}
theorem Qa1 (h:w.heap[B]? = some (.cells #[x0,x1] T fr)):bc2 w B x0 x1:=by
 refine⟨?_,?_⟩ <;> simp[World.cell?,h]
theorem Qa3 (h:w.heap[B]? = some (.cells #[x0,x1,x2,x3] T fr)):bc4 w B x0 x1 x2 x3:=by
 refine⟨?_,?_,?_,?_⟩ <;> simp[World.cell?,h]
theorem QbG (h:w.heap[B]? = some (.cells #[x0,x1,x2,x3,x4,x5] T fr)):bc6 w B x0 x1 x2 x3 x4 x5:=by
 refine⟨?_,?_,?_,?_,?_,?_⟩ <;> simp[World.cell?,h]
theorem QbM (h:w.heap[B]? = some (.cells #[x0,x1,x2,x3,x4,x5,x6,x7] T fr)):bc8 w B x0 x1 x2 x3 x4 x5 x6 x7:=by
 refine⟨?_,?_,?_,?_,?_,?_,?_,?_⟩ <;> simp[World.cell?,h]
theorem Qcf (h:w.heap[B]? = some (.cells #[x0,x1,x2,x3] T (0,0))):w.frozen? ⟨B,0,none⟩=false/\w.frozen? ⟨B,1,none⟩=false/\w.frozen? ⟨B,2,none⟩=false/\w.frozen? ⟨B,3,none⟩=false:=by
 refine⟨?_,?_,?_,?_⟩ <;> simp[World.frozen?,h]
theorem QeZ (h:w.heap[B]? = some (.cells #[x0,x1,x2,x3,x4,x5,x6,x7] T (0,0))):w.frozen? ⟨B,0,none⟩=false/\w.frozen? ⟨B,1,none⟩=false/\w.frozen? ⟨B,2,none⟩=false/\w.frozen? ⟨B,3,none⟩=false /\
  w.frozen? ⟨B,4,none⟩=false/\w.frozen? ⟨B,5,none⟩=false/\w.frozen? ⟨B,6,none⟩=false/\w.frozen? ⟨B,7,none⟩=false:=by
 refine⟨?_,?_,?_,?_,?_,?_,?_,?_⟩ <;> simp[World.frozen?,h]
end
theorem Qg6 {w:World} {B T:Nat} {x0 x1:Value} (h:w.heap[B]? = some (.cells #[x0,x1] T (0,0))):w.frozen? ⟨B,0,none⟩=false/\w.frozen? ⟨B,1,none⟩=false:=by
 refine⟨?_,?_⟩ <;> simp[World.frozen?,h]
theorem QcU {w:World} {B T:Nat} {x0 x1 x2 x3 x4 x5:Value} (h:w.heap[B]? = some (.cells #[x0,x1,x2,x3,x4,x5] T (0,0))):w.frozen? ⟨B,0,none⟩=false/\w.frozen? ⟨B,1,none⟩=false/\w.frozen? ⟨B,2,none⟩=false/\w.frozen? ⟨B,3,none⟩=false/\w.frozen? ⟨B,4,none⟩=false/\w.frozen? ⟨B,5,none⟩=false:=by
 refine⟨?_,?_,?_,?_,?_,?_⟩ <;> simp[World.frozen?,h]
def SqF (f:Nat):Prop:=∀ d,2<=d->¬ d*d∣f
def Sqc (n f:Nat):Prop:=SqF f/\1<=f/\∃ k,1<=k/\n=f*(k*k)
theorem YD {f g k j:Nat} (hf:SqF f) (hj:1<=j) (hc:Nat.Coprime k j) (h:f*(k*k)=g*(j*j)):j=1:=by
 have h1:j*j∣f*(k*k):=⟨g,by rw[h,Nat.mul_comm]⟩;have h2:Nat.Coprime (j*j) (k*k):=Nat.Coprime.mul_left (Nat.Coprime.mul_right hc.symm hc.symm) (Nat.Coprime.mul_right hc.symm hc.symm);have h3:=h2.dvd_of_dvd_mul_right h1;by_cases e:2<=j
 ·exact absurd h3 (hf j e)
 ·omega
theorem JL {f g k j:Nat} (hf:SqF f) (hg:SqF g) (hk:1<=k) (hj:1<=j) (h:f*(k*k)=g*(j*j)):f=g:=by
 have hd:0<Nat.gcd k j:=Nat.gcd_pos_of_pos_left _ hk;obtain⟨d,aC⟩:∃ d,Nat.gcd k j=d:=⟨_,rfl⟩;obtain⟨k',aA⟩:=Nat.gcd_dvd_left k j;obtain⟨j',aB⟩:=Nat.gcd_dvd_right k j;rw[aC] at aA aB hd
 have hc:Nat.Coprime k' j':=by
  have:=Nat.coprime_div_gcd_div_gcd (m:=k) (n:=j) (by rw[aC];exact hd);rw[aC] at this;rw[aA,aB,Nat.mul_div_cancel_left _ hd,Nat.mul_div_cancel_left _ hd] at this;exact this
 have aD:1<=k':=by
  rcases Nat.eq_zero_or_pos k' with e|e
  ·rw[e] at aA;omega
  ·exact e
 have aE:1<=j':=by
  rcases Nat.eq_zero_or_pos j' with e|e
  ·rw[e] at aB;omega
  ·exact e
 have h':f*(k'*k')=g*(j'*j'):=by
  rw[aA,aB] at h
  have:d*d*(f*(k'*k'))=d*d*(g*(j'*j')):=by
   calc d*d*(f*(k'*k'))=f*(d*k'*(d*k')):=by ac_rfl
    _=g*(d*j'*(d*j')):=h
    _=d*d*(g*(j'*j')):=by ac_rfl
  exact Nat.eq_of_mul_eq_mul_left (Nat.mul_pos hd hd) this
 have e1:=YD hf aE hc h';have e2:=YD hg aD hc.symm h'.symm;rw[e1,e2] at h';simpa using h'
theorem Sqc.uniq {n f g:Nat} (h:Sqc n f) (h':Sqc n g):f=g:=by
 obtain⟨h1,-,k,hk,e⟩:=h;obtain⟨h2,-,j,hj,e'⟩:=h';exact JL h1 h2 hk hj (e.symm.trans e')
theorem Sqc.pos {n f:Nat} (h:Sqc n f):1<=n:=by
 obtain⟨-,h1,k,hk,rfl⟩:=h;exact Nat.mul_pos h1 (Nat.mul_pos hk hk)
theorem Sqc.dvd {n f:Nat} (h:Sqc n f):f∣n:=by
 obtain⟨-,-,k,-,rfl⟩:=h;exact Nat.dvd_mul_right _ _
theorem Sqc.self {f:Nat} (h:SqF f) (h1:1<=f):Sqc f f:=⟨h,h1,1,Nat.le_refl _,by simp⟩
theorem Sqc.sq {n f k:Nat} (h:Sqc n f) (hk:1<=k):Sqc (n*(k*k)) f:=by
 obtain⟨h1,h2,j,hj,rfl⟩:=h;exact⟨h1,h2,j*k,Nat.mul_pos hj hk,by ac_rfl⟩
theorem Sqc.mul {n m f g c:Nat} (h:Sqc n f) (h':Sqc m g) (hc:Sqc (f*g) c):Sqc (n*m) c:=by
 obtain⟨-,-,k,hk,rfl⟩:=h;obtain⟨-,-,j,hj,rfl⟩:=h';have:=hc.sq (Nat.mul_pos hk hj);rw[show f*(k*k)*(g*(j*j))=f*g*(k*j*(k*j)) by ac_rfl];exact this
theorem SqF.one:SqF 1:=fun d hd h=>by
 have:=Nat.le_of_dvd (by decide) h;have:2*2<=d*d:=Nat.mul_le_mul hd hd;omega
theorem SqF.pri {p:Nat} (hp:Pri p):SqF p:=fun d hd h=>by
 have h1:d∣p:=Nat.dvd_trans (Nat.dvd_mul_right d d) h;have h2:=Nat.le_of_dvd (by have:=hp.1;omega) h;have h3:d<d*d:=by have:=Nat.mul_le_mul_right d hd;omega
 exact hp.2 d hd (by omega) h1
theorem SqF.of_dvd {f g:Nat} (h:SqF f) (hd:g∣f):SqF g:=fun d h2 h3=>h d h2 (Nat.dvd_trans h3 hd)
theorem SqF.mul {f g:Nat} (hf:SqF f) (hg:SqF g) (hc:Nat.Coprime f g):SqF (f*g):=fun d hd h=>by
 obtain⟨q,hq,hqd⟩:=Qp hd;have hqq:q*q∣f*g:=Nat.dvd_trans (Nat.mul_dvd_mul hqd hqd) h;rcases hq.dvd_mul (Nat.dvd_trans (Nat.dvd_mul_right q q) hqq) with h1|h1
 ·have h2:Nat.Coprime (q*q) g:=by
   have:Nat.Coprime q g:=Nat.Coprime.coprime_dvd_left h1 hc;exact Nat.Coprime.mul_left this this
  exact hf q hq.1 (h2.dvd_of_dvd_mul_right hqq)
 ·have h2:Nat.Coprime (q*q) f:=by
   have:Nat.Coprime q f:=Nat.Coprime.coprime_dvd_left h1 hc.symm;exact Nat.Coprime.mul_left this this
  exact hg q hq.1 (h2.dvd_of_dvd_mul_left hqq)
def J5 (l:List (Nat×Nat)):Nat:=(l.map fun x=>if x.2%2=1 then x.1 else 1).prod
theorem QhH (l:List (Nat×Nat)) (x:Nat×Nat):J5 (l++[x])=J5 l*(if x.2%2=1 then x.1 else 1):=by
 unfold J5;rw[List.map_append,List.prod_append];simp
theorem Jw {l:List (Nat×Nat)} (hp:∀ x∈l,Pri x.1) (hn:(ks l).Nodup):Sqc (pk l) (J5 l):=by
 induction l with
 | nil=>exact Sqc.self SqF.one (Nat.le_refl _)
 | cons x l ih =>
   obtain⟨p,k⟩:=x;have aC:p∉ks l/\(ks l).Nodup:=List.nodup_cons.1 hn;have ih:=ih (fun x hx=>hp x (List.mem_cons_of_mem _ hx)) aC.2;have aA:Pri p:=hp (p,k) List.mem_cons_self;have aB:1<=p:=by have:=aA.1;omega
   have aE:¬ p∣J5 l:=by
    intro h;have h2:=Nat.dvd_trans h ih.dvd;obtain⟨y,hy,aD⟩:=QB aA (l:=l.map fun (p:Nat×Nat)=>p.1 ^ p.2) h2;obtain⟨z,hz,rfl⟩:=List.mem_map.1 hy;have:=aA.eq (hp z (List.mem_cons_of_mem _ hz)) (aA.dvd_pow aD);exact aC.1 (List.mem_map.2 ⟨z,hz,this.symm⟩)
   obtain⟨h1,h2,j,hj,e⟩:=ih;rw[Qo,e];have ho:J5 ((p,k) :: l)=(if k%2=1 then p else 1)*J5 l:=rfl;rw[ho];by_cases hk:k%2=1
   ·rw[if_pos hk];have hc:=aA.cop aE;refine⟨(SqF.pri aA).mul h1 hc,Nat.mul_pos aB h2,p ^ (k/2)*j,Nat.mul_pos (Nat.pow_pos aB) hj,?_⟩
    have:p ^ k=p*(p ^ (k/2)*p ^ (k/2)):=by
     rw[<- Nat.pow_add,<- Nat.pow_succ'];congr 1;omega
    show p ^ k*(J5 l*(j*j))=_
    rw[this];ac_rfl
   ·rw[if_neg hk,Nat.one_mul];refine⟨h1,h2,p ^ (k/2)*j,Nat.mul_pos (Nat.pow_pos aB) hj,?_⟩
    have:p ^ k=p ^ (k/2)*p ^ (k/2):=by
     rw[<- Nat.pow_add];congr 1;omega
    show p ^ k*(J5 l*(j*j))=_
    rw[this];ac_rfl
def YM:List Nat->List Nat
 | []=>[1]
 | p :: ps=>YM ps++(YM ps).map (p * ·)
def glI:Int->List Nat->List Int
 | d,[]=>[d,-d]
 | d,p :: ps=>glI d ps++glI (d*p) ps
theorem Jn {ps:List Nat} (h:∀ p∈ps,1<=p):∀ m∈YM ps,1<=m:=by
 induction ps with
 | nil=>intro m hm;simp[YM] at hm;omega
 | cons p ps ih =>
   intro m hm;have ih:=ih (fun p hp=>h p (List.mem_cons_of_mem _ hp));rcases List.mem_append.1 hm with hm|hm
   ·exact ih m hm
   ·obtain⟨x,hx,rfl⟩:=List.mem_map.1 hm;exact Nat.mul_pos (h p List.mem_cons_self) (ih x hx)
theorem YX {ps:List Nat} (hp:∀ p∈ps,Pri p):∀ m∈YM ps,∀ q,Pri q->q∣m->q∈ps:=by
 induction ps with
 | nil =>
   intro m hm q hq hd;simp[YM] at hm
   subst hm;have:=Nat.le_of_dvd (by decide) hd;have:=hq.1;omega
 | cons p ps ih =>
   intro m hm q hq hd;have ih:=ih (fun p h=>hp p (List.mem_cons_of_mem _ h));rcases List.mem_append.1 hm with hm|hm
   ·exact List.mem_cons_of_mem _ (ih m hm q hq hd)
   ·obtain⟨x,hx,rfl⟩:=List.mem_map.1 hm;rcases hq.dvd_mul hd with h|h
    ·rw[hq.eq (hp p List.mem_cons_self) h];exact List.mem_cons_self
    ·exact List.mem_cons_of_mem _ (ih x hx q hq h)
theorem JV {p:Nat} {ps:List Nat} (hp:∀ q∈p :: ps,Pri q) (hn:(p :: ps).Nodup):∀ m∈YM ps,¬ p∣m:=fun m hm h=>
 (List.nodup_cons.1 hn).1 (YX (fun q hq=>hp q (List.mem_cons_of_mem _ hq)) m hm p (hp p List.mem_cons_self) h)
theorem QgG {ps:List Nat} (hp:∀ p∈ps,Pri p) (hn:ps.Nodup):(YM ps).Nodup:=by
 induction ps with
 | nil=>simp[YM]
 | cons p ps ih =>
   have ih:=ih (fun p h=>hp p (List.mem_cons_of_mem _ h)) (List.nodup_cons.1 hn).2;have h1:0<p:=by have:=(hp p List.mem_cons_self).1;omega
   refine List.nodup_append.2 ⟨ih,?_,?_⟩
   ·exact List.Pairwise.map (f:=(p * ·)) (fun a b (hab:a≠b) (e:p*a=p*b)=>hab (Nat.eq_of_mul_eq_mul_left h1 e)) ih
   ·intro a ha b hb e;subst e;obtain⟨x,hx,e⟩:=List.mem_map.1 hb;exact JV hp hn a ha ⟨x,e.symm⟩
theorem QfM {ps:List Nat} (hp:∀ p∈ps,Pri p) (hn:ps.Nodup) (m:Nat):m∈YM ps↔1<=m/\SqF m/\∀ q,Pri q->q∣m->q∈ps:=by
 induction ps generalizing m with
 | nil =>
   simp only[YM,List.mem_singleton];constructor
   ·rintro rfl;refine⟨Nat.le_refl _,SqF.one,fun q hq hd=>?_⟩;have:=Nat.le_of_dvd (by decide) hd;have:=hq.1;omega
   ·rintro⟨h1,-,h2⟩;by_cases e:m=1
    ·exact e
    ·obtain⟨q,hq,hd⟩:=Qp (n:=m) (by omega);exact absurd (h2 q hq hd) (by simp)
 | cons p ps ih =>
   have aB:∀ p∈ps,Pri p:=fun p h=>hp p (List.mem_cons_of_mem _ h);have ih:=ih aB (List.nodup_cons.1 hn).2;have aA:=hp p List.mem_cons_self;have h1:0<p:=by have:=aA.1;omega
   constructor
   ·intro hm;refine⟨Jn (fun q hq=>by have:=(hp q hq).1;omega) m hm,?_,YX hp m hm⟩;rcases List.mem_append.1 hm with hm|hm
    ·exact((ih m).1 hm).2.1
    ·obtain⟨x,hx,rfl⟩:=List.mem_map.1 hm;exact(SqF.pri aA).mul ((ih x).1 hx).2.1 (aA.cop (JV hp hn x hx))
   ·rintro⟨h2,h3,h4⟩;by_cases hd:p∣m
    ·obtain⟨x,rfl⟩:=hd;refine List.mem_append_right _ (List.mem_map.2 ⟨x,(ih x).2 ⟨?_,h3.of_dvd (Nat.dvd_mul_left x p),fun q hq hqd=>?_⟩,rfl⟩)
     ·rcases Nat.eq_zero_or_pos x with e|e
      ·subst e;omega
      ·exact e
     ·rcases List.mem_cons.1 (h4 q hq (Nat.dvd_trans hqd (Nat.dvd_mul_left x p))) with e|h
      ·subst e;obtain⟨y,rfl⟩:=hqd;exact absurd ⟨y,by ac_rfl⟩ (h3 q hq.1)
      ·exact h
    ·refine List.mem_append_left _ ((ih m).2 ⟨h2,h3,fun q hq hqd=>?_⟩);rcases List.mem_cons.1 (h4 q hq hqd) with e|h
     ·subst e;exact absurd hqd hd
     ·exact h
theorem Jj (d:Int) (ps:List Nat):(glI d ps).Perm ((YM ps).flatMap fun (m:Nat)=>[d*(m:Int),-(d*(m:Int))]):=by
 induction ps generalizing d with
 | nil=>simp[glI,YM]
 | cons p ps ih =>
   unfold glI YM;rw[List.flatMap_append];refine(ih d).append ((ih (d*p)).trans ?_);rw[List.flatMap_map];refine List.Perm.of_eq ?_;congr 1
   funext m
   rw[Int.natCast_mul,Int.mul_assoc]
def Cand (n:Nat) (l:List Int):Prop:=l.Pairwise (· < ·)/\∀ d:Int,d∈l↔1<=d.natAbs/\SqF d.natAbs/\d.natAbs∣n
theorem Ja:∀ {l m:List Int},l.Pairwise (· < ·)->m.Pairwise (· < ·)->(∀ d,d∈l↔d∈m)->l=m
 | [],[],_,_,_=>rfl
 | [],b :: m,_,_,h=>absurd ((h b).2 List.mem_cons_self) (by simp)
 | a :: l,[],_,_,h=>absurd ((h a).1 List.mem_cons_self) (by simp)
 | a :: l, b :: m, hl, hm, h => by
   have hl':=List.pairwise_cons.1 hl;have hm':=List.pairwise_cons.1 hm
   have e:a=b:=by
    rcases List.mem_cons.1 ((h a).1 List.mem_cons_self) with e|h1
    ·exact e
    ·rcases List.mem_cons.1 ((h b).2 List.mem_cons_self) with e|h2
     ·exact e.symm
     ·have:=hm'.1 a h1;have:=hl'.1 b h2;omega
   subst e;congr 1
   refine Ja hl'.2 hm'.2 fun d=>⟨fun hd=>?_,fun hd=>?_⟩
   ·rcases List.mem_cons.1 ((h d).1 (List.mem_cons_of_mem _ hd)) with e|h1
    ·have:=hl'.1 d hd;omega
    ·exact h1
   ·rcases List.mem_cons.1 ((h d).2 (List.mem_cons_of_mem _ hd)) with e|h1
    ·have:=hm'.1 d hd;omega
    ·exact h1
theorem Cand.uniq {n:Nat} {l m:List Int} (h:Cand n l) (h':Cand n m):l=m:=
 Ja h.1 h'.1 fun d=>(h.2 d).trans (h'.2 d).symm
def Prs (n:Nat) (ps:List Nat):Prop:=ps.Nodup/\∀ q,q∈ps↔Pri q/\q∣n
theorem Qaq {ps:List Nat} {d:Int}:d∈glI 1 ps↔d.natAbs∈YM ps:=by
 rw[(Jj 1 ps).mem_iff,List.mem_flatMap];constructor
 ·rintro⟨m,hm,hd⟩;simp only[List.mem_cons,List.not_mem_nil,or_false] at hd;rcases hd with rfl|rfl <;> simpa using hm
 ·intro h;refine⟨_,h,?_⟩;simp only[List.mem_cons,List.not_mem_nil,or_false,Int.one_mul];omega
theorem Qjc {ps:List Nat} (hp:∀ p∈ps,Pri p) (hn:ps.Nodup):(glI 1 ps).Nodup:=by
 rw[(Jj 1 ps).nodup_iff];have h:=QgG hp hn;have h0:=Jn (ps:=ps) (fun q hq=>by have:=(hp q hq).1;omega);revert h h0
 generalize YM ps=l;intro h h0;induction l with
 | nil=>simp
 | cons x l ih =>
   rw[List.flatMap_cons];have hx:=h0 x List.mem_cons_self;have h':=List.nodup_cons.1 h;refine List.nodup_append.2 ⟨?_,ih h'.2 (fun m hm=>h0 m (List.mem_cons_of_mem _ hm)),?_⟩
   ·simp;omega
   ·intro a ha b hb e;subst e;obtain⟨m,hm,hb⟩:=List.mem_flatMap.1 hb;simp only[List.mem_cons,List.not_mem_nil,or_false,Int.one_mul] at ha hb;have aA:=h0 m (List.mem_cons_of_mem _ hm);have:m=x:=by omega
    subst this;exact h'.1 hm
theorem Qhp {n:Nat} {ps:List Nat} (hn:1<=n) (hp:Prs n ps) {l:List Int} (hl:l.Perm (glI 1 ps)) (hs:l.Pairwise (· <= ·)):Cand n l:=by
 have aA:∀ p∈ps,Pri p:=fun p h=>((hp.2 p).1 h).1;have aG:l.Nodup:=hl.nodup_iff.2 (Qjc aA hp.1);refine⟨?_,fun d=>?_⟩
 ·exact(hs.and aG).imp fun h=>by have:=h.1;have:=h.2;omega
 ·rw[hl.mem_iff,Qaq,QfM aA hp.1];refine and_congr_right fun h1=>and_congr_right fun h2=>?_;constructor
  ·intro h
   have:∀ (k m:Nat),m<=k->1<=m->SqF m->(∀ q,Pri q->q∣m->q∈ps)->m∣n:=by
    intro k;induction k with
    | zero=>intro m h0 h1;omega
    | succ k ih =>
      intro m aI aJ aB aC;by_cases e:m=1
      ·subst e;exact Nat.one_dvd n
      ·obtain⟨q,hq,x,rfl⟩:=Qp (n:=m) (by omega)
       have aD:1<=x:=by
        rcases Nat.eq_zero_or_pos x with e|e
        ·subst e;omega
        ·exact e
       have aH:x<q*x:=by have:=Nat.mul_le_mul_right x hq.1;omega
       have hx:=ih x (by omega) aD (aB.of_dvd (Nat.dvd_mul_left x q)) (fun r hr hrd=>aC r hr (Nat.dvd_trans hrd (Nat.dvd_mul_left x q)));have aE:¬ q∣x:=fun⟨y,hy⟩=>aB q hq.1 ⟨y,by rw[hy];ac_rfl⟩;exact Nat.Coprime.mul_dvd_of_dvd_of_dvd (hq.cop aE) ((hp.2 q).1 (aC q hq (Nat.dvd_mul_right q x))).2 hx
   exact this _ _ (Nat.le_refl _) h1 h2 h
  ·intro h q hq aF;exact(hp.2 q).2 ⟨hq,Nat.dvd_trans aF h⟩
def Isq (a r:Nat):Prop:=r*r<=a/\a<(r+1)*(r+1)
theorem Isq.uniq {a r s:Nat} (h:Isq a r) (h':Isq a s):r=s:=by
 have aA:∀ {r s:Nat},Isq a r->Isq a s->r<=s:=by
  intro r s h h';by_cases e:r<=s
  ·exact e
  ·have:=Nat.mul_le_mul (show s+1<=r by omega) (show s+1<=r by omega);have h1:=h.1;have h2:=h'.2;omega
 exact Nat.le_antisymm (aA h h') (aA h' h)
theorem QgR {a s:Nat} (hs:1<=s):a<((s+a/s)/2+1)*((s+a/s)/2+1):=by
 obtain⟨u,hu⟩:∃ u,a/s=u:=⟨_,rfl⟩;obtain⟨t,ht⟩:∃ t,(s+u)/2=t:=⟨_,rfl⟩;rw[hu,ht]
 have h1:a<s*(u+1):=by
  rw[<- hu];exact Nat.lt_mul_div_succ a hs
 have h2:s+(u+1)<=2*(t+1):=by omega
 have h3:(s+(u+1))*(s+(u+1))<=(2*(t+1))*(2*(t+1)):=Nat.mul_le_mul h2 h2
 have h4:4*(s*(u+1))<=(s+(u+1))*(s+(u+1)):=by
  rcases Nat.le_total s (u+1) with e|e
  ·obtain⟨d,hd⟩:=Nat.exists_eq_add_of_le e;rw[hd];grind
  ·obtain⟨d,hd⟩:=Nat.exists_eq_add_of_le e;rw[hd];grind
 have h5:(2*(t+1))*(2*(t+1))=4*((t+1)*(t+1)):=by grind
 omega
theorem Qfi {a s:Nat} (hs:1<=s) (h:s<=(s+a/s)/2):s*s<=a:=by
 have h1:s<=a/s:=by omega
 exact Qt (Nat.mul_le_mul_left s h1) (Nat.mul_div_le a s)
theorem QgI {a s:Nat} (hs:1<=s) (ha:1<=a) (h:(s+a/s)/2=0):False:=by
 have h1:s=1:=by
  obtain⟨u,hu⟩:∃ u,a/s=u:=⟨_,rfl⟩;rw[hu] at h;omega
 subst h1;rw[Nat.div_one] at h;omega
theorem Ym {l:List Nat} {x:Nat} (h:x∈l):x∣l.prod:=by
 induction l with
 | nil=>cases h
 | cons y l ih =>
   rw[List.prod_cons];rcases List.mem_cons.1 h with rfl|h
   ·exact Nat.dvd_mul_right _ _
   ·exact Nat.dvd_trans (ih h) (Nat.dvd_mul_left _ _)
theorem Qao (k:Nat):Isq (k*k) k:=⟨Nat.le_refl _,by have:=Nat.mul_lt_mul_of_lt_of_le (show k<k+1 by omega) (show k<=k+1 by omega) (show 0<k+1 by omega);exact this⟩
def Facs (N:Nat) (P:List (Nat×Nat)):Prop:=(∀ x∈P,Pri x.1/\1<=x.2)/\P.Pairwise (fun a b=>a.1<b.1)/\N=pk P
theorem Facs.nodup {N:Nat} {P:List (Nat×Nat)} (h:Facs N P):(ks P).Nodup:=by
 unfold ks;exact List.Pairwise.map (f:=Prod.fst) (S:=(· ≠ ·)) (fun a b hab=>by have:a.1<b.1:=hab;show a.1≠b.1;omega) h.2.1
theorem Facs.prs {N:Nat} {P:List (Nat×Nat)} (h:Facs N P):Prs N (ks P):=by
 refine⟨h.nodup,fun q=>⟨fun hq=>?_,fun⟨hq,hd⟩=>?_⟩⟩
 ·obtain⟨x,hx,rfl⟩:=List.mem_map.1 hq;refine⟨(h.1 x hx).1,?_⟩;rw[h.2.2];have h1:x.1 ^ x.2∣pk P:=Ym (List.mem_map.2 ⟨x,hx,rfl⟩);exact Nat.dvd_trans ⟨x.1 ^ (x.2-1),by rw[<- Nat.pow_succ'];congr 1;have:=(h.1 x hx).2;omega⟩ h1
 ·rw[h.2.2] at hd;obtain⟨y,hy,aA⟩:=QB hq (l:=P.map fun (p:Nat×Nat)=>p.1 ^ p.2) hd;obtain⟨z,hz,rfl⟩:=List.mem_map.1 hy;rw[hq.eq (h.1 z hz).1 (hq.dvd_pow aA)];exact List.mem_map.2 ⟨z,hz,rfl⟩
theorem Facs.cls {N:Nat} {P:List (Nat×Nat)} (h:Facs N P):Sqc N (J5 P):=by
 have:=Jw (fun x hx=>(h.1 x hx).1) h.nodup;rw[<- h.2.2] at this;exact this
theorem Qj2 {N:Nat} {t g:Fn} (h1:1<=N) (h2:N<1099511627776) (ht:TrialTo N 1000 t) (hg:SearchTo t pds g):Facs N g.P:=by
 obtain⟨hr,hp,-⟩:=ht.right h1 (by decide);have aC:∀ r∈ks t.R,Prm r (pds r):=fun r hr'=>QhL (by have:=hr.incR.big hr';omega);have aA:=hg.right hr aC;obtain⟨-,aE,aD⟩:=hg.facts hr aC;have hN:g.N=N:=hg.1.trans ht.1
 have hR:g.R=[]:=by
  cases e:g.R with
  | nil=>rfl
  | cons x l =>
    exfalso
    have hx:x∈g.R:=by rw[e];exact List.mem_cons_self
    have h3:=aE x hx;have h4:=aA.le (p:=x) (List.mem_append_right _ hx);omega
 have aB:=aA.prod;rw[hR,List.append_nil,hN] at aB;refine⟨fun x hx=>⟨?_,(aA.incP.1 x hx).2⟩,aA.incP.2,aB⟩;rcases aD x hx with h|h
 ·exact hp x h
 ·exact h.1
def sqr (q v:Nat):Bool:=(List.range q).any fun n=>decide (n*n%q=v)
def QaJ (a b c p q x:Nat):Bool:=sqr q (((a*(x*x%q)+b)%q*(x*x%q)+c)%q) || (decide (x%p=0) && sqr q (((c*(x*x%q)+b)%q*(x*x%q)+a)%q))
def QaR (a b c p q:Nat):Bool:=(List.range q).any fun x=>QaJ a b c p q x
def res (n:Int) (q:Nat):Nat:=(n%(q:Int)).toNat
def QaI (B1 A B2:Int) (p q:Nat):Bool:=QaR (res B1 q) (res A q) (res B2 q) p q
def Cg (q:Nat) (u v:Int):Prop:=(q:Int)∣u-v
theorem Cg.refl (q:Nat) (u:Int):Cg q u u:=⟨0,by omega⟩
theorem Cg.symm {q:Nat} {u v:Int} (h:Cg q u v):Cg q v u:=by
 obtain⟨k,hk⟩:=h;exact⟨-k,by rw[Int.mul_neg];omega⟩
theorem Cg.trans {q:Nat} {u v w:Int} (h:Cg q u v) (h':Cg q v w):Cg q u w:=by
 obtain⟨k,hk⟩:=h;obtain⟨j,hj⟩:=h';exact⟨k+j,by rw[Int.mul_add];omega⟩
theorem Cg.add {q:Nat} {u v x y:Int} (h:Cg q u v) (h':Cg q x y):Cg q (u+x) (v+y):=by
 obtain⟨k,hk⟩:=h;obtain⟨j,hj⟩:=h';exact⟨k+j,by rw[Int.mul_add];omega⟩
theorem Cg.mul {q:Nat} {u v x y:Int} (h:Cg q u v) (h':Cg q x y):Cg q (u*x) (v*y):=by
 obtain⟨k,hk⟩:=h;obtain⟨j,hj⟩:=h';exact⟨k*x+v*j,by grind⟩
theorem Cg.mod (q:Nat) (u:Int):Cg q (u%(q:Int)) u:=⟨-(u/(q:Int)),by have:=Int.emod_add_mul_ediv u (q:Int);rw[Int.mul_neg];omega⟩
theorem Cg.modn (q u:Nat):Cg q ((u%q:Nat):Int) (u:Int):=by
 rw[Int.natCast_emod];exact Cg.mod q u
theorem Cg.eq {q:Nat} {u v:Int} (h:Cg q u v):u%(q:Int)=v%(q:Int):=Int.emod_eq_emod_iff_emod_sub_eq_zero.2 (Int.emod_eq_zero_of_dvd h)
theorem Cg.of_dvd {q r:Nat} {u v:Int} (h:Cg q u v) (hr:r∣q):Cg r u v:=Int.dvd_trans (Int.natCast_dvd_natCast.2 hr) h
theorem QcF (n:Int) {q:Nat} (hq:1<=q):Cg q (res n q) n:=by
 have h0:=Int.emod_nonneg n (show (q:Int)≠0 by omega);unfold res;rw[Int.toNat_of_nonneg h0];exact Cg.mod q n
theorem Qc1 (n:Int) {q:Nat} (hq:1<=q):res n q<q:=by
 have h0:=Int.emod_nonneg n (show (q:Int)≠0 by omega);have h1:=Int.emod_lt_of_pos n (show (0:Int)<q by omega);unfold res;omega
theorem Qd0 {q v:Nat} (hq:1<=q) (hv:v<q):sqr q v=true↔∃ n:Int,Cg q (n*n) v:=by
 unfold sqr;rw[List.any_eq_true];constructor
 ·rintro⟨n,-,h⟩;have h:=of_decide_eq_true h;refine⟨n,?_⟩;have:=(Cg.modn q (n*n)).symm;rw[h,Int.natCast_mul] at this;exact this
 ·rintro⟨n,h⟩;refine⟨res n q,List.mem_range.2 (Qc1 n hq),decide_eq_true ?_⟩;have h1:=QcF n hq;have h2:=((Cg.modn q (res n q*res n q)).trans (by rw[Int.natCast_mul];exact h1.mul h1)).trans h;have h3:=h2.eq;have h4:res n q*res n q%q<q:=Nat.mod_lt _ hq;rw[Int.emod_eq_of_lt (by omega) (by omega),Int.emod_eq_of_lt (by omega) (by omega)] at h3;omega
def qf (a b c x:Int):Int:=a*(x*x)*(x*x)+b*(x*x)+c
theorem Qid (a b c x q:Nat):Cg q ((((a*(x*x%q)+b)%q*(x*x%q)+c)%q:Nat):Int) (qf a b c x):=by
 have hy:Cg q ((x*x%q:Nat):Int) ((x:Int)*x):=by
  have:=Cg.modn q (x*x);rw[Int.natCast_mul] at this;exact this
 have h1:Cg q (((a*(x*x%q)+b)%q:Nat):Int) ((a:Int)*(x*x)+b):=by
  refine(Cg.modn q _).trans ?_;rw[Int.natCast_add,Int.natCast_mul];exact((Cg.refl q a).mul hy).add (Cg.refl q b)
 refine(Cg.modn q _).trans ?_;rw[Int.natCast_add,Int.natCast_mul];have h2:=(h1.mul hy).add (Cg.refl q c);have e:((a:Int)*(x*x)+b)*(x*x)+c=qf a b c x:=by unfold qf;grind
 rw[e] at h2;exact h2
theorem Qd2 {q:Nat} {a b c x a' b' c' x':Int} (ha:Cg q a a') (hb:Cg q b b') (hc:Cg q c c') (hx:Cg q x x'):Cg q (qf a b c x) (qf a' b' c' x'):=
 (((ha.mul (hx.mul hx)).mul (hx.mul hx)).add (hb.mul (hx.mul hx))).add hc
theorem Qkh {B1 A B2:Int} {p q:Nat} (hq:1<=q) (hp:p∣q):QaI B1 A B2 p q=true↔∃ x n:Int,Cg q (n*n) (qf B1 A B2 x)\/((p:Int)∣x/\Cg q (n*n) (qf B2 A B1 x)):=by
 have ha:=QcF B1 hq;have hb:=QcF A hq;have hc:=QcF B2 hq;unfold QaI QaR;rw[List.any_eq_true];constructor
 ·rintro⟨x,hx,h⟩;unfold QaJ at h;rw[Bool.or_eq_true,Bool.and_eq_true] at h;rcases h with h|⟨h1,h⟩
  ·obtain⟨n,hn⟩:=(Qd0 hq (Nat.mod_lt _ hq)).1 h;exact⟨x,n,.inl ((hn.trans (Qid _ _ _ _ _)).trans (Qd2 ha hb hc (Cg.refl q x)))⟩
  ·obtain⟨n,hn⟩:=(Qd0 hq (Nat.mod_lt _ hq)).1 h;have h1:=of_decide_eq_true h1;exact⟨x,n,.inr ⟨Int.natCast_dvd_natCast.2 (Nat.dvd_of_mod_eq_zero h1),(hn.trans (Qid _ _ _ _ _)).trans (Qd2 hc hb ha (Cg.refl q x))⟩⟩
 ·rintro⟨x,n,h⟩;refine⟨res x q,List.mem_range.2 (Qc1 x hq),?_⟩;have hx:=QcF x hq;unfold QaJ;rw[Bool.or_eq_true,Bool.and_eq_true];rcases h with h|⟨h1,h⟩
  ·exact .inl ((Qd0 hq (Nat.mod_lt _ hq)).2 ⟨n,(h.trans (Qd2 ha hb hc hx).symm).trans (Qid _ _ _ _ _).symm⟩)
  ·refine .inr ⟨decide_eq_true ?_,(Qd0 hq (Nat.mod_lt _ hq)).2 ⟨n,(h.trans (Qd2 hc hb ha hx).symm).trans (Qid _ _ _ _ _).symm⟩⟩
   have h2:(p:Int)∣(res x q:Int):=by
    have h3:=hx.of_dvd hp;obtain⟨k,hk⟩:=h3;obtain⟨j,hj⟩:=h1;exact⟨k+j,by rw[Int.mul_add];omega⟩
   exact Nat.mod_eq_zero_of_dvd (Int.natCast_dvd_natCast.1 h2)
theorem Qjy {q:Nat} (hq:1<=q) {e:Int} (h:Nat.Coprime e.natAbs q):∃ d:Int,Cg q (e*d) 1:=by
 have aC:∀ i j:Nat,i<q->j<q->Cg q (e*i) (e*j)->i=j:=by
  intro i j hi hj hc;obtain⟨k,hk⟩:=hc
  have h1:q∣(e*((i:Int)-j)).natAbs:=by
   rw[show e*((i:Int)-j)=(q:Int)*k by rw[Int.mul_sub];omega,Int.natAbs_mul];exact Nat.dvd_mul_right _ _
  rw[Int.natAbs_mul] at h1;have h2:=h.symm.dvd_of_dvd_mul_left h1;have h3:((i:Int)-j).natAbs<q:=by omega
  have h4:=Nat.eq_zero_of_dvd_of_lt h2 h3;omega
 have aE:((List.range q).map fun i:Nat=>res (e*i) q).Nodup:=by
  refine List.Pairwise.map (f:=fun i:Nat=>res (e*i) q) (S:=(· ≠ ·)) (R:=fun i j=>i≠j/\i<q/\j<q) ?_ ?_
  ·rintro i j ⟨aD,hi,hj⟩ aB;refine aD (aC i j hi hj ((QcF (e*i) hq).symm.trans ?_));have aB:res (e*i) q=res (e*j) q:=aB;rw[aB];exact QcF (e*j) hq
  ·refine(List.nodup_range (n:=q)).imp_of_mem ?_;intro a b ha hb aF;exact⟨aF,List.mem_range.1 ha,List.mem_range.1 hb⟩
 have aA:=QeV aE (List.nodup_range (n:=q)) (fun x hx=>by
  obtain⟨i,-,rfl⟩:=List.mem_map.1 hx;exact List.mem_range.2 (Qc1 _ hq)) (by simp)
 by_cases hq1:q=1
 ·subst hq1;exact⟨0,⟨e*0-1,by omega⟩⟩
 ·obtain⟨i,-,hi⟩:=List.mem_map.1 (aA.mem_iff.2 (List.mem_range.2 (show 1<q by omega)));refine⟨i,?_⟩;have:=(QcF (e*(i:Int)) hq).symm;rw[hi] at this;exact this
theorem Qhy {B1 A B2 m e n:Int} {p k:Nat} (hp:Pri p) (hk:1<=k) (hg:Nat.Coprime m.natAbs e.natAbs) (h:n*n=B1*(m*m)*(m*m)+A*(m*m)*(e*e)+B2*(e*e)*(e*e)):QaI B1 A B2 p (p ^ k)=true:=by
 have aA:1<=p:=by have:=hp.1;omega
 have hq:1<=p ^ k:=Nat.pow_pos aA;rw[Qkh hq ⟨p ^ (k-1),by rw[<- Nat.pow_succ'];congr 1;omega⟩];by_cases he:p∣e.natAbs
 ·have hm:¬ p∣m.natAbs:=fun hm=>by
   have:=Nat.dvd_gcd hm he;rw[hg] at this;have:=Nat.le_of_dvd (by decide) this;have:=hp.1;omega
  have hc:Nat.Coprime m.natAbs (p ^ k):=(Nat.Coprime.pow_left k (hp.cop hm)).symm;obtain⟨d,hd⟩:=Qjy hq hc;refine⟨e*d,n*(d*d),.inr ⟨Int.dvd_trans (Int.ofNat_dvd_left.2 he) (Int.dvd_mul_right e d),?_⟩⟩;have h1:n*(d*d)*(n*(d*d))=B1*((m*d)*(m*d))*((m*d)*(m*d))+A*((m*d)*(m*d))*((e*d)*(e*d))+B2*((e*d)*(e*d))*((e*d)*(e*d)):=by grind
  rw[h1];have h2:=hd.mul hd;have h3:=(((Cg.refl (p ^ k) B1).mul h2).mul h2).add (((Cg.refl (p ^ k) A).mul h2).mul (Cg.refl (p ^ k) ((e*d)*(e*d)))) |>.add (Cg.refl (p ^ k) (B2*((e*d)*(e*d))*((e*d)*(e*d))))
  refine h3.trans ?_;rw[show B1*(1*1)*(1*1)+A*(1*1)*(e*d*(e*d))+B2*(e*d*(e*d))*(e*d*(e*d))=qf B2 A B1 (e*d) by unfold qf;grind];exact Cg.refl _ _
 ·have hc:Nat.Coprime e.natAbs (p ^ k):=(Nat.Coprime.pow_left k (hp.cop he)).symm;obtain⟨d,hd⟩:=Qjy hq hc;refine⟨m*d,n*(d*d),.inl ?_⟩;have h1:n*(d*d)*(n*(d*d))=B1*((m*d)*(m*d))*((m*d)*(m*d))+A*((m*d)*(m*d))*((e*d)*(e*d))+B2*((e*d)*(e*d))*((e*d)*(e*d)):=by grind
  rw[h1];have h2:=hd.mul hd;have h3:=((Cg.refl (p ^ k) (B1*((m*d)*(m*d))*((m*d)*(m*d)))).add ((Cg.refl (p ^ k) (A*((m*d)*(m*d)))).mul h2)).add (((Cg.refl (p ^ k) B2).mul h2).mul h2);refine h3.trans ?_;rw[show B1*(m*d*(m*d))*(m*d*(m*d))+A*(m*d*(m*d))*(1*1)+B2*(1*1)*(1*1)=qf B1 A B2 (m*d) by unfold qf;grind];exact Cg.refl _ _
theorem QaC (m:Int):0<=m*m:=by
 rcases Int.le_total 0 m with h|h
 ·exact Int.mul_nonneg h h
 ·exact Int.mul_nonneg_of_nonpos_of_nonpos h h
theorem JE {m:Int} (h:m≠0):0<m*m:=by
 have h1:=QaC m;have h2:m*m≠0:=Int.mul_ne_zero h h;omega
def Qau (B1 A B2:Int):Bool:=decide (B1>0) || decide (B2>0) || (decide (A>0) && decide (A*A>=4*(B1*B2)))
theorem QeH {B1 A B2 m e n:Int} (h0:¬ (m=0/\e=0)) (h1:B1≠0) (h2:B2≠0) (h:n*n=B1*(m*m)*(m*m)+A*(m*m)*(e*e)+B2*(e*e)*(e*e)):Qau B1 A B2=true:=by
 unfold Qau;by_cases b1:B1>0
 ·simp[b1]
 by_cases b2:B2>0
 ·simp[b2]
 have hx:0<=m*m:=QaC m;have hy:0<=e*e:=QaC e;have hn:0<=n*n:=QaC n;obtain⟨x,aB⟩:∃ x,m*m=x:=⟨_,rfl⟩;obtain⟨y,aA⟩:∃ y,e*e=y:=⟨_,rfl⟩
 have aE:0<x\/0<y:=by
  by_cases hm:m=0
  ·right
   have:e≠0:=fun he=>h0 ⟨hm,he⟩;rw[<- aA];exact JE this
  ·left
   rw[<- aB];exact JE hm
 rw[aB,aA] at h;rw[aB] at hx;rw[aA] at hy;rw[h] at hn;clear h aB aA h0;obtain⟨u,rfl⟩:∃ u,B1 = -u:=⟨-B1,by omega⟩;obtain⟨v,rfl⟩:∃ v,B2 = -v:=⟨-B2,by omega⟩;have hu:0<u:=by omega
 have hv:0<v:=by omega
 have aG:=QaC x;have aD:=QaC y;have aC:=Int.mul_nonneg hx hy;have aI:0<=u*(x*x):=Int.mul_nonneg (by omega) aG;have aH:0<=v*(y*y):=Int.mul_nonneg (by omega) aD
 have aF:0<=A*(x*y)-u*(x*x)-v*(y*y):=by
  have : -u*x*x+A*x*y + -v*y*y=A*(x*y)-u*(x*x)-v*(y*y):=by grind
  omega
 have hA:A>0:=by
  by_cases hA:A>0
  ·exact hA
  ·exfalso
   have h3:A*(x*y)<=0:=Int.mul_nonpos_of_nonpos_of_nonneg (by omega) aC;rcases aE with h4|h4
   ·have:=Int.mul_pos hu (Int.mul_pos h4 h4);omega
   ·have:=Int.mul_pos hv (Int.mul_pos h4 h4);omega
 have hd:A*A>=4*(-u * -v):=by
  rw[Int.neg_mul_neg];by_cases hd:A*A>=4*(u*v)
  ·exact hd
  ·exfalso
   have h3:=QaC (2*u*x-A*y);have h4:0<=4*u*(A*(x*y)-u*(x*x)-v*(y*y)):=Int.mul_nonneg (by omega) aF;have h5:(2*u*x-A*y)*(2*u*x-A*y)+4*u*(A*(x*y)-u*(x*x)-v*(y*y))=(A*A-4*(u*v))*(y*y):=by grind
   have h6:(A*A-4*(u*v))*(y*y)<=0:=Int.mul_nonpos_of_nonpos_of_nonneg (by omega) aD;by_cases hy0:y=0
   ·subst hy0;rcases aE with h7|h7
    ·have:=Int.mul_pos hu (Int.mul_pos h7 h7);simp at aF
     omega
    ·omega
   ·have h7:0<y*y:=JE hy0;have h8:(A*A-4*(u*v))*(y*y)<0:=Int.mul_neg_of_neg_of_pos (by omega) h7;omega
 rw[decide_eq_true hA,decide_eq_true hd];simp
def Qat (x y z:Int) (p k:Nat):Prop:=1<=k/\p ^ k<=4096/\QaI x y z p (p ^ k)=false
def ObTo (x y z:Int) (ps:List Nat) (b:Int) (p k:Nat) (ok:Bool):Prop:=
 (Qau x y z=false/\b=x/\p=0/\k=0/\ok=true) \/
 (Qau x y z=true/\b=x/\ok=true/\Qat x y z p k/\(∀ k',k'<k->¬ Qat x y z p k')/\∃ i,i<ps.length/\ps.getD i 0=p/\∀ j,j<i->∀ k',¬ Qat x y z (ps.getD j 0) k') \/
 (Qau x y z=true/\b=0/\p=0/\k=0/\ok=false/\∀ j,j<ps.length->∀ k',¬ Qat x y z (ps.getD j 0) k')
theorem ObTo.uniq {x y z:Int} {ps:List Nat} {b b':Int} {p k p' k':Nat} {ok ok':Bool} (h:ObTo x y z ps b p k ok) (h':ObTo x y z ps b' p' k' ok'):b=b'/\p=p'/\k=k'/\ok=ok':=by
 rcases h with ⟨h0,h1,h2,h3,h4⟩|⟨h0,h1,h2,h3,h4,i,h5,h6,h7⟩|⟨h0,h1,h2,h3,h4,h5⟩ <;>
  rcases h' with ⟨g0,g1,g2,g3,g4⟩|⟨g0,g1,g2,g3,g4,j,g5,g6,g7⟩|⟨g0,g1,g2,g3,g4,g5⟩
 ·exact⟨h1.trans g1.symm,h2.trans g2.symm,h3.trans g3.symm,h4.trans g4.symm⟩
 ·rw[h0] at g0;cases g0
 ·rw[h0] at g0;cases g0
 ·rw[h0] at g0;cases g0
 ·have e:i=j:=by
   have a1:¬ i<j:=fun hh=>g7 i hh k (by rw[h6];exact h3);have a2:¬ j<i:=fun hh=>h7 j hh k' (by rw[g6];exact g3);omega
  subst e;have e2:p=p':=h6.symm.trans g6;subst e2
  have e3:k=k':=by
   have a1:¬ k<k':=fun hh=>g4 k hh h3;have a2:¬ k'<k:=fun hh=>h4 k' hh g3;omega
  exact⟨h1.trans g1.symm,rfl,e3,h2.trans g2.symm⟩
 ·exact absurd h3 (by rw[<- h6];exact g5 i h5 k)
 ·rw[h0] at g0;cases g0
 ·exact absurd g3 (by rw[<- g6];exact h5 j g5 k')
 ·exact⟨h1.trans g1.symm,h2.trans g2.symm,h3.trans g3.symm,h4.trans g4.symm⟩
theorem Ju {p k:Nat} (hp:2<=p) (h:p ^ k<=4096):k<=12:=by
 by_cases hk:k<=12
 ·exact hk
 ·have h1:2 ^ 13<=2 ^ k:=Nat.pow_le_pow_right (by decide) (by omega);have h2:2 ^ k<=p ^ k:=Nat.pow_le_pow_left hp k;have h3:(2:Nat) ^ 13=8192:=by decide
  omega
def Eqs (z w:Int):Prop:=∃ k l:Int,k≠0/\l≠0/\z*(k*k)=w*(l*l)
theorem Eqs.refl (z:Int):Eqs z z:=⟨1,1,by decide,by decide,rfl⟩
theorem Eqs.symm {z w:Int} (h:Eqs z w):Eqs w z:=by
 obtain⟨k,l,hk,hl,e⟩:=h;exact⟨l,k,hl,hk,e.symm⟩
theorem Eqs.trans {z w v:Int} (h:Eqs z w) (h':Eqs w v):Eqs z v:=by
 obtain⟨k,l,hk,hl,e⟩:=h;obtain⟨i,j,hi,hj,e'⟩:=h';refine⟨k*i,l*j,Int.mul_ne_zero hk hi,Int.mul_ne_zero hl hj,?_⟩
 calc z*(k*i*(k*i))=z*(k*k)*(i*i):=by grind
  _=w*(l*l)*(i*i):=by rw[e]
  _=w*(i*i)*(l*l):=by grind
  _=v*(j*j)*(l*l):=by rw[e']
  _=v*(l*j*(l*j)):=by grind
theorem Eqs.mul {z w x y:Int} (h:Eqs z w) (h':Eqs x y):Eqs (z*x) (w*y):=by
 obtain⟨k,l,hk,hl,e⟩:=h;obtain⟨i,j,hi,hj,e'⟩:=h';refine⟨k*i,l*j,Int.mul_ne_zero hk hi,Int.mul_ne_zero hl hj,?_⟩
 calc z*x*(k*i*(k*i))=z*(k*k)*(x*(i*i)):=by grind
  _=w*(l*l)*(y*(j*j)):=by rw[e,e']
  _=w*y*(l*j*(l*j)):=by grind
theorem Eqs.sq (z:Int) {k:Int} (hk:k≠0):Eqs (z*(k*k)) z:=⟨1,k,by decide,hk,by grind⟩
theorem Eqs.nat {z w:Int} (h:Eqs z w):∃ k l:Nat,1<=k/\1<=l/\z.natAbs*(k*k)=w.natAbs*(l*l):=by
 obtain⟨k,l,hk,hl,e⟩:=h;refine⟨k.natAbs,l.natAbs,by omega,by omega,?_⟩;have:=congrArg Int.natAbs e;simpa [Int.natAbs_mul] using this
theorem Eqs.sign {z w:Int} (h:Eqs z w):0<z↔0<w:=by
 obtain⟨k,l,hk,hl,e⟩:=h;have h1:=JE hk;have h2:=JE hl;constructor
 ·intro hz;have h3:=Int.mul_pos hz h1;rw[e] at h3;exact Int.pos_of_mul_pos_left h3 h2
 ·intro hw;have h3:=Int.mul_pos hw h2;rw[<- e] at h3;exact Int.pos_of_mul_pos_left h3 h1
theorem Eqs.uniq {z w:Int} (h:Eqs z w) (hz:SqF z.natAbs) (hw:SqF w.natAbs) (h0:z≠0) (h1:w≠0):z=w:=by
 obtain⟨k,l,hk,hl,e⟩:=h.nat;have h2:=JL hz hw hk hl e;have h3:=h.sign;omega
theorem JD:∀ (n:Nat),1<=n->∃ f,Sqc n f:=by
 intro n;induction n using Nat.strongRecOn with
 | _ n ih =>
   intro hn;by_cases h:∃ d,2<=d/\d*d∣n
   ·obtain⟨d,hd,m,rfl⟩:=h
    have hm:1<=m:=by
     rcases Nat.eq_zero_or_pos m with e|e
     ·subst e;omega
     ·exact e
    have h4:2*2<=d*d:=Nat.mul_le_mul hd hd;have aA:m<d*d*m:=by have:=Nat.mul_le_mul_right m h4;omega
    obtain⟨f,hf⟩:=ih m aA hm;exact⟨f,by rw[Nat.mul_comm];exact hf.sq (by omega)⟩
   ·exact⟨n,Sqc.self (fun d hd h'=>h ⟨d,hd,h'⟩) hn⟩
def RP (a b X D:Int):Prop:=X≠0/\D≠0/\∃ Y,Y*Y=X*D*(X*X+a*X*D+b*D*D)
theorem RP.sum {a b A B D:Int} (h1:RP a b A D) (h2:RP a b B D) (hne:A≠B):Eqs (A*B) b\/∃ X E,RP a b X E/\Eqs (X*E) (A*B):=by
 obtain⟨hA,hD,Y,e1⟩:=h1;obtain⟨hB,-,Z,e2⟩:=h2;have hd:B-A≠0:=by omega
 have hP:A*B≠0:=Int.mul_ne_zero hA hB;have s1:(Y*B-Z*A)*(Y*B-Z*A)=A*B*((Z-Y)*(Z-Y))-A*B*D*((B-A)*(B-A))*(A+B+a*D):=by grind
 have s2:2*(Z-Y)*(Y*B-Z*A)*(A*B)+D*((B-A)*(B-A))*(A*B*(A*B))+(Y*B-Z*A)*(Y*B-Z*A)*(A+B)=b*(D*D*D)*((B-A)*(B-A))*(A*B):=by grind
 obtain⟨N,hN⟩:∃ N,Y*B-Z*A=N:=⟨_,rfl⟩;obtain⟨L,hL⟩:∃ L,Z-Y=L:=⟨_,rfl⟩;obtain⟨P,aB⟩:∃ P,A*B=P:=⟨_,rfl⟩;obtain⟨S,hS⟩:∃ S,A+B=S:=⟨_,rfl⟩;obtain⟨d,aA⟩:∃ d,B-A=d:=⟨_,rfl⟩;rw[hN,hL,aB,hS,aA] at s1 s2;rw[aB] at hP |-;rw[aA] at hd;clear hN hL aB hS aA e1 e2;by_cases h0:N=0
 ·left
  subst h0;have h3:D*(d*d)*P*P=b*(D*D*D)*(d*d)*P:=by grind
  have h4:D*(d*d)*P≠0:=Int.mul_ne_zero (Int.mul_ne_zero hD (Int.mul_ne_zero hd hd)) hP;have h5:P=b*(D*D):=Int.eq_of_mul_eq_mul_left h4 (by grind);exact⟨1,D,by decide,hD,by rw[h5];grind⟩
 ·right
  refine⟨N*N,D*D*(d*d)*P,⟨Int.mul_ne_zero h0 h0,Int.mul_ne_zero (Int.mul_ne_zero (Int.mul_ne_zero hD hD) (Int.mul_ne_zero hd hd)) hP,N*(L*N+D*(d*d)*P)*(D*d*P),?_⟩,?_⟩
  ·have m1:(L*N+D*(d*d)*P)*(L*N+D*(d*d)*P)*P=N*N*(N*N)+a*(N*N)*(D*D*(d*d)*P)+b*(D*D*(d*d)*P)*(D*D*(d*d)*P):=by grind
   calc N*(L*N+D*(d*d)*P)*(D*d*P)*(N*(L*N+D*(d*d)*P)*(D*d*P))=N*N*(D*D*(d*d))*P*((L*N+D*(d*d)*P)*(L*N+D*(d*d)*P)*P):=by grind
    _=N*N*(D*D*(d*d))*P*(N*N*(N*N)+a*(N*N)*(D*D*(d*d)*P)+b*(D*D*(d*d)*P)*(D*D*(d*d)*P)):=by rw[m1]
    _=_:=by grind
  ·refine⟨1,N*D*d,by decide,Int.mul_ne_zero (Int.mul_ne_zero h0 hD) hd,by grind⟩
theorem RP.tor {a b X D:Int} (hb:b≠0) (h:RP a b X D):RP a b (b*D) X:=by
 obtain⟨hX,hD,Y,e⟩:=h;refine⟨Int.mul_ne_zero hb hD,hX,b*Y,?_⟩
 calc b*Y*(b*Y)=b*b*(Y*Y):=by grind
  _=b*b*(X*D*(X*X+a*X*D+b*D*D)):=by rw[e]
  _=_:=by grind
theorem RP.scale {a b X D k:Int} (hk:k≠0) (h:RP a b X D):RP a b (X*k) (D*k):=by
 obtain⟨hX,hD,Y,e⟩:=h;refine⟨Int.mul_ne_zero hX hk,Int.mul_ne_zero hD hk,Y*(k*k),?_⟩
 calc Y*(k*k)*(Y*(k*k))=Y*Y*(k*k*(k*k)):=by grind
  _=X*D*(X*X+a*X*D+b*D*D)*(k*k*(k*k)):=by rw[e]
  _=_:=by grind
def Im (a b z:Int):Prop:=z≠0/\(Eqs z 1\/Eqs z b\/∃ X D,RP a b X D/\Eqs z (X*D))
theorem Im.eqs {a b z w:Int} (h:Im a b z) (he:Eqs w z) (h0:w≠0):Im a b w:=by
 refine⟨h0,?_⟩;rcases h.2 with h|h|⟨X,D,h1,h2⟩
 ·exact .inl (he.trans h)
 ·exact .inr (.inl (he.trans h))
 ·exact .inr (.inr ⟨X,D,h1,he.trans h2⟩)
theorem Im.one (a b:Int):Im a b 1:=⟨by decide,.inl (Eqs.refl 1)⟩
theorem Im.tor {a b:Int} (hb:b≠0):Im a b b:=⟨hb,.inr (.inl (Eqs.refl b))⟩
theorem Im.mul_tor {a b z:Int} (hb:b≠0) (h:Im a b z):Im a b (z*b):=by
 refine⟨Int.mul_ne_zero h.1 hb,?_⟩;rcases h.2 with h|h|⟨X,D,h1,h2⟩
 ·exact .inr (.inl (by have:=h.mul (Eqs.refl b);rwa [Int.one_mul] at this))
 ·refine .inl ((h.mul (Eqs.refl b)).trans ?_);have:=Eqs.sq 1 hb;rwa [Int.one_mul] at this
 ·refine .inr (.inr ⟨_,_,h1.tor hb,(h2.mul (Eqs.refl b)).trans ?_⟩);rw[show X*D*b=b*D*X by grind];exact Eqs.refl _
theorem Im.mul {a b z w:Int} (hb:b≠0) (h:Im a b z) (h':Im a b w):Im a b (z*w):=by
 have h0:z*w≠0:=Int.mul_ne_zero h.1 h'.1;rcases h'.2 with k|k|⟨X2,D2,k1,k2⟩
 ·exact h.eqs (by have:=(Eqs.refl z).mul k;rwa [Int.mul_one] at this) h0
 ·exact(h.mul_tor hb).eqs ((Eqs.refl z).mul k) h0
 rcases h.2 with k|k|⟨X1,D1,j1,j2⟩
 ·exact h'.eqs (by have:=k.mul (Eqs.refl w);rwa [Int.one_mul] at this) h0
 ·refine(h'.mul_tor hb).eqs ?_ h0;rw[Int.mul_comm w b];exact k.mul (Eqs.refl w)
 have he:Eqs (z*w) (X1*D1*(X2*D2)):=j2.mul k2;have e2:Eqs (X1*D2*(X2*D1)) (X1*D1*(X2*D2)):=by rw[show X1*D2*(X2*D1)=X1*D1*(X2*D2) by grind];exact Eqs.refl _
 have r1:=j1.scale k1.2.1;have r2:=k1.scale j1.2.1;rw[Int.mul_comm D2 D1] at r2;refine⟨h0,?_⟩;by_cases hx:X1*D2=X2*D1
 ·left
  refine he.trans (e2.symm.trans ?_);rw[hx];have:=Eqs.sq 1 (k:=X2*D1) (Int.mul_ne_zero k1.1 j1.2.1);rwa [Int.one_mul] at this
 ·rcases r1.sum r2 hx with h|⟨X,E,h1,h2⟩
  ·exact .inr (.inl (he.trans (e2.symm.trans h)))
  ·exact .inr (.inr ⟨X,E,h1,he.trans (e2.symm.trans h2.symm)⟩)
