/-
  A search: small numbers are factored completely. No program.
-/
import Derived.Test.YteidokhjmbihlaaGreatQ0
set_option linter.all false
namespace Go.Proofs.YteidokhjmbihlaaGreat
def Qai (d:Nat):Nat->Nat->Nat
 | 0,_=>0
 | k+1,n=>if 2<=d/\1<=n/\n%d=0 then Qai d k (n/d)+1 else 0
def mlt (d n:Nat):Nat:=Qai d n n
def cof (d n:Nat):Nat:=n/d ^ mlt d n
theorem Jf (d:Nat) (hd:2<=d):∀ k n,1<=n->n<=k->∃ m,n=d ^ Qai d k n*m/\¬ d∣m/\1<=m:=by
 intro k;induction k with
 | zero=>intro n h1 h2;omega
 | succ k ih =>
   intro n h1 h2;unfold Qai;split
   ·rename_i h
    have hdn:d∣n:=Nat.dvd_of_mod_eq_zero h.2.2;have hq:1<=n/d:=Nat.div_pos (Nat.le_of_dvd h1 hdn) (by omega);have hl:n/d<=k:=by have:=Nat.div_lt_self h1 hd;omega
    obtain⟨m,e,hm,aA⟩:=ih (n/d) hq hl;refine⟨m,?_,hm,aA⟩
    calc n=d*(n/d):=(Nat.mul_div_cancel' hdn).symm
     _=d*(d ^ Qai d k (n/d)*m):=by rw[<- e]
     _=_:=by rw[Nat.pow_succ];ac_rfl
   ·rename_i h
    refine⟨n,by simp,fun hdn=>h ⟨hd,h1,Nat.mod_eq_zero_of_dvd hdn⟩,h1⟩
theorem QC {d n:Nat} (hd:2<=d) (hn:1<=n):n=d ^ mlt d n*cof d n/\¬ d∣cof d n/\1<=cof d n:=by
 obtain⟨m,e,h1,h2⟩:=Jf d hd n n hn (Nat.le_refl _);have hp:0<d ^ mlt d n:=Nat.pow_pos (by omega)
 have:cof d n=m:=by
  unfold cof;conv=>lhs;lhs;rw[e]
  exact Nat.mul_div_cancel_left m hp
 rw[this];exact⟨e,h1,h2⟩
theorem Qb7 {d n k m:Nat} (hd:2<=d) (hn:1<=n) (e:n=d ^ k*m) (hm:¬ d∣m):mlt d n=k/\cof d n=m:=by
 obtain⟨h1,h2,h3⟩:=QC hd hn;have hp:∀ j,0<d ^ j:=fun j=>Nat.pow_pos (by omega);rw[h1] at e
 have aA:∀ {a b x y:Nat},d ^ a*x=d ^ b*y->a<b->d∣x:=by
  intro a b x y h aB;obtain⟨c,rfl⟩:∃ c,b=a+1+c:=⟨b-a-1,by omega⟩;refine⟨d ^ c*y,?_⟩;apply Nat.eq_of_mul_eq_mul_left (hp a)
  rw[h,Nat.pow_add,Nat.pow_succ];ac_rfl
 rcases Nat.lt_trichotomy (mlt d n) k with h|h|h
 ·exact absurd (aA e h) h2
 ·rw[h] at e |-;exact⟨rfl,Nat.eq_of_mul_eq_mul_left (hp k) e⟩
 ·exact absurd (aA e.symm h) hm
theorem QiQ {d n:Nat} (h:¬ d∣n):mlt d n=0:=by
 unfold mlt
 cases n with
 | zero=>rfl
 | succ n =>
   unfold Qai;rw[if_neg];intro h';exact h (Nat.dvd_of_mod_eq_zero h'.2.2)
theorem QiZ {d n:Nat} (h:¬ d∣n):cof d n=n:=by unfold cof;rw[QiQ h];simp
theorem Qil {d n:Nat} (hd:2<=d) (hn:1<=n) (h:d∣n):mlt d n=mlt d (n/d)+1/\cof d n=cof d (n/d):=by
 have hq:1<=n/d:=Nat.div_pos (Nat.le_of_dvd hn h) (by omega);obtain⟨h1,h2,h3⟩:=QC hd hq;refine Qb7 hd hn ?_ h2;rw[Nat.pow_succ,Nat.mul_right_comm,<- h1,Nat.mul_comm];exact(Nat.mul_div_cancel' h).symm
def ppw:List Nat->(Nat->Nat)->Nat
 | [],_=>1
 | p :: o,e=>p ^ e p*ppw o e
def Cob (o:List Nat):Prop:=(∀ p∈o,2<=p)/\o.Pairwise Nat.Coprime
theorem Cob.tail {p:Nat} {o:List Nat} (h:Cob (p :: o)):Cob o:=⟨fun q hq=>h.1 q (by simp[hq]),(List.pairwise_cons.1 h.2).2⟩
theorem Cob.head {p:Nat} {o:List Nat} (h:Cob (p :: o)):2<=p/\∀ q∈o,Nat.Coprime p q:=⟨h.1 p (by simp),(List.pairwise_cons.1 h.2).1⟩
theorem Cob.perm {o o':List Nat} (h:Cob o) (hp:o.Perm o'):Cob o':=⟨fun q hq=>h.1 q (hp.mem_iff.2 hq),(hp.pairwise_iff (fun h=>Nat.Coprime.symm h)).1 h.2⟩
theorem Cob.nodup {o:List Nat} (h:Cob o):o.Nodup:=by
 obtain⟨h1,h2⟩:=h;induction o with
 | nil=>exact List.nodup_nil
 | cons p o ih =>
   refine List.nodup_cons.2 ⟨fun hp=>?_,ih (fun q hq=>h1 q (by simp[hq])) (List.pairwise_cons.1 h2).2⟩;have:=(List.pairwise_cons.1 h2).1 p hp;have hg:Nat.gcd p p=1:=this;rw[Nat.gcd_self] at hg;have:=h1 p (by simp);omega
theorem Cob.cop {o:List Nat} (h:Cob o) {p q:Nat} (hp:p∈o) (hq:q∈o) (hne:p≠q):Nat.Coprime p q:=by
 obtain⟨-,h2⟩:=h;induction o with
 | nil=>simp at hp
 | cons x o ih =>
   obtain⟨ha,hb⟩:=List.pairwise_cons.1 h2;rcases List.mem_cons.1 hp with e1|h1 <;> rcases List.mem_cons.1 hq with e2|h2
   ·exact absurd (e1.trans e2.symm) hne
   ·rw[e1];exact ha _ h2
   ·rw[e2];exact(ha _ h1).symm
   ·exact ih h1 h2 hb
theorem Qe {o:List Nat} {e f:Nat->Nat} (h:∀ p∈o,e p=f p):ppw o e=ppw o f:=by
 induction o with
 | nil=>rfl
 | cons p o ih=>simp only[ppw];rw[h p (by simp),ih (fun q hq=>h q (by simp[hq]))]
theorem QF {o:List Nat} {e:Nat->Nat} (h:∀ p∈o,e p=0):ppw o e=1:=by
 induction o with
 | nil=>rfl
 | cons p o ih=>simp only[ppw];rw[h p (by simp),ih (fun q hq=>h q (by simp[hq]))];rfl
theorem Qz (o:List Nat) (e f:Nat->Nat):ppw o e*ppw o f=ppw o (fun p=>e p+f p):=by
 induction o with
 | nil=>rfl
 | cons p o ih=>simp only[ppw];rw[<- ih,Nat.pow_add];ac_rfl
theorem JX (o:List Nat) (e:Nat->Nat) (k:Nat):ppw o e ^ k=ppw o (fun p=>k*e p):=by
 induction o with
 | nil=>simp[ppw]
 | cons p o ih=>simp only[ppw];rw[<- ih,Nat.mul_pow,<- Nat.pow_mul,Nat.mul_comm (e p) k]
theorem QJ (o o':List Nat) (e:Nat->Nat):ppw (o++o') e=ppw o e*ppw o' e:=by
 induction o with
 | nil=>simp[ppw]
 | cons p o ih=>simp only[ppw,List.cons_append];rw[ih];ac_rfl
theorem QP {o o':List Nat} (h:o.Perm o') (e:Nat->Nat):ppw o e=ppw o' e:=by
 induction h with
 | nil=>rfl
 | cons x _ ih=>simp only[ppw];rw[ih]
 | swap x y l=>simp only[ppw];ac_rfl
 | trans _ _ h1 h2=>exact h1.trans h2
theorem JP {o:List Nat} (h:∀ p∈o,1<=p) (e:Nat->Nat):1<=ppw o e:=by
 induction o with
 | nil=>exact Nat.le_refl _
 | cons p o ih=>exact Nat.mul_pos (Nat.pow_pos (h p (by simp))) (ih (fun q hq=>h q (by simp[hq])))
theorem Cob.pos {o:List Nat} (h:Cob o) (e:Nat->Nat):1<=ppw o e:=JP (fun p hp=>by have:=h.1 p hp;omega) e
theorem QL {p:Nat} {o:List Nat} (h:∀ q∈o,Nat.Coprime p q) (e:Nat->Nat):Nat.Coprime p (ppw o e):=by
 induction o with
 | nil=>exact Nat.coprime_one_right p
 | cons q o ih =>
   have h1:Nat.Coprime (p ^ 1) (q ^ e q):=Nat.Coprime.pow 1 (e q) (h q (by simp));rw[Nat.pow_one] at h1;exact h1.mul_right (ih (fun x hx=>h x (by simp[hx])))
theorem Qg {p m:Nat} (hp:2<=p) (h:Nat.Coprime p m):¬ p∣m:=fun hd=>by
 have:=h.eq_one_of_dvd hd;omega
theorem Q7 {o:List Nat} (h:Cob o) (e:Nat->Nat) {p:Nat} (hp:p∈o):mlt p (ppw o e)=e p:=by
 obtain⟨a,b,rfl⟩:=List.append_of_mem hp;have h':Cob (p :: (a++b)):=h.perm List.perm_middle;have e1:ppw (a++p :: b) e=p ^ e p*ppw (a++b) e:=QP List.perm_middle e;rw[e1];refine(Qb7 h'.head.1 (Nat.mul_pos (Nat.pow_pos (by have:=h'.head.1;omega)) (h'.tail.pos e)) rfl ?_).1;exact Qg h'.head.1 (QL h'.head.2 e)
theorem JN {o:List Nat} (h:Cob o) {e f:Nat->Nat} (he:ppw o e=ppw o f) {p:Nat} (hp:p∈o):e p=f p:=by
 rw[<- Q7 h e hp,<- Q7 h f hp,he]
theorem Yu {o:List Nat} (h:Cob o) {e f:Nat->Nat}:ppw o e∣ppw o f↔∀ p∈o,e p<=f p:=by
 constructor
 ·intro hd;induction o with
  | nil=>simp
  | cons p o ih =>
    simp only[ppw] at hd;have hc:Nat.Coprime p (ppw o f):=QL h.head.2 f;have aC:Nat.Coprime p (ppw o e):=QL h.head.2 e;intro q hq;rcases List.mem_cons.1 hq with rfl|hq
    ·have h1:q ^ e q∣q ^ f q*ppw o f:=Nat.dvd_trans ⟨_,rfl⟩ hd
     have aA:Nat.Coprime (q ^ e q) (ppw o f):=by
      have:=Nat.Coprime.pow (e q) 1 hc;rwa [Nat.pow_one] at this
     have h2:q ^ e q∣q ^ f q:=aA.dvd_of_dvd_mul_right h1;exact(Nat.pow_dvd_pow_iff_le_right (by have:=h.head.1;omega)).1 h2
    ·refine ih h.tail ?_ q hq;have h1:ppw o e∣p ^ f p*ppw o f:=Nat.dvd_trans ⟨p ^ e p,by ac_rfl⟩ hd
     have aA:Nat.Coprime (ppw o e) (p ^ f p):=by
      have:=(Nat.Coprime.pow (f p) 1 aC).symm;rwa [Nat.pow_one] at this
     exact aA.dvd_of_dvd_mul_left h1
 ·intro aB;refine⟨ppw o (fun p=>f p-e p),?_⟩;rw[Qz];exact Qe (fun p hp=>by have:=aB p hp;omega)
theorem Y4 {o:List Nat} (h:Cob o) {e f:Nat->Nat} (hd:ppw o f∣ppw o e):ppw o e/ppw o f=ppw o (fun p=>e p-f p):=by
 have aA:=(Yu h).1 hd
 have:ppw o e=ppw o f*ppw o (fun p=>e p-f p):=by
  rw[Qz];exact Qe (fun p hp=>by have:=aA p hp;omega)
 rw[this];exact Nat.mul_div_cancel_left _ (h.pos f)
theorem YZ {o:List Nat} (h:Cob o) (e f:Nat->Nat):Nat.gcd (ppw o e) (ppw o f)=ppw o (fun p=>min (e p) (f p)):=by
 have e1:ppw o e=ppw o (fun p=>min (e p) (f p))*ppw o (fun p=>e p-min (e p) (f p)):=by
  rw[Qz];exact Qe (fun p _=>by omega)
 have e2:ppw o f=ppw o (fun p=>min (e p) (f p))*ppw o (fun p=>f p-min (e p) (f p)):=by
  rw[Qz];exact Qe (fun p _=>by omega)
 have hc:Nat.gcd (ppw o (fun p=>e p-min (e p) (f p))) (ppw o (fun p=>f p-min (e p) (f p)))=1:=by
  have aB:∀ {l:List Nat},Cob l->∀ (a b:Nat->Nat),(∀ p∈l,a p=0\/b p=0)->Nat.Coprime (ppw l a) (ppw l b):=by
   intro l;induction l with
   | nil=>intro _ a b _;exact Nat.coprime_one_right 1
   | cons p l ih =>
     intro hl a b aA;have i1:=ih hl.tail a b (fun q hq=>aA q (by simp[hq]));have ca:Nat.Coprime p (ppw l a):=QL hl.head.2 a;have cb:Nat.Coprime p (ppw l b):=QL hl.head.2 b;simp only[ppw];have aD:Nat.Coprime (ppw l a) (p ^ b p):=by have:=(Nat.Coprime.pow (b p) 1 ca).symm;rwa [Nat.pow_one] at this
     have aC:Nat.Coprime (p ^ a p) (ppw l b):=by have:=Nat.Coprime.pow (a p) 1 cb;rwa [Nat.pow_one] at this
     rcases aA p (by simp) with h0|h0
     ·rw[h0,Nat.pow_zero,Nat.one_mul];exact aD.mul_right i1
     ·rw[h0,Nat.pow_zero,Nat.one_mul];exact aC.mul_left i1
  exact aB h _ _ (fun p _=>by omega)
 conv=>lhs;rw[e1,e2]
 rw[Nat.gcd_mul_left,hc,Nat.mul_one]
def YN (p:Nat):Nat->Nat:=fun q=>if q=p then 1 else 0
theorem Qm {o:List Nat} (h:o.Nodup) {p:Nat} (hp:p∈o):ppw o (YN p)=p:=by
 induction o with
 | nil=>simp at hp
 | cons q o ih =>
   have hq:=List.nodup_cons.1 h;simp only[ppw];rcases List.mem_cons.1 hp with rfl|hp
   ·rw[QF (o:=o) (fun x hx=>by unfold YN;rw[if_neg];rintro rfl;exact hq.1 hx)];simp[YN]
   ·have aA:q≠p:=by rintro rfl;exact hq.1 hp
    rw[ih hq.2 hp];simp[YN,aA]
inductive Cls (l:List Nat):Nat->Prop
 | mem {x}:x∈l->Cls l x
 | one:Cls l 1
 | mul {x y}:Cls l x->Cls l y->Cls l (x*y)
 | div {x y}:Cls l x->Cls l y->1<=y->y∣x->Cls l (x/y)
 | gcd {x y}:Cls l x->Cls l y->Cls l (Nat.gcd x y)
theorem Cls.mono {l l':List Nat} {x:Nat} (h:Cls l x) (hl:∀ y∈l,Cls l' y):Cls l' x:=by
 induction h with
 | mem h=>exact hl _ h
 | one=>exact .one
 | mul _ _ h1 h2=>exact .mul h1 h2
 | div _ _ h3 h4 h1 h2=>exact .div h1 h2 h3 h4
 | gcd _ _ h1 h2=>exact .gcd h1 h2
theorem Cls.pow {l:List Nat} {x:Nat} (h:Cls l x) (k:Nat):Cls l (x ^ k):=by
 induction k with
 | zero=>exact .one
 | succ k ih=>rw[Nat.pow_succ];exact .mul ih h
theorem Cls.ppw {l o:List Nat} (h:∀ p∈o,Cls l p) (e:Nat->Nat):Cls l (ppw o e):=by
 induction o with
 | nil=>exact .one
 | cons p o ih=>exact .mul ((h p (by simp)).pow _) (ih (fun q hq=>h q (by simp[hq])))
structure CB (l o:List Nat):Prop where
 cob:Cob o
 gen:∀ x∈l,∃ e,x=ppw o e
 cls:∀ p∈o,Cls l p
theorem Cob.closed {o l:List Nat} (h:Cob o) (hl:∀ x∈l,∃ e,x=ppw o e) {x:Nat} (hx:Cls l x):∃ e,x=ppw o e:=by
 induction hx with
 | mem h=>exact hl _ h
 | one=>exact⟨fun _=>0,(QF (fun _ _=>rfl)).symm⟩
 | mul _ _ h1 h2 =>
   obtain⟨e,rfl⟩:=h1;obtain⟨f,rfl⟩:=h2;exact⟨_,Qz o e f⟩
 | div _ _ h3 h4 h1 h2 =>
   obtain⟨e,rfl⟩:=h1;obtain⟨f,rfl⟩:=h2;exact⟨_,Y4 h h4⟩
 | gcd _ _ h1 h2 =>
   obtain⟨e,rfl⟩:=h1;obtain⟨f,rfl⟩:=h2;exact⟨_,YZ h e f⟩
theorem YE {o:List Nat} {e:Nat->Nat} (h:2<=ppw o e):∃ p∈o,1<=e p:=by
 apply Classical.byContradiction
 intro hn
 rw[QF (fun p hp=>by
  rcases Nat.eq_zero_or_pos (e p) with h0|h0
  ·exact h0
  ·exact absurd ⟨p,hp,h0⟩ hn)] at h
 omega
theorem Ya {o:List Nat} {e:Nat->Nat} {p:Nat} (hp:p∈o) (h:1<=e p):p∣ppw o e:=by
 obtain⟨a,b,rfl⟩:=List.append_of_mem hp;rw[QP List.perm_middle e];simp only[ppw];obtain⟨k,hk⟩:∃ k,e p=k+1:=⟨e p-1,by omega⟩;exact⟨p ^ k*ppw (a++b) e,by rw[hk,Nat.pow_succ];ac_rfl⟩
theorem CB.sub {l o o':List Nat} (h:CB l o) (h':CB l o') {p:Nat} (hp:p∈o):p∈o':=by
 obtain⟨e,he⟩:=h'.cob.closed h'.gen (h.cls p hp);have aG:2<=p:=h.cob.1 p hp;obtain⟨q,hq,aE⟩:=YE (o:=o') (e:=e) (by rw[<- he];exact aG);have aB:q∣p:=by rw[he];exact Ya hq aE
 obtain⟨f,hf⟩:=h.cob.closed h.gen (h'.cls q hq);have aF:2<=q:=h'.cob.1 q hq;obtain⟨r,hr,aD⟩:=YE (o:=o) (e:=f) (by rw[<- hf];exact aF);have aA:r∣q:=by rw[hf];exact Ya hr aD
 have aC:r=p:=by
  apply Classical.byContradiction
  intro aH;have:=h.cob.cop hr hp aH;exact Qg (h.cob.1 r hr) this (Nat.dvd_trans aA aB)
 subst aC;rw[Nat.dvd_antisymm aA aB];exact hq
theorem CB.perm {l o o':List Nat} (h:CB l o) (h':CB l o'):o.Perm o':=
 (List.perm_ext_iff_of_nodup h.cob.nodup h'.cob.nodup).2 (fun _=>⟨fun hp=>h.sub h' hp,fun hp=>h'.sub h hp⟩)
theorem CB.self {o:List Nat} (h:Cob o):CB o o:=⟨h,fun _ hx=>⟨YN _,(Qm h.nodup hx).symm⟩,fun _ hp=>.mem hp⟩
theorem CB.same {l l' o:List Nat} (h:CB l o) (h1:∀ x∈l,Cls l' x) (h2:∀ x∈l',Cls l x):CB l' o:=
 ⟨h.cob,fun x hx=>h.cob.closed h.gen (h2 x hx),fun p hp=>(h.cls p hp).mono h1⟩
inductive Mon (l:List Nat):Nat->Prop
 | one:Mon l 1
 | mul {p n}:p∈l->Mon l n->Mon l (p*n)
theorem Mon.mem {l:List Nat} {p:Nat} (h:p∈l):Mon l p:=by have:=Mon.mul h Mon.one;rwa [Nat.mul_one] at this
theorem Mon.times {l:List Nat} {x y:Nat} (h:Mon l x) (h':Mon l y):Mon l (x*y):=by
 induction h with
 | one=>rwa [Nat.one_mul]
 | mul hp _ ih=>rw[Nat.mul_assoc];exact .mul hp ih
theorem Mon.mono {l l':List Nat} {x:Nat} (h:Mon l x) (hl:∀ y∈l,Mon l' y):Mon l' x:=by
 induction h with
 | one=>exact .one
 | mul hp _ ih=>exact(hl _ hp).times ih
theorem Mon.ppw {o:List Nat} (ho:o.Nodup) {x:Nat} (h:Mon o x):∃ e,x=ppw o e:=by
 induction h with
 | one=>exact⟨fun _=>0,(QF (fun _ _=>rfl)).symm⟩
 | @mul p n hp _ ih =>
   obtain⟨e,rfl⟩:=ih;refine⟨fun q=>YN p q+e q,?_⟩;rw[<- Qz,Qm ho hp]
structure Inv (l m:List Nat):Prop where
 pos:∀ x∈m,1<=x
 gen:∀ x∈l,Mon m x
 cls:∀ x∈m,Cls l x
theorem Inv.refl {l:List Nat} (h:∀ x∈l,1<=x):Inv l l:=⟨h,fun _ hx=>.mem hx,fun _ hx=>.mem hx⟩
theorem Inv.step {l m m':List Nat} (h:Inv l m) (h1:∀ x∈m,Mon m' x) (h2:∀ x∈m',1<=x/\Cls m x):Inv l m':=
 ⟨fun x hx=>(h2 x hx).1,fun x hx=>(h.gen x hx).mono h1,fun x hx=>(h2 x hx).2.mono h.cls⟩
theorem Inv.cb {l o:List Nat} (h:Inv l o) (ho:Cob o):CB l o:=⟨ho,fun x hx=>(h.gen x hx).ppw ho.nodup,h.cls⟩
theorem Inv.drop {l m m':List Nat} {x:Nat} (h:Inv l m) (hm:∀ y,y∈m↔y=x\/y∈m') (hx:x=1\/x∈m'):Inv l m':=
 h.step (fun y hy=>by
  rcases (hm y).1 hy with rfl|hy
  ·rcases hx with rfl|hx
   ·exact .one
   ·exact .mem hx
  ·exact .mem hy) (fun y hy=>⟨h.pos y ((hm y).2 (.inr hy)),.mem ((hm y).2 (.inr hy))⟩)
theorem Inv.same {l m m':List Nat} (h:Inv l m) (hm:∀ y,y∈m↔y∈m'):Inv l m':=
 h.step (fun y hy=>.mem ((hm y).1 hy)) (fun y hy=>⟨h.pos y ((hm y).2 hy),.mem ((hm y).2 hy)⟩)
theorem Inv.split {l m m':List Nat} {x y:Nat} (h:Inv l m) (hx:x∈m) (hy:y∈m) (h1:∀ z∈m,z=x\/z=y\/z∈m')
  (h2:∀ z∈m',z∈m\/z=Nat.gcd x y\/z=x/Nat.gcd x y\/z=y/Nat.gcd x y)
  (h3:∀ z,z=Nat.gcd x y\/z=x/Nat.gcd x y\/z=y/Nat.gcd x y->z=1\/z∈m'):Inv l m':=by
 have px:=h.pos x hx;have py:=h.pos y hy;have hg:1<=Nat.gcd x y:=Nat.gcd_pos_of_pos_left _ px;have gx:=Nat.gcd_dvd_left x y;have gy:=Nat.gcd_dvd_right x y
 have mo:∀ z,z=Nat.gcd x y\/z=x/Nat.gcd x y\/z=y/Nat.gcd x y->Mon m' z:=by
  intro z hz;rcases h3 z hz with rfl|h
  ·exact .one
  ·exact .mem h
 refine h.step (fun z hz=>?_) (fun z hz=>?_)
 ·rcases h1 z hz with rfl|rfl|hz
  ·have:=(mo _ (.inl rfl)).times (mo _ (.inr (.inl rfl)));rwa [Nat.mul_div_cancel' gx] at this
  ·have:=(mo _ (.inl rfl)).times (mo _ (.inr (.inr rfl)));rwa [Nat.mul_div_cancel' gy] at this
  ·exact .mem hz
 ·rcases h2 z hz with hz|rfl|rfl|rfl
  ·exact⟨h.pos z hz,.mem hz⟩
  ·exact⟨hg,.gcd (.mem hx) (.mem hy)⟩
  ·exact⟨Nat.div_pos (Nat.le_of_dvd px gx) hg,.div (.mem hx) (.gcd (.mem hx) (.mem hy)) hg gx⟩
  ·exact⟨Nat.div_pos (Nat.le_of_dvd py gy) hg,.div (.mem hy) (.gcd (.mem hx) (.mem hy)) hg gy⟩
theorem QI {l:List Nat} (h:∀ x∈l,1<=x):1<=l.prod:=by
 induction l with
 | nil=>exact Nat.le_refl _
 | cons x l ih=>rw[List.prod_cons];exact Nat.mul_pos (h x (by simp)) (ih (fun y hy=>h y (by simp[hy])))
theorem JU {l:List Nat} (h:∀ x∈l,1<=x) {x:Nat} (hx:x∈l):x<=l.prod:=by
 obtain⟨a,b,rfl⟩:=List.append_of_mem hx;have h1:=QI (l:=a) (fun y hy=>h y (by simp[hy]));have h2:=QI (l:=b) (fun y hy=>h y (by simp[hy]));rw[List.prod_append_nat,List.prod_cons]
 calc x=1*(x*1):=by simp
  _<=a.prod*(x*b.prod):=Nat.mul_le_mul h1 (Nat.mul_le_mul_left x h2)
theorem Q9:∀ {l:List Nat} {i:Nat} (h:i<l.length),l.prod=l[i]*(l.eraseIdx i).prod
 | x :: l,0,_=>by simp
 | x :: l, i + 1, h => by
   have:=Q9 (l:=l) (i:=i) (by simpa using h);simp only[List.eraseIdx_cons_succ,List.prod_cons,List.getElem_cons_succ];rw[this];ac_rfl
theorem Jd {l:List Nat} {i:Nat} (h:i<l.length) (x:Nat):x∈l↔x=l[i]\/x∈l.eraseIdx i:=by
 induction l generalizing i with
 | nil=>simp at h
 | cons y l ih =>
   cases i with
   | zero=>simp
   | succ i =>
     have:=ih (i:=i) (by simpa using h);simp only[List.mem_cons,List.eraseIdx_cons_succ,List.getElem_cons_succ];rw[this];constructor
     ·rintro (h|h|h)
      ·exact .inr (.inl h)
      ·exact .inl h
      ·exact .inr (.inr h)
     ·rintro (h|h|h)
      ·exact .inr (.inl h)
      ·exact .inl h
      ·exact .inr (.inr h)
theorem Yb {l:List Nat} (h:∀ x∈l,2<=x):2 ^ l.length<=l.prod:=by
 induction l with
 | nil=>exact Nat.le_refl _
 | cons x l ih =>
   rw[List.prod_cons,List.length_cons,Nat.pow_succ,Nat.mul_comm];exact Nat.mul_le_mul (h x (by simp)) (ih (fun y hy=>h y (by simp[hy])))
theorem YK {x y:Nat} (hx:1<=x) (hg:2<=Nat.gcd x y):Nat.gcd x y*(x/Nat.gcd x y)*(y/Nat.gcd x y)*2<=x*y:=by
 have gx:=Nat.gcd_dvd_left x y;have gy:=Nat.gcd_dvd_right x y
 have:x*y=Nat.gcd x y*(x/Nat.gcd x y)*(y/Nat.gcd x y)*Nat.gcd x y:=by
  calc x*y=(Nat.gcd x y*(x/Nat.gcd x y))*(Nat.gcd x y*(y/Nat.gcd x y)):=by rw[Nat.mul_div_cancel' gx,Nat.mul_div_cancel' gy]
   _=_:=by ac_rfl
 rw[this];exact Nat.mul_le_mul_left _ hg
structure Fn where
 N:Nat
 P:List (Nat×Nat)
 R:List (Nat×Nat)
 B:Nat
def ks (l:List (Nat×Nat)):List Nat:=l.map Prod.fst
def pk (l:List (Nat×Nat)):Nat:=(l.map fun p=>p.1 ^ p.2).prod
def Inc (l:List (Nat×Nat)):Prop:=(∀ p∈l,2<=p.1/\1<=p.2)/\l.Pairwise (fun a b=>a.1<b.1)
def Jr:Nat->List (Nat×Nat)->Prop
 | n,[]=>n=1
 | n,(p,k) :: l=>mlt p n=k/\Jr (cof p n) l
structure RightN (f:Fn):Prop where
 n1:1<=f.N
 b:f.B<=65536
 incP:Inc f.P
 incR:Inc f.R
 cop:(ks (f.P++f.R)).Pairwise Nat.Coprime
 tk:Jr f.N (f.P++f.R)
 sm:∀ r∈f.R,∀ d,2<=d->d<=f.B->¬ d∣r.1
theorem Qd (a b:List (Nat×Nat)):ks (a++b)=ks a++ks b:=List.map_append
theorem QA (a b:List (Nat×Nat)):pk (a++b)=pk a*pk b:=by unfold pk;rw[List.map_append,List.prod_append_nat]
theorem Qo (p:Nat×Nat) (l:List (Nat×Nat)):pk (p :: l)=p.1 ^ p.2*pk l:=by unfold pk;rw[List.map_cons,List.prod_cons]
theorem YG:pk []=1:=rfl
theorem QW {a b:List (Nat×Nat)} (h:a.Perm b):pk a=pk b:=(h.map _).prod_nat
theorem QE {l:List (Nat×Nat)} {x:Nat}:x∈ks l↔∃ p∈l,p.1=x:=by unfold ks;simp
theorem Qw {l:List (Nat×Nat)} {p:Nat×Nat} (h:p∈l):p.1∈ks l:=List.mem_map.2 ⟨p,h,rfl⟩
def Jh (l:List (Nat×Nat)) (x:Nat):Nat:=((l.find? fun p=>p.1 == x).map Prod.snd).getD 0
theorem Qu {l:List (Nat×Nat)} (h:(ks l).Nodup) {p:Nat×Nat} (hp:p∈l):Jh l p.1=p.2:=by
 induction l with
 | nil=>simp at hp
 | cons q l ih =>
   unfold ks at h;rw[List.map_cons] at h;obtain⟨h1,h2⟩:=List.nodup_cons.1 h;unfold Jh;rcases List.mem_cons.1 hp with rfl|hp
   ·simp
   ·have aA:¬ q.1=p.1:=fun e=>h1 (by rw[e];exact List.mem_map.2 ⟨p,hp,rfl⟩);rw[List.find?_cons_of_neg (by simpa using aA)];exact ih h2 hp
theorem QY {l:List (Nat×Nat)} (h:(ks l).Nodup):pk l=ppw (ks l) (Jh l):=by
 have aA:∀ (a:List (Nat×Nat)) (e:Nat->Nat),(∀ p∈a,e p.1=p.2)->pk a=ppw (ks a) e:=by
  intro a e;induction a with
  | nil=>intro _;rfl
  | cons p a ih =>
    intro he;rw[Qo,ih (fun q hq=>he q (by simp[hq]))];show _=p.1 ^ e p.1*_
    rw[he p (by simp)];rfl
 exact aA l (Jh l) (fun p hp=>Qu h hp)
theorem Inc.big {l:List (Nat×Nat)} (h:Inc l) {x:Nat} (hx:x∈ks l):2<=x:=by
 obtain⟨p,hp,rfl⟩:=QE.1 hx;exact(h.1 p hp).1
theorem RightN.cob {f:Fn} (h:RightN f):Cob (ks (f.P++f.R)):=⟨fun p hp=>by
 rw[Qd] at hp;rcases List.mem_append.1 hp with hp|hp
 ·exact h.incP.big hp
 ·exact h.incR.big hp,h.cop⟩
theorem JA {l:List (Nat×Nat)} (h:∀ p∈l,2<=p.1):∀ {n:Nat},1<=n->Jr n l->n=pk l:=by
 induction l with
 | nil=>intro n _ h;exact h
 | cons p l ih =>
   intro n hn ht;obtain⟨k,m⟩:=p;obtain⟨h1,h2⟩:=ht;obtain⟨s1,s2,s3⟩:=QC (h (k,m) (by simp)) hn;rw[Qo,<- ih (fun q hq=>h q (by simp[hq])) s3 h2,<- h1];exact s1
theorem Jy {l:List (Nat×Nat)} (h:Cob (ks l)):Jr (pk l) l:=by
 induction l with
 | nil=>rfl
 | cons p l ih =>
   have hc:Cob (p.1 :: ks l):=h;have aA:=hc.tail;rw[Qo]
   have hn:¬ p.1∣pk l:=by
    rw[QY aA.nodup];exact Qg hc.head.1 (QL hc.head.2 _)
   have aB:1<=pk l:=by rw[QY aA.nodup];exact aA.pos _
   obtain⟨e1,e2⟩:=Qb7 (n:=p.1 ^ p.2*pk l) hc.head.1 (Nat.mul_pos (Nat.pow_pos (by have:=hc.head.1;omega)) aB) rfl hn;obtain⟨k,m⟩:=p;refine⟨e1,?_⟩;rw[e2];exact ih aA
theorem RightN.prod {f:Fn} (h:RightN f):f.N=pk (f.P++f.R):=
 JA (fun p hp=>h.cob.1 p.1 (Qw hp)) h.n1 h.tk
theorem RightN.of {f:Fn} (hb:f.B<=65536) (hp:Inc f.P) (hr:Inc f.R) (hc:(ks (f.P++f.R)).Pairwise Nat.Coprime) (hN:f.N=pk (f.P++f.R))
  (hs:∀ r∈f.R,∀ d,2<=d->d<=f.B->¬ d∣r.1):RightN f:=by
 have aA:Cob (ks (f.P++f.R)):=⟨fun p hq=>by
  rw[Qd] at hq;rcases List.mem_append.1 hq with hq|hq
  ·exact hp.big hq
  ·exact hr.big hq,hc⟩
 refine⟨?_,hb,hp,hr,hc,?_,hs⟩
 ·rw[hN,QY aA.nodup];exact aA.pos _
 ·rw[hN];exact Jy aA
def Srt (l l':List (Nat×Nat)):Prop:=l'.Perm l/\l'.Pairwise (fun a b=>a.1<=b.1)
theorem Srt.uniq {l a b:List (Nat×Nat)} (hd:(ks l).Nodup) (ha:Srt l a) (hb:Srt l b):a=b:=by
 have hp:a.Perm b:=ha.1.trans hb.1.symm;refine hp.eq_of_pairwise (le:=fun a b=>a.1<=b.1) ?_ ha.2 hb.2;intro x y hx hy h1 h2;have aB:x∈l:=ha.1.mem_iff.1 hx;have aA:y∈l:=hb.1.mem_iff.1 hy;have he:x.1=y.1:=Nat.le_antisymm h1 h2;have e1:=Qu hd aB;have e2:=Qu hd aA;rw[he] at e1;exact Prod.ext he (e1.symm.trans e2)
theorem Srt.perm {l m a:List (Nat×Nat)} (h:Srt l a) (hp:l.Perm m):Srt m a:=⟨h.1.trans hp,h.2⟩
theorem Srt.strict {l a:List (Nat×Nat)} (hd:(ks l).Nodup) (h:Srt l a):a.Pairwise (fun a b=>a.1<b.1):=by
 have hn:(ks a).Nodup:=(h.1.map _).nodup_iff.2 hd;have h2:=h.2;clear h;induction a with
 | nil=>exact List.Pairwise.nil
 | cons p a ih =>
   unfold ks at hn;rw[List.map_cons] at hn;obtain⟨n1,n2⟩:=List.nodup_cons.1 hn;obtain⟨c1,c2⟩:=List.pairwise_cons.1 h2;refine List.pairwise_cons.2 ⟨fun q hq=>?_,ih n2 c2⟩;have:=c1 q hq;rcases Nat.lt_or_ge p.1 q.1 with h|h
   ·exact h
   ·exact absurd (List.mem_map.2 ⟨q,hq,by omega⟩) n1
theorem Srt.inc {l a:List (Nat×Nat)} (hd:(ks l).Nodup) (h:Srt l a) (hl:∀ p∈l,2<=p.1/\1<=p.2):Inc a:=
 ⟨fun p hp=>hl p (h.1.mem_iff.1 hp),h.strict hd⟩
theorem Inc.nodup {l:List (Nat×Nat)} (h:Inc l):(ks l).Nodup:=by
 unfold ks;refine List.Pairwise.map _ (fun a b (hab:a.1<b.1)=>(by omega:a.1≠b.1)) h.2
theorem Inc.uniq {a b:List (Nat×Nat)} (ha:Inc a) (hb:Inc b) (h:∀ p,p∈a↔p∈b):a=b:=by
 have nd:∀ {l:List (Nat×Nat)},Inc l->l.Nodup:=fun hl=>hl.2.imp (fun {x y} h e=>by rw[e] at h;exact Nat.lt_irrefl _ h);have hp:a.Perm b:=(List.perm_ext_iff_of_nodup (nd ha) (nd hb)).2 h;exact hp.eq_of_pairwise (le:=fun a b=>a.1<b.1) (fun x y _ _ h1 h2=>by omega) ha.2 hb.2
def Pri (p:Nat):Prop:=2<=p/\∀ d,2<=d->d<p->¬ d∣p
theorem Qp {n:Nat} (hn:2<=n):∃ p,Pri p/\p∣n:=by
 induction n using Nat.strongRecOn with
 | _ n ih =>
   by_cases h:∃ d,2<=d/\d<n/\d∣n
   ·obtain⟨d,h1,h2,h3⟩:=h;obtain⟨p,hp,hd⟩:=ih d h2 h1;exact⟨p,hp,Nat.dvd_trans hd h3⟩
   ·exact⟨n,⟨hn,fun d h1 h2 h3=>h ⟨d,h1,h2,h3⟩⟩,Nat.dvd_refl _⟩
theorem Pri.cop {p n:Nat} (h:Pri p) (hn:¬ p∣n):Nat.Coprime p n:=by
 have h1:=Nat.gcd_dvd_left p n;have h2:=Nat.gcd_dvd_right p n;have hp:=h.1;have hg:Nat.gcd p n<=p:=Nat.le_of_dvd (by omega) h1;have aA:0<Nat.gcd p n:=Nat.gcd_pos_of_pos_left _ (by omega);rcases Nat.lt_or_ge (Nat.gcd p n) 2 with hl|hl
 ·show Nat.gcd p n=1;omega
 ·rcases Nat.lt_or_ge (Nat.gcd p n) p with hlt|hge
  ·exact absurd h1 (h.2 _ hl hlt)
  ·have:Nat.gcd p n=p:=by omega
   rw[this] at h2;exact absurd h2 hn
theorem Pri.dvd_mul {p a b:Nat} (h:Pri p) (hd:p∣a*b):p∣a\/p∣b:=by
 by_cases ha:p∣a
 ·exact .inl ha
 ·exact .inr ((h.cop ha).dvd_of_dvd_mul_left hd)
theorem Pri.dvd_pow {p a:Nat} (h:Pri p) {k:Nat} (hd:p∣a ^ k):p∣a:=by
 induction k with
 | zero=>rw[Nat.pow_zero] at hd;have:=Nat.le_of_dvd (by omega) hd;have:=h.1;omega
 | succ k ih =>
   rw[Nat.pow_succ] at hd;rcases h.dvd_mul hd with h|h
   ·exact ih h
   ·exact h
theorem Pri.eq {p q:Nat} (hp:Pri p) (hq:Pri q) (h:p∣q):p=q:=by
 have aA:=Nat.le_of_dvd (by have:=hq.1;omega) h;rcases Nat.lt_or_ge p q with h'|h'
 ·exact absurd h (hq.2 p hp.1 h')
 ·omega
theorem Pri.cop' {p q:Nat} (hp:Pri p) (hq:Pri q) (h:p≠q):Nat.Coprime p q:=hp.cop (fun hd=>h (hp.eq hq hd))
theorem Yo {n b:Nat} (hn:2<=n) (h:∀ d,2<=d->d<=b->¬ d∣n) (hs:n<(b+1)*(b+1)):Pri n:=by
 refine⟨hn,fun d h1 h2 h3=>?_⟩;obtain⟨c,rfl⟩:=h3
 have hc:2<=c:=by
  rcases Nat.lt_or_ge c 2 with hlt|hge
  ·exfalso
   have hd:c=0\/c=1:=by omega
   rcases hd with rfl|rfl
   ·omega
   ·omega
  ·exact hge
 rcases Nat.lt_or_ge b d with hd|hd
 ·rcases Nat.lt_or_ge b c with hc'|hc'
  ·have:=Nat.mul_le_mul (show b+1<=d by omega) (show b+1<=c by omega);omega
  ·exact h c hc hc' ⟨d,Nat.mul_comm _ _⟩
 ·exact h d h1 hd ⟨c,rfl⟩
theorem YP {o:List Nat} {e:Nat->Nat} {f:Nat->Bool} (h:∀ p∈o,f p=false->e p=0):ppw (o.filter f) e=ppw o e:=by
 induction o with
 | nil=>rfl
 | cons p o ih =>
   have ih:=ih (fun q hq=>h q (by simp[hq]));rw[List.filter_cons];split
   ·simp only[ppw];rw[ih]
   ·rename_i hp
    simp only[ppw];rw[ih,h p (by simp) (by simpa using hp),Nat.pow_zero,Nat.one_mul]
theorem Cob.sub {o o':List Nat} (h:Cob o) (hs:o'.Sublist o):Cob o':=⟨fun p hp=>h.1 p (hs.subset hp),h.2.sublist hs⟩
theorem Y0 {o:List Nat} {l:List (Nat×Nat)} {E:Nat->Nat->Nat} (h:∀ p∈l,p.1=ppw o (E p.1)) :
  pk l=ppw o (fun x=>(l.map fun p=>p.2*E p.1 x).sum):=by
 induction l with
 | nil=>rw[YG];exact(QF (fun _ _=>rfl)).symm
 | cons p l ih =>
   rw[Qo,ih (fun q hq=>h q (by simp[hq]))];conv=>lhs;lhs;lhs;rw[h p (by simp)]
   rw[JX,Qz];refine Qe (fun x _=>?_);simp[List.sum_cons]
theorem Y5 {l:List Nat} {x:Nat} (h:x∈l) (hx:1<=x):1<=l.sum:=by
 obtain⟨a,b,rfl⟩:=List.append_of_mem h;simp[List.sum_append,List.sum_cons];omega
theorem Cob.append {a b:List Nat} (ha:Cob a) (hb:Cob b) (h:∀ x∈a,∀ y∈b,Nat.Coprime x y):Cob (a++b):=
 ⟨fun p hp=>(List.mem_append.1 hp).elim (ha.1 p) (hb.1 p),List.pairwise_append.2 ⟨ha.2,hb.2,h⟩⟩
theorem Cob.left {a b:List Nat} (h:Cob (a++b)):Cob a:=h.sub (List.sublist_append_left _ _)
theorem Cob.right {a b:List Nat} (h:Cob (a++b)):Cob b:=h.sub (List.sublist_append_right _ _)
theorem Cob.apart {a b:List Nat} (h:Cob (a++b)) {x y:Nat} (hx:x∈a) (hy:y∈b):Nat.Coprime x y:=(List.pairwise_append.1 h.2).2.2 x hx y hy
def QG (n:Nat) (l:List Nat):Nat:=l.foldl (fun n x=>cof x n) n
theorem Yz {l m:List Nat} (h:Cob (l++m)) (e:Nat->Nat):QG (ppw (l++m) e) l=ppw m e:=by
 induction l with
 | nil=>rfl
 | cons p l ih =>
   have hc:Cob (p :: (l++m)):=h;have hp:0<p:=by have:=hc.head.1;omega
   have:cof p (ppw (p :: (l++m)) e)=ppw (l++m) e:=by
    refine(Qb7 (k:=e p) hc.head.1 ?_ rfl ?_).2
    ·exact hc.pos e
    ·exact Qg hc.head.1 (QL hc.head.2 e)
   show QG (cof p (ppw (p :: (l++m)) e)) l=_
   rw[this];exact ih hc.tail
theorem Jb {l:List Nat} (h:Cob l) (e:Nat->Nat):QG (ppw l e) l=1:=by
 have:=Yz (l:=l) (m:=[]) (by simpa using h) e;simpa [ppw] using this
def Qk (N:Nat) (l:List Nat):List (Nat×Nat):=l.map fun x=>(x,mlt x N)
theorem Qv (N:Nat) (l:List Nat):ks (Qk N l)=l:=by unfold ks Qk;rw[List.map_map];exact List.map_id _
theorem Ys {N:Nat} {o:List Nat} (h:Cob o) {e:Nat->Nat} (hN:∀ p∈o,mlt p N=e p):pk (Qk N o)=ppw o e:=by
 rw[QY (by rw[Qv];exact h.nodup),Qv];refine Qe (fun p hp=>?_);have:=Qu (l:=Qk N o) (by rw[Qv];exact h.nodup) (p:=(p,mlt p N)) (List.mem_map.2 ⟨p,hp,rfl⟩);rw[this];exact hN p hp
def RefinesN (f g:Fn):Prop:=f.N=g.N/\∀ p∈g.P++g.R,QG p.1 (ks (f.P++f.R))=1
theorem Qr {N B:Nat} {l1 l2 P R:List (Nat×Nat)} (hc:Cob (ks (l1++l2))) (hN:N=pk (l1++l2)) (hk:∀ p∈l1++l2,1<=p.2) (hP:Srt l1 P) (hR:Srt l2 R) (hB:B<=65536)
  (hs:∀ r∈l2,∀ d,2<=d->d<=B->¬ d∣r.1):RightN ⟨N,P,R,B⟩:=by
 have aA:(P++R).Perm (l1++l2):=hP.1.append hR.1;rw[Qd] at hc;refine RightN.of hB ?_ ?_ ?_ ?_ (fun r hr=>hs r (hR.1.mem_iff.1 hr))
 ·exact hP.inc hc.left.nodup (fun p hp=>⟨hc.1 _ (List.mem_append_left _ (Qw hp)),hk p (List.mem_append_left _ hp)⟩)
 ·exact hR.inc hc.right.nodup (fun p hp=>⟨hc.1 _ (List.mem_append_right _ (Qw hp)),hk p (List.mem_append_right _ hp)⟩)
 ·rw[<- Qd] at hc;exact(hc.perm (aA.symm.map _)).2
 ·exact hN.trans (QW aA.symm)
def sml (B x:Nat):Bool:=decide (x<(B+1)*(B+1))
def QD (f:Fn) (o:List Nat):List Nat:=o.filter fun x=>(ks f.R).any fun r=>decide (x∣r)
def SplitTo (f:Fn) (o:List Nat) (g:Fn):Prop:=
 g.N=f.N/\g.B=f.B/\Srt (f.P++Qk f.N ((QD f o).filter (sml f.B))) g.P/\Srt (Qk f.N ((QD f o).filter (fun x=>!sml f.B x))) g.R
theorem QS (l:List Nat) (p:Nat->Bool):(l.filter p++l.filter (fun x=>!p x)).Perm l:=List.filter_append_perm p l
section split
variable {f:Fn} {d:Nat} {o:List Nat}
theorem QR {x:Nat}:x∈QD f o↔x∈o/\∃ r∈ks f.R,x∣r:=by unfold QD;simp
theorem YQ (hf:RightN f) (h:CB (ks f.R++[d]) o):∃ E:Nat->Nat->Nat,(∀ r∈ks f.R,r=ppw (QD f o) (E r))/\(∀ r∈ks f.R,∀ x∈o,x∣r->1<=E r x):=by
 have:∀ r,∃ e,r∈ks f.R->r=ppw o e:=fun r=>by
  by_cases hr:r∈ks f.R
  ·obtain⟨e,he⟩:=h.gen r (by simp[hr]);exact⟨e,fun _=>he⟩
  ·exact⟨fun _=>0,fun h=>absurd h hr⟩
 obtain⟨E,hE⟩:=Classical.axiomOfChoice this;refine⟨E,fun r hr=>?_,fun r hr x hx hd=>?_⟩
 ·conv=>lhs;rw[hE r hr]
  refine(YP (fun p hp hn=>?_)).symm;rcases Nat.eq_zero_or_pos (E r p) with h0|h0
  ·exact h0
  ·exfalso
   have:p∣r:=by rw[hE r hr];exact Ya hp h0
   have:(ks f.R).any (fun r=>decide (p∣r))=true:=List.any_eq_true.2 ⟨r,hr,by simpa using this⟩;rw[this] at hn;cases hn
 ·have e1:ppw o (YN x)∣ppw o (E r):=by rw[Qm h.cob.nodup hx,<- hE r hr];exact hd
  have:=(Yu h.cob).1 e1 x hx;unfold YN at this;simpa using this
theorem Yi (hf:RightN f) (h:CB (ks f.R++[d]) o):Cob (ks f.P++QD f o):=by
 have hc:=hf.cob;rw[Qd] at hc;refine hc.left.append (h.cob.sub List.filter_sublist) (fun x hx y hy=>?_);obtain⟨-,r,hr,hd⟩:=QR.1 hy;exact((hc.apart hx hr).symm.coprime_dvd_left hd).symm
theorem Yr (hf:RightN f) (h:CB (ks f.R++[d]) o):∃ e:Nat->Nat,f.N=pk f.P*ppw (QD f o) e/\(∀ x∈QD f o,mlt x f.N=e x)/\∀ x∈QD f o,1<=e x:=by
 obtain⟨E,h1,h2⟩:=YQ hf h;have hc:=Yi hf h
 have hN:f.N=pk f.P*ppw (QD f o) (fun x=>(f.R.map fun p=>p.2*E p.1 x).sum):=by
  rw[hf.prod,QA,Y0 (l:=f.R) (fun p hp=>h1 p.1 (Qw hp))]
 refine⟨_,hN,fun x hx=>?_,fun x hx=>?_⟩
 ·have hP:Cob (ks f.P):=hc.left;rw[hN,QY hP.nodup];have e0:ppw (ks f.P) (Jh f.P)=ppw (ks f.P) (fun y=>if y∈ks f.P then Jh f.P y else (f.R.map fun p=>p.2*E p.1 y).sum):=Qe (fun p hp=>by rw[if_pos hp])
  have aA:∀ y∈QD f o,y∉ks f.P:=fun y hy hy'=>by
   have:=hc.apart hy' hy;have hg:Nat.gcd y y=1:=this;rw[Nat.gcd_self] at hg;have:=hc.1 y (List.mem_append_right _ hy);omega
  have e1:ppw (QD f o) (fun x=>(f.R.map fun p=>p.2*E p.1 x).sum)=ppw (QD f o) (fun y=>if y∈ks f.P then Jh f.P y else (f.R.map fun p=>p.2*E p.1 y).sum):=Qe (fun p hp=>by rw[if_neg (aA p hp)]);rw[e0,e1,<- QJ,Q7 hc _ (List.mem_append_right _ hx),if_neg (aA x hx)]
 ·obtain⟨aB,r,hr,hd⟩:=QR.1 hx;obtain⟨p,hp,rfl⟩:=QE.1 hr;have a1:=(hf.incR.1 p hp).2;have a2:=h2 p.1 hr x aB hd;exact Y5 (List.mem_map.2 ⟨p,hp,rfl⟩) (Nat.mul_pos a1 a2)
theorem QT (hf:RightN f) (h:CB (ks f.R++[d]) o) :
  Cob (ks ((f.P++Qk f.N ((QD f o).filter (sml f.B)))++Qk f.N ((QD f o).filter (fun x=>!sml f.B x)))) /\
  f.N=pk ((f.P++Qk f.N ((QD f o).filter (sml f.B)))++Qk f.N ((QD f o).filter (fun x=>!sml f.B x))) /\
  (∀ p∈(f.P++Qk f.N ((QD f o).filter (sml f.B)))++Qk f.N ((QD f o).filter (fun x=>!sml f.B x)),1<=p.2) /\
  (((f.P++Qk f.N ((QD f o).filter (sml f.B)))++Qk f.N ((QD f o).filter (fun x=>!sml f.B x))).Perm (f.P++Qk f.N (QD f o))):=by
 obtain⟨e,e1,e2,e3⟩:=Yr hf h;have hc:=Yi hf h
 have hp:((f.P++Qk f.N ((QD f o).filter (sml f.B)))++Qk f.N ((QD f o).filter (fun x=>!sml f.B x))).Perm (f.P++Qk f.N (QD f o)):=by
  rw[List.append_assoc];refine List.Perm.append_left _ ?_;unfold Qk;rw[<- List.map_append];exact(QS _ _).map _
 refine⟨?_,?_,?_,hp⟩
 ·refine Cob.perm ?_ (hp.symm.map _);show Cob (ks (f.P++Qk f.N (QD f o)))
  rw[Qd,Qv];exact hc
 ·rw[QW hp,QA,Ys hc.right e2,<- e1]
 ·intro p aA;rcases List.mem_append.1 (hp.mem_iff.1 aA) with hm|hm
  ·exact(hf.incP.1 p hm).2
  ·obtain⟨x,hx,rfl⟩:=List.mem_map.1 hm;show 1<=mlt x f.N
   rw[e2 x hx];exact e3 x hx
theorem SplitTo.right {g:Fn} (hf:RightN f) (h:CB (ks f.R++[d]) o) (hg:SplitTo f o g):RightN g:=by
 obtain⟨N,P,R,B⟩:=g;obtain⟨rfl,rfl,g1,g2⟩:=hg;obtain⟨c1,c2,c3,-⟩:=QT hf h;refine Qr c1 c2 c3 g1 g2 hf.b (fun r hr d h2 hB hd=>?_);obtain⟨x,hx,rfl⟩:=List.mem_map.1 hr;obtain⟨-,y,hy,aA⟩:=QR.1 (List.mem_filter.1 hx).1;obtain⟨p,hp,rfl⟩:=QE.1 hy;exact hf.sm p hp d h2 hB (Nat.dvd_trans hd aA)
theorem SplitTo.uniq {g g':Fn} {o':List Nat} (hf:RightN f) (h:CB (ks f.R++[d]) o) (h':CB (ks f.R++[d]) o') (hg:SplitTo f o g) (hg':SplitTo f o' g'):g=g':=by
 have hp:=h.perm h';have hk:(QD f o).Perm (QD f o'):=hp.filter _;obtain⟨N,P,R,B⟩:=g;obtain⟨N',P',R',B'⟩:=g';obtain⟨rfl,rfl,g1,g2⟩:=hg;obtain⟨rfl,rfl,g3,g4⟩:=hg';have hc:=(QT hf h).1;rw[Qd] at hc;have e1:=Srt.uniq hc.left.nodup g1 (g3.perm (((hk.filter _).map _).symm.append_left _));have e2:=Srt.uniq hc.right.nodup g2 (g4.perm (((hk.filter _).map _).symm));dsimp only at e1 e2;rw[e1,e2]
end split
def Jg (f g:Fn):List Nat:=ks f.R++ks g.R++(ks f.P++ks g.P)
def Jc (f g:Fn):List Nat:=ks f.P++ks g.P
def knw (f g:Fn) (x:Nat):Bool:=decide (x∈Jc f g) || sml (max f.B g.B) x
def MergeTo (f g:Fn) (o:List Nat) (c:Fn):Prop:=
 c.N=f.N/\c.B=max f.B g.B/\Srt (Qk f.N (o.filter (knw f g))) c.P/\Srt (Qk f.N (o.filter (fun x=>!knw f g x))) c.R
section merge
variable {f g:Fn} {o:List Nat}
theorem QV (hf:RightN f) (h:CB (Jg f g) o) (hg:RightN g) (hN:f.N=g.N):∃ e:Nat->Nat,f.N=ppw o e/\(∀ x∈o,mlt x f.N=e x)/\∀ x∈o,1<=e x:=by
 have aE:∃ e,f.N=ppw o e:=by
  refine h.cob.closed (l:=Jg f g) h.gen ?_;rw[hf.prod,QY hf.cob.nodup];refine Cls.ppw (fun p hp=>.mem ?_) _;unfold Jg;rw[Qd] at hp;simp only[List.mem_append] at hp |-;rcases hp with hp|hp
  ·exact .inr (.inl hp)
  ·exact .inl (.inl hp)
 obtain⟨e,he⟩:=aE;have hm:∀ x∈o,mlt x f.N=e x:=fun x hx=>by rw[he];exact Q7 h.cob e hx
 refine⟨e,he,hm,fun x hx=>?_⟩;apply Classical.byContradiction
 intro h0;have e0:e x=0:=by omega
 have aC:∀ y∈Jg f g,∃ u:Nat->Nat,y=ppw o u/\u x=0:=by
  intro y hy;obtain⟨u,hu⟩:=h.gen y hy;refine⟨u,hu,?_⟩
  have hd:y∣f.N:=by
   have aA:∀ {c:Fn},RightN c->∀ y∈ks c.P++ks c.R,y∣c.N:=by
    intro c hc y hy;rw[<- Qd] at hy;obtain⟨p,hp,rfl⟩:=QE.1 hy;rw[hc.prod,QY hc.cob.nodup];refine Ya (Qw hp) ?_;rw[Qu hc.cob.nodup hp];rcases List.mem_append.1 hp with hp|hp
    ·exact(hc.incP.1 p hp).2
    ·exact(hc.incR.1 p hp).2
   unfold Jg at hy;simp only[List.mem_append] at hy;rcases hy with (hy|hy)|hy|hy
   ·exact aA hf y (by simp[hy])
   ·rw[hN];exact aA hg y (by simp[hy])
   ·exact aA hf y (by simp[hy])
   ·rw[hN];exact aA hg y (by simp[hy])
  rw[hu,he] at hd;have:=(Yu h.cob).1 hd x hx;omega
 have aD:∀ y,Cls (Jg f g) y->∃ u:Nat->Nat,y=ppw o u/\u x=0:=by
  intro y hy;induction hy with
  | mem h=>exact aC _ h
  | one=>exact⟨fun _=>0,(QF (fun _ _=>rfl)).symm,rfl⟩
  | mul _ _ h1 h2 =>
    obtain⟨u,rfl,hu⟩:=h1;obtain⟨v,rfl,hv⟩:=h2;exact⟨_,Qz o u v,by simp[hu,hv]⟩
  | div _ _ h3 h4 h1 h2 =>
    obtain⟨u,rfl,hu⟩:=h1;obtain⟨v,rfl,hv⟩:=h2;exact⟨_,Y4 h.cob h4,by simp[hu]⟩
  | gcd _ _ h1 h2 =>
    obtain⟨u,rfl,hu⟩:=h1;obtain⟨v,rfl,hv⟩:=h2;exact⟨_,YZ h.cob u v,by simp[hu]⟩
 obtain⟨u,hu,aB⟩:=aD x (h.cls x hx);have hs:ppw o (YN x)=ppw o u:=by rw[Qm h.cob.nodup hx];exact hu
 have:=JN h.cob hs hx;rw[aB] at this;simp[YN] at this
theorem Yx (hf:RightN f) (h:CB (Jg f g) o) (hg:RightN g) (hN:f.N=g.N) (k:Nat->Bool) :
  Cob (ks (Qk f.N (o.filter k)++Qk f.N (o.filter (fun x=>!k x))))/\f.N=pk (Qk f.N (o.filter k)++Qk f.N (o.filter (fun x=>!k x))) /\
  (∀ p∈Qk f.N (o.filter k)++Qk f.N (o.filter (fun x=>!k x)),1<=p.2)/\(Qk f.N (o.filter k)++Qk f.N (o.filter (fun x=>!k x))).Perm (Qk f.N o):=by
 obtain⟨e,e1,e2,e3⟩:=QV hf h hg hN
 have hp:(Qk f.N (o.filter k)++Qk f.N (o.filter (fun x=>!k x))).Perm (Qk f.N o):=by
  unfold Qk;rw[<- List.map_append];exact(QS _ _).map _
 refine⟨?_,?_,?_,hp⟩
 ·refine Cob.perm ?_ (hp.symm.map _);show Cob (ks (Qk f.N o))
  rw[Qv];exact h.cob
 ·rw[QW hp,Ys h.cob e2,<- e1]
 ·intro p aA;obtain⟨x,hx,rfl⟩:=List.mem_map.1 (hp.mem_iff.1 aA);show 1<=mlt x f.N
  rw[e2 x hx];exact e3 x hx
theorem J9 {c:Fn} (hc:RightN c) {p:Nat×Nat} (hp:p∈c.P++c.R):p.1∣c.N:=by
 rw[hc.prod,QY hc.cob.nodup];refine Ya (Qw hp) ?_;rw[Qu hc.cob.nodup hp];rcases List.mem_append.1 hp with hp|hp
 ·exact(hc.incP.1 p hp).2
 ·exact(hc.incR.1 p hp).2
theorem QU {c:Fn} (hc:RightN c) {q:Nat} (hq:Pri q) (hb:q<=c.B) (hd:q∣c.N):∃ p∈c.P,q∣p.1:=by
 have aA:∀ l:List (Nat×Nat),q∣pk l->∃ p∈l,q∣p.1:=by
  intro l;induction l with
  | nil=>intro h;rw[YG] at h;have:=Nat.le_of_dvd (by omega) h;have:=hq.1;omega
  | cons p l ih =>
    intro h;rw[Qo] at h;rcases hq.dvd_mul h with h|h
    ·exact⟨p,by simp,hq.dvd_pow h⟩
    ·obtain⟨p',h1,h2⟩:=ih h;exact⟨p',by simp[h1],h2⟩
 rw[hc.prod] at hd;obtain⟨p,hp,h⟩:=aA _ hd;rcases List.mem_append.1 hp with hp|hp
 ·exact⟨p,hp,h⟩
 ·exact absurd h (hc.sm p hp q hq.1 hb)
theorem MergeTo.right {c:Fn} (hf:RightN f) (h:CB (Jg f g) o) (hg:RightN g) (hN:f.N=g.N) (hk:∀ p∈Jc f g,p∈o) (hc:MergeTo f g o c):RightN c:=by
 obtain⟨N,P,R,B⟩:=c;obtain⟨rfl,rfl,g1,g2⟩:=hc;obtain⟨c1,c2,c3,c4⟩:=Yx hf h hg hN (knw f g);refine Qr c1 c2 c3 g1 g2 (Nat.max_le.2 ⟨hf.b,hg.b⟩) (fun r hr d h2 hB hd=>?_);obtain⟨x,hx,rfl⟩:=List.mem_map.1 hr;obtain⟨aA,aD⟩:=List.mem_filter.1 hx;obtain⟨e,e1,e2,e3⟩:=QV hf h hg hN;have aE:x∣f.N:=by rw[e1];exact Ya aA (e3 x aA)
 obtain⟨q,hq,aF⟩:=Qp h2;have aB:q∣x:=Nat.dvd_trans aF hd;have aI:q<=max f.B g.B:=Qt (Nat.le_of_dvd (by omega) aF) hB
 have:∃ p∈Jc f g,q∣p:=by
  rcases Nat.le_total g.B f.B with hle|hle
  ·obtain⟨p,hp,hd⟩:=QU hf hq (by omega) (Nat.dvd_trans aB aE);exact⟨p.1,List.mem_append_left _ (Qw hp),hd⟩
  ·obtain⟨p,hp,hd⟩:=QU hg hq (by omega) (by rw[<- hN];exact Nat.dvd_trans aB aE);exact⟨p.1,List.mem_append_right _ (Qw hp),hd⟩
 obtain⟨p,hp,aG⟩:=this
 have aH:p≠x:=by
  rintro rfl;unfold knw at aD;simp[hp] at aD
 have aC:Nat.gcd p x=1:=h.cob.cop (hk p hp) aA aH;have:=Nat.dvd_gcd aG aB;rw[aC] at this;have:=Nat.le_of_dvd (by omega) this;have:=hq.1;omega
theorem Q6 {N:Nat} {l:List Nat} (h:l.Nodup):(ks (Qk N l)).Nodup:=by rw[Qv];exact h
theorem MergeTo.uniq {c c':Fn} {o':List Nat} (h:CB (Jg f g) o) (h':CB (Jg f g) o') (hc:MergeTo f g o c) (hc':MergeTo f g o' c'):c=c':=by
 have hp:=h.perm h';obtain⟨N,P,R,B⟩:=c;obtain⟨N',P',R',B'⟩:=c';obtain⟨rfl,rfl,g1,g2⟩:=hc;obtain⟨rfl,rfl,g3,g4⟩:=hc';have e1:=Srt.uniq (Q6 (h.cob.nodup.filter _)) g1 (g3.perm ((hp.filter _).map _).symm);have e2:=Srt.uniq (Q6 (h.cob.nodup.filter _)) g2 (g4.perm ((hp.filter _).map _).symm);dsimp only at e1 e2;rw[e1,e2]
end merge
theorem JB {x:Nat} (hx:2<=x):¬ Nat.Coprime x x:=fun h=>by
 have h:Nat.gcd x x=1:=h;rw[Nat.gcd_self] at h;omega
section
variable {f:Fn} {d:Nat} {o:List Nat}
theorem RightN.cobR (hf:RightN f):Cob (ks f.R):=by have:=hf.cob;rw[Qd] at this;exact this.right
theorem Cob.same {l:List Nat} (h:Cob l) {a b x:Nat} (ha:a∈l) (hb:b∈l) (hx:2<=x) (h1:x∣a) (h2:x∣b):a=b:=by
 apply Classical.byContradiction
 intro aA;have hg:Nat.gcd a b=1:=h.cop ha hb aA;have:=Nat.dvd_gcd h1 h2;rw[hg] at this;have:=Nat.le_of_dvd (by omega) this;omega
theorem Qad (h:CB (ks f.R++[d]) o):∃ e,d=ppw o e:=h.gen d (by simp)
theorem SplitTo.left {g:Fn} (hf:RightN f) (h:CB (ks f.R++[d]) o) (hg:SplitTo f o g):1<=QG d (ks g.R)/\∀ r∈ks g.R,Nat.Coprime (QG d (ks g.R)) r:=by
 have aB:∀ x∈ks g.R,x∈o:=by
  intro r hr;obtain⟨p,hp,rfl⟩:=QE.1 hr;obtain⟨x,hx,rfl⟩:=List.mem_map.1 (hg.2.2.2.1.mem_iff.1 hp);exact(QR.1 (List.mem_filter.1 hx).1).1
 have aC:=(hg.right hf h).cobR.nodup
 have aA:o.Perm (ks g.R++o.filter (fun x=>decide (x∉ks g.R))):=by
  refine(List.perm_ext_iff_of_nodup h.cob.nodup ?_).2 (fun x=>?_)
  ·refine List.nodup_append.2 ⟨aC,h.cob.nodup.filter _,fun a ha b hb e=>?_⟩;subst e;have:=(List.mem_filter.1 hb).2;simp[ha] at this
  ·rw[List.mem_append,List.mem_filter];by_cases hx:x∈ks g.R
   ·simp[hx,aB x hx]
   ·simp[hx]
 have hc:=h.cob.perm aA;obtain⟨e,he⟩:=Qad h;rw[he,QP aA e,Yz hc e];exact⟨hc.right.pos e,fun r hr=>(QL (fun q hq=>hc.apart hr hq) e).symm⟩
end
def trL:List Nat->Nat->List (Nat×Nat)×Nat
 | [],m=>([],m)
 | d :: l,m=>if d∣m then ((d,mlt d m) :: (trL l (cof d m)).1,(trL l (cof d m)).2) else trL l m
def Free (d m:Nat):Prop:=∀ x,2<=x->x<d->¬ x∣m
theorem Free.mono {d m n:Nat} (h:Free d m) (hn:n∣m):Free d n:=fun x h1 h2 h3=>h x h1 h2 (Nat.dvd_trans h3 hn)
theorem Free.pri {d m:Nat} (h:Free d m) (h2:2<=d) (hd:d∣m):Pri d:=⟨h2,fun x h1 h3 h4=>h x h1 h3 (Nat.dvd_trans h4 hd)⟩
theorem QgC (a b:List Nat) (m:Nat):trL (a++b) m=((trL a m).1++(trL b (trL a m).2).1,(trL b (trL a m).2).2):=by
 induction a generalizing m with
 | nil=>rfl
 | cons d a ih =>
   simp only[List.cons_append,trL];split
   ·simp[ih]
   ·rw[ih]
def YR (b:Nat):List Nat:=List.range' 2 (b-1)
theorem YV (k:Nat):∀ (d m:Nat),2<=d->1<=m->Free d m ->
  let r:=trL (List.range' d k) m
  m=pk r.1*r.2/\1<=r.2/\Free (d+k) r.2/\(∀ p∈r.1,Pri p.1/\d<=p.1/\p.1<d+k/\1<=p.2/\Nat.Coprime p.1 r.2)/\r.1.Pairwise (fun a b=>a.1<b.1):=by
 induction k with
 | zero=>intro d m _ hm hf;exact⟨by simp[trL,YG],hm,by simpa [trL] using hf,by simp[trL],by simp[trL]⟩
 | succ k ih =>
   intro d m hd hm hf;rw[List.range'_succ];simp only[trL];split
   ·rename_i hdm
    have hp:=hf.pri hd hdm;obtain⟨s1,s2,s3⟩:=QC hd hm;have aC:cof d m∣m:=⟨d ^ mlt d m,by rw[Nat.mul_comm];exact s1⟩
    have aA:Free (d+1) (cof d m):=fun x h1 h2 h3=>by
     rcases Nat.lt_or_ge x d with h|h
     ·exact hf x h1 h (Nat.dvd_trans h3 aC)
     ·have:x=d:=by omega
      rw[this] at h3;exact s2 h3
    obtain⟨i1,i2,i3,i4,i5⟩:=ih (d+1) (cof d m) (by omega) s3 aA
    have hk:1<=mlt d m:=by
     rcases Nat.eq_zero_or_pos (mlt d m) with h0|h0
     ·rw[h0,Nat.pow_zero,Nat.one_mul] at s1;rw[<- s1] at s2;exact absurd hdm s2
     ·exact h0
    have aB:¬ d∣(trL (List.range' (d+1) k) (cof d m)).2:=fun h=>s2 (Nat.dvd_trans h ⟨_,by rw[Nat.mul_comm];exact i1⟩);refine⟨?_,i2,?_,?_,?_⟩
    ·rw[Qo,Nat.mul_assoc,<- i1];exact s1
    ·rw[show d+(k+1)=d+1+k by omega];exact i3
    ·intro p hpm;rcases List.mem_cons.1 hpm with rfl|hpm
     ·exact⟨hp,Nat.le_refl _,by show d<_;omega,hk,hp.cop aB⟩
     ·obtain⟨a1,a2,a3,a4,a5⟩:=i4 p hpm;exact⟨a1,by omega,by omega,a4,a5⟩
    ·refine List.pairwise_cons.2 ⟨fun p hpm=>?_,i5⟩;have:=(i4 p hpm).2.1;show d<p.1;omega
   ·rename_i hdm
    have aA:Free (d+1) m:=fun x h1 h2 h3=>by
     rcases Nat.lt_or_ge x d with h|h
     ·exact hf x h1 h h3
     ·have:x=d:=by omega
      rw[this] at h3;exact hdm h3
    obtain⟨i1,i2,i3,i4,i5⟩:=ih (d+1) m (by omega) hm aA;refine⟨i1,i2,?_,fun p hpm=>?_,i5⟩
    ·rw[show d+(k+1)=d+1+k by omega];exact i3
    ·obtain⟨a1,a2,a3,a4,a5⟩:=i4 p hpm;exact⟨a1,by omega,by omega,a4,a5⟩
theorem Qgt (k:Nat) (q:Nat->Bool) (hq:∀ p,q p=true↔Pri p):∀ (d m:Nat),2<=d->1<=m->Free d m->trL ((List.range' d k).filter q) m=trL (List.range' d k) m:=by
 induction k with
 | zero=>intro d m _ _ _;rfl
 | succ k ih =>
   intro d m hd hm hf;rw[List.range'_succ,List.filter_cons];split
   ·rename_i hp
    simp only[trL];split
    ·rename_i hdm
     obtain⟨s1,s2,s3⟩:=QC hd hm;have aA:cof d m∣m:=⟨d ^ mlt d m,by rw[Nat.mul_comm];exact s1⟩
     rw[ih (d+1) (cof d m) (by omega) s3 (fun x h1 h2 h3=>by
      rcases Nat.lt_or_ge x d with h|h
      ·exact hf x h1 h (Nat.dvd_trans h3 aA)
      ·have:x=d:=by omega
       rw[this] at h3;exact s2 h3)]
    ·rename_i hdm
     exact ih (d+1) m (by omega) hm (fun x h1 h2 h3=>by
      rcases Nat.lt_or_ge x d with h|h
      ·exact hf x h1 h h3
      ·have:x=d:=by omega
       rw[this] at h3;exact hdm h3)
   ·rename_i hp
    have hdm:¬ d∣m:=fun hdm=>hp ((hq d).2 (hf.pri hd hdm));simp only[trL];rw[if_neg hdm]
    exact ih (d+1) m (by omega) hm (fun x h1 h2 h3=>by
      rcases Nat.lt_or_ge x d with h|h
      ·exact hf x h1 h h3
      ·have:x=d:=by omega
       rw[this] at h3;exact hdm h3)
theorem Jt (m:Nat):Free 2 m:=fun _ h1 h2 _=>by omega
def TrialTo (N B:Nat) (t:Fn):Prop:=
 let r:=trL (YR B) N
 t.N=N/\t.B=B/\Srt (r.1++if r.2≠1/\sml B r.2 then [(r.2,1)] else []) t.P/\Srt (if r.2≠1/\¬ sml B r.2 then [(r.2,1)] else []) t.R
theorem Q3 {N:Nat} (B:Nat) (hN:1<=N) :
  let r:=trL (YR B) N
  N=pk r.1*r.2/\1<=r.2/\Free (B+1) r.2/\(∀ p∈r.1,Pri p.1/\p.1<=B/\1<=p.2/\Nat.Coprime p.1 r.2)/\r.1.Pairwise (fun a b=>a.1<b.1):=by
 obtain⟨h1,h2,h3,h4,h5⟩:=YV (B-1) 2 N (by omega) hN (Jt N);refine⟨h1,h2,?_,fun p hp=>?_,h5⟩
 ·intro x a1 a2 a3;exact h3 x a1 (by omega) a3
 ·obtain⟨a1,a2,a3,a4,a5⟩:=h4 p hp;exact⟨a1,by omega,a4,a5⟩
theorem JY (p:Nat×Nat) {l:List (Nat×Nat)} (h:Srt [p] l):l=[p]:=List.perm_singleton.1 h.1
theorem YY {l:List (Nat×Nat)} (h:Srt [] l):l=[]:=List.perm_nil.1 h.1
theorem QK {l:List (Nat×Nat)} (h:∀ p∈l,Pri p.1) (hp:l.Pairwise (fun a b=>a.1<b.1)):Cob (ks l):=by
 refine⟨fun x hx=>?_,?_⟩
 ·obtain⟨p,hp,rfl⟩:=QE.1 hx;exact(h p hp).1
 ·refine List.pairwise_map.2 (hp.imp_of_mem (fun {a b} ha hb hab=>(h a ha).cop' (h b hb) (by omega)))
theorem TrialTo.right {N B:Nat} {t:Fn} (hN:1<=N) (hB:B<=65536) (h:TrialTo N B t):RightN t/\(∀ p∈t.P,Pri p.1)/\(t.R=[]\/∃ m,t.R=[(m,1)]/\(B+1)*(B+1)<=m):=by
 obtain⟨h1,h2,h3,h4,h5⟩:=Q3 B hN;obtain⟨N',P,R,B'⟩:=t;obtain⟨rfl,rfl,g1,g2⟩:=h;dsimp only at *;generalize hr:trL (YR B') N'=r at *;obtain⟨l,m⟩:=r;dsimp only at *;have aB:Cob (ks l):=QK (fun p hp=>(h4 p hp).1) h5
 have hc:∀ (_:m≠1),Cob (ks (l++[(m,1)])):=fun hm=>by
  rw[Qd];refine aB.append ⟨fun p hp=>?_,List.pairwise_singleton _ _⟩ (fun x hx y hy=>?_)
  ·have:p=m:=by simpa [ks] using hp
   omega
  ·obtain⟨p,hp,rfl⟩:=QE.1 hx;have:y=m:=by simpa [ks] using hy
   rw[this];exact(h4 p hp).2.2.2
 have hk:∀ p∈l++[(m,1)],1<=p.2:=fun p hp=>by
  rcases List.mem_append.1 hp with hp|hp
  ·exact(h4 p hp).2.2.1
  ·rw[List.mem_singleton] at hp;rw[hp];exact Nat.le_refl _
 by_cases hm:m=1
 ·subst hm;rw[if_neg (by simp)] at g1 g2;rw[List.append_nil] at g1;have hR:=YY g2;refine⟨Qr (l1:=l) (l2:=[]) (by simpa using aB) (by simp[h1]) (fun p hp=>(h4 p (by simpa using hp)).2.2.1) g1 g2 hB (fun r hr=>by simp at hr),fun p hp=>(h4 p (g1.1.mem_iff.1 hp)).1,.inl hR⟩
 ·have aA:∀ d,2<=d->d<=B'->¬ d∣m:=fun d a b=>h3 d a (by omega);have aC:N'=pk (l++[(m,1)]):=by rw[QA,Qo,YG];simpa using h1
  by_cases hs:sml B' m=true
  ·rw[if_pos ⟨hm,hs⟩] at g1;rw[if_neg (by simp[hs])] at g2;refine⟨Qr (l1:=l++[(m,1)]) (l2:=[]) (by simpa using hc hm) (by simpa using aC) (fun p hp=>hk p (by simpa using hp)) g1 g2 hB (fun r hr=>by simp at hr),fun p hp=>?_,.inl (YY g2)⟩;rcases List.mem_append.1 (g1.1.mem_iff.1 hp) with hp|hp
   ·exact(h4 p hp).1
   ·rw[List.mem_singleton] at hp;rw[hp];exact Yo (by show 2<=m;omega) aA (by simpa [sml] using hs)
  ·rw[if_neg (by simp[hs])] at g1;rw[if_pos ⟨hm,hs⟩] at g2;rw[List.append_nil] at g1;refine⟨Qr (l1:=l) (l2:=[(m,1)]) (hc hm) aC hk g1 g2 hB (fun r hr d a b=>?_),fun p hp=>(h4 p (g1.1.mem_iff.1 hp)).1,.inr ⟨m,JY _ g2,?_⟩⟩
   ·rw[List.mem_singleton] at hr;rw[hr];exact aA d a b
   ·simpa [sml] using hs
theorem TrialTo.uniq {N B:Nat} {t t':Fn} (hN:1<=N) (h:TrialTo N B t) (h':TrialTo N B t'):t=t':=by
 obtain⟨h1,h2,h3,h4,h5⟩:=Q3 B hN;obtain⟨N1,P,R,B1⟩:=t;obtain⟨N2,P2,R2,B2⟩:=t';obtain⟨rfl,rfl,g1,g2⟩:=h;obtain⟨rfl,rfl,g3,g4⟩:=h';dsimp only at *
 have nd:∀ (c:Prop) [Decidable c],(ks ((trL (YR B2) N2).1++if c then [((trL (YR B2) N2).2,1)] else [])).Nodup\/(trL (YR B2) N2).2=1:=by
  intro c _;by_cases hm:(trL (YR B2) N2).2=1
  ·exact .inr hm
  ·refine .inl ?_;have aA:Cob (ks (trL (YR B2) N2).1):=QK (fun p hp=>(h4 p hp).1) h5;split
   ·rw[Qd];refine(aA.append ⟨fun p hp=>?_,List.pairwise_singleton _ _⟩ (fun x hx y hy=>?_)).nodup
    ·have:p=(trL (YR B2) N2).2:=by simpa [ks] using hp
     omega
    ·obtain⟨p,hp,rfl⟩:=QE.1 hx;have:y=(trL (YR B2) N2).2:=by simpa [ks] using hy
     rw[this];exact(h4 p hp).2.2.2
   ·rw[List.append_nil];exact aA.nodup
 have e1:P=P2:=by
  rcases nd ((trL (YR B2) N2).2≠1/\sml B2 (trL (YR B2) N2).2=true) with h|h
  ·exact Srt.uniq h g1 g3
  ·rw[if_neg (by simp[h]),List.append_nil] at g1 g3;exact Srt.uniq (QK (fun p hp=>(h4 p hp).1) h5).nodup g1 g3
 have e2:R=R2:=by
  refine Srt.uniq ?_ g2 g4;split <;> simp[ks]
 rw[e1,e2]
def Jz (n:Nat):Nat->Nat->Bool
 | 0,_=>false
 | k+1,d=>if n<d*d then true else if n%d=0 then false else Jz n k (d+1)
theorem YL (n:Nat):∀ k d,2<=d->Jz n k d=true->(∀ x,2<=x->x<d->¬ x∣n)->∀ x,2<=x->x<n->¬ x∣n:=by
 intro k;induction k with
 | zero=>intro d _ h;cases h
 | succ k ih =>
   intro d hd h aA;unfold Jz at h;split at h
   ·rename_i hlt
    intro x h1 h2 h3;obtain⟨c,rfl⟩:=h3;rcases Nat.lt_or_ge x d with hx|hx
    ·exact aA x h1 hx ⟨c,rfl⟩
    ·rcases Nat.lt_or_ge c d with hc|hc
     ·have aB:2<=c:=by
       rcases Nat.lt_or_ge c 2 with hlt'|hge
       ·exfalso
        have:c=0\/c=1:=by omega
        rcases this with rfl|rfl <;> omega
       ·exact hge
      exact aA c aB hc ⟨x,Nat.mul_comm _ _⟩
     ·have:=Nat.mul_le_mul hx hc;omega
   ·split at h
    ·cases h
    ·rename_i h2
     exact ih (d+1) (by omega) h (fun x h1 h3 h4=>by
      rcases Nat.lt_or_ge x d with hx|hx
      ·exact aA x h1 hx h4
      ·have:x=d:=by omega
       rw[this] at h4;exact h2 (Nat.mod_eq_zero_of_dvd h4))
theorem Yn {n k:Nat} (hn:2<=n) (h:Jz n k 2=true):Pri n:=
 ⟨hn,YL n k 2 (by omega) h (fun x h1 h2=>by omega)⟩
def prs:List Nat:=[2,3,5,7,11,13,101,1009,65537,1000003,2147483647]
def prN (i:Nat):Nat:=prs.getD (i%11) 0
theorem QX (i:Nat):Pri (prN i):=by
 have h:i%11<11:=Nat.mod_lt _ (by omega);unfold prN;generalize i%11=j at h;have:j=0\/j=1\/j=2\/j=3\/j=4\/j=5\/j=6\/j=7\/j=8\/j=9\/j=10:=by omega
 rcases this with rfl|rfl|rfl|rfl|rfl|rfl|rfl|rfl|rfl|rfl|rfl
 all_goals exact Yn (k:=50000) (by decide) (by decide +kernel)
theorem JW {i j:Nat} (h:prN i=prN j):i%11=j%11:=by
 have h1:i%11<11:=Nat.mod_lt _ (by omega);have h2:j%11<11:=Nat.mod_lt _ (by omega);unfold prN at h;generalize i%11=a at h h1;generalize j%11=b at h h2;have aA:∀ a,a<11->∀ b,b<11->prs.getD a 0=prs.getD b 0->a=b:=by decide
 exact aA a h1 b h2 h
abbrev Tri:=Nat×Nat×Nat
def kN (y:Tri):Nat:=1+y.2.1%3
def aN (y:Tri):Nat:=y.2.2%4
def ppN (y:Tri):Nat:=prN y.1 ^ kN y
def Qab (u:List Tri):List (Nat×Nat):=(u.filter fun y=>decide (aN y=0)).map fun y=>(prN y.1,kN y)
def JF (u:List Tri) (a:Nat):Nat:=((u.filter fun y=>decide (aN y=a)).map ppN).prod
def Qal (u:List Tri):List (Nat×Nat):=([1,2,3].filter fun a=>decide (1<JF u a)).map fun a=>(JF u a,1+a%2)
def J8 (u:List Tri):Nat:=(u.filter fun y=>decide (aN y≠0)).foldl (fun m y=>min m (prN y.1-1)) 65536
def MadeTo (u:List Tri) (b:Nat) (f:Fn):Prop:=
 f.N=pk (Qab u++Qal u)/\Srt (Qab u) f.P/\Srt (Qal u) f.R/\f.B=b%(J8 u+1)
theorem Yk (l:List Tri) (m:Nat):(l.foldl (fun m y=>min m (prN y.1-1)) m)<=m/\∀ y∈l,(l.foldl (fun m y=>min m (prN y.1-1)) m)<=prN y.1-1:=by
 induction l generalizing m with
 | nil=>exact⟨Nat.le_refl _,fun y h=>by simp at h⟩
 | cons z l ih =>
   obtain⟨h1,h2⟩:=ih (min m (prN z.1-1));refine⟨Qt h1 (Nat.min_le_left _ _),fun y hy=>?_⟩;rcases List.mem_cons.1 hy with rfl|hy
   ·exact Qt h1 (Nat.min_le_right _ _)
   ·exact h2 y hy
theorem Yd {x:Nat} {l:List Nat} (h:∀ y∈l,Nat.Coprime x y):Nat.Coprime x l.prod:=by
 induction l with
 | nil=>exact Nat.coprime_one_right x
 | cons y l ih=>rw[List.prod_cons];exact(h y (by simp)).mul_right (ih (fun z hz=>h z (by simp[hz])))
theorem JK {u:List Tri} (hu:(u.map fun y=>y.1%11).Nodup) {y z:Tri} (hy:y∈u) (hz:z∈u) (hne:y≠z) (i j:Nat):Nat.Coprime (prN y.1 ^ i) (prN z.1 ^ j):=by
 refine Nat.Coprime.pow i j ((QX y.1).cop' (QX z.1) (fun h=>?_));have h':=JW h
 have aA:∀ l:List Tri,(l.map fun y=>y.1%11).Nodup->y∈l->z∈l->y=z:=by
  intro l;induction l with
  | nil=>intro _ h;simp at h
  | cons x l ih =>
    intro hn h1 h2;rw[List.map_cons] at hn;obtain⟨n1,n2⟩:=List.nodup_cons.1 hn;rcases List.mem_cons.1 h1 with rfl|h1 <;> rcases List.mem_cons.1 h2 with e|h2
    ·exact e.symm
    ·exact absurd (List.mem_map.2 ⟨z,h2,h'.symm⟩) n1
    ·exact absurd (List.mem_map.2 ⟨y,h1,by rw[<- e];exact h'⟩) n1
    ·exact ih n2 h1 h2
 exact hne (aA u hu hy hz)
theorem QB {q:Nat} (hq:Pri q) {l:List Nat} (h:q∣l.prod):∃ x∈l,q∣x:=by
 induction l with
 | nil=>rw[List.prod_nil] at h;have:=Nat.le_of_dvd (by omega) h;have:=hq.1;omega
 | cons y l ih =>
   rw[List.prod_cons] at h;rcases hq.dvd_mul h with h|h
   ·exact⟨y,by simp,h⟩
   ·obtain⟨x,h1,h2⟩:=ih h;exact⟨x,by simp[h1],h2⟩
theorem Y1 {u:List Tri} {a q:Nat} (hq:Pri q) (h:q∣JF u a):∃ y∈u,aN y=a/\q=prN y.1:=by
 obtain⟨x,hx,hd⟩:=QB hq h;obtain⟨y,hy,rfl⟩:=List.mem_map.1 hx;obtain⟨h1,h2⟩:=List.mem_filter.1 hy;exact⟨y,h1,by simpa using h2,hq.eq (QX _) (hq.dvd_pow hd)⟩
theorem Jk {u:List Tri} (hu:(u.map fun y=>y.1%11).Nodup):Cob (ks (Qab u++Qal u)):=by
 rw[Qd]
 have hk:ks (Qab u)=(u.filter fun y=>decide (aN y=0)).map fun y=>prN y.1:=by
  unfold ks Qab;rw[List.map_map];rfl
 have hr:ks (Qal u)=([1,2,3].filter fun a=>decide (1<JF u a)).map fun a=>JF u a:=by
  unfold ks Qal;rw[List.map_map];rfl
 have aB:u.Nodup:=(List.pairwise_map.1 hu).imp (fun h e=>h (by rw[e]))
 have gc:∀ {x:Tri} {a i:Nat},x∈u->aN x≠a->Nat.Coprime (prN x.1 ^ i) (JF u a):=by
  intro x a i hx aA;refine Yd (fun y hy=>?_);obtain⟨z,hz,rfl⟩:=List.mem_map.1 hy;obtain⟨h1,h2⟩:=List.mem_filter.1 hz;have:aN z=a:=by simpa using h2
  exact JK hu hx h1 (fun e=>aA (by rw[e];exact this)) _ _
 refine Cob.append ⟨fun p hp=>?_,?_⟩ ⟨fun p hp=>?_,?_⟩ ?_
 ·rw[hk] at hp;obtain⟨y,hy,rfl⟩:=List.mem_map.1 hp;exact(QX _).1
 ·rw[hk];refine List.pairwise_map.2 ?_;have:(u.filter fun y=>decide (aN y=0)).Nodup:=aB.filter _;refine this.imp_of_mem (fun {a b} ha hb hab=>?_);have:=JK hu (List.mem_filter.1 ha).1 (List.mem_filter.1 hb).1 hab 1 1;simpa using this
 ·rw[hr] at hp;obtain⟨a,ha,rfl⟩:=List.mem_map.1 hp;have:=(List.mem_filter.1 ha).2;have:1<JF u a:=by simpa using this
  omega
 ·rw[hr];refine List.pairwise_map.2 ?_;have:([1,2,3].filter fun a=>decide (1<JF u a)).Nodup:=(show ([1,2,3]:List Nat).Nodup by decide).filter _;refine this.imp (fun {a b} hab=>?_);refine Nat.Coprime.symm (Yd (fun y hy=>?_));obtain⟨z,hz,rfl⟩:=List.mem_map.1 hy;obtain⟨h1,h2⟩:=List.mem_filter.1 hz;have h2:aN z=a:=by simpa using h2
  exact(gc h1 (by omega)).symm
 ·intro x hx y hy;rw[hk] at hx;rw[hr] at hy;obtain⟨z,hz,rfl⟩:=List.mem_map.1 hx;obtain⟨a,ha,rfl⟩:=List.mem_map.1 hy;obtain⟨h1,h2⟩:=List.mem_filter.1 hz;have h2:aN z=0:=by simpa using h2
  have aC:=(List.mem_filter.1 ha).1;have:=gc (a:=a) (i:=1) h1 (by rw[h2];intro e;subst e;simp at aC);simpa using this
theorem MadeTo.right {u:List Tri} {b:Nat} {f:Fn} (hu:(u.map fun y=>y.1%11).Nodup) (h:MadeTo u b f):RightN f/\∀ p∈f.P,Pri p.1:=by
 obtain⟨N,P,R,B⟩:=f;obtain⟨rfl,g1,g2,rfl⟩:=h;dsimp only at *;have hl:J8 u<=65536:=(Yk _ _).1;have hB:b%(J8 u+1)<=J8 u:=by have:=Nat.mod_lt b (show 0<J8 u+1 by omega);omega
 refine⟨Qr (Jk hu) rfl (fun p hp=>?_) g1 g2 (by omega) (fun r hr d h2 hd hdv=>?_),fun p hp=>?_⟩
 ·rcases List.mem_append.1 hp with hp|hp
  ·obtain⟨y,hy,rfl⟩:=List.mem_map.1 hp;show 1<=kN y;unfold kN;omega
  ·obtain⟨a,ha,rfl⟩:=List.mem_map.1 hp;show 1<=1+a%2;omega
 ·obtain⟨a,ha,rfl⟩:=List.mem_map.1 hr;have aC:a∈[1,2,3]:=(List.mem_filter.1 ha).1;obtain⟨q,hq,aA⟩:=Qp h2;obtain⟨y,hy,h3,h4⟩:=Y1 hq (Nat.dvd_trans aA hdv)
  have aB:y∈u.filter fun y=>decide (aN y≠0):=List.mem_filter.2 ⟨hy,by
   rw[h3];simp at aC |-;omega⟩
  have h5:=(Yk (u.filter fun y=>decide (aN y≠0)) 65536).2 y aB;have h6:q<=d:=Nat.le_of_dvd (by omega) aA;have:=hq.1;unfold J8 at hB hl hd;omega
 ·obtain⟨y,hy,rfl⟩:=List.mem_map.1 (g1.1.mem_iff.1 hp);exact QX _
theorem Jl {l:List Nat} {n:Nat} (hp:l.Pairwise Nat.Coprime) (h:∀ x∈l,x∣n):l.prod∣n:=by
 induction l with
 | nil=>exact Nat.one_dvd _
 | cons x l ih =>
   obtain⟨h1,h2⟩:=List.pairwise_cons.1 hp;rw[List.prod_cons];exact(Yd h1).mul_dvd_of_dvd_of_dvd (h x (by simp)) (ih h2 (fun y hy=>h y (by simp[hy])))
section
variable {f g:Fn} {o:List Nat}
theorem MergeTo.mem {c:Fn} (hc:MergeTo f g o c) (x:Nat):x∈ks c.P↔x∈o/\knw f g x=true:=by
 have:(ks c.P).Perm (o.filter (knw f g)):=by
  have:=hc.2.2.1.1.map Prod.fst;have e:List.map Prod.fst (Qk f.N (o.filter (knw f g)))=o.filter (knw f g):=Qv _ _;rw[e] at this;exact this
 rw[this.mem_iff,List.mem_filter]
def QaH (f t:Fn):Prop:=
 t.N=f.N/\t.B=f.B/\Srt (f.P++f.R.filter (fun p=>sml f.B p.1)) t.P/\Srt (f.R.filter (fun p=>!sml f.B p.1)) t.R
theorem Y3 (hf:RightN f) {l:List (Nat×Nat)} (hl:∀ p∈l,p∈f.P++f.R):Qk f.N (ks l)=l:=by
 unfold Qk ks;rw[List.map_map];conv=>rhs;rw[<- List.map_id l]
 refine List.map_congr_left (fun p hp=>?_);show (p.1,mlt p.1 f.N)=p
 have hm:=hl p hp;rw[hf.prod,QY hf.cob.nodup,Q7 hf.cob _ (Qw hm),Qu hf.cob.nodup hm]
def SettleTo (f:Fn) (i:Nat) (g:Fn):Prop:=
 g.N=f.N/\g.B=f.B/\Srt (f.P++[f.R.getD i (0,0)]) g.P/\Srt (f.R.eraseIdx i) g.R
theorem Q8 {l:List (Nat×Nat)} {i:Nat} (hi:i<l.length):(l.getD i (0,0) :: l.eraseIdx i).Perm l:=by
 induction l generalizing i with
 | nil=>simp at hi
 | cons p l ih =>
   cases i with
   | zero=>exact List.Perm.refl _
   | succ i =>
     have:=ih (i:=i) (by simpa using hi);show (l.getD i (0,0) :: p :: l.eraseIdx i).Perm (p :: l)
     exact(List.Perm.swap _ _ _).trans (this.cons _)
theorem SettleTo.right {i:Nat} (hf:RightN f) (hi:i<f.R.length) (h:SettleTo f i g):RightN g/\g.P.length=f.P.length+1/\g.R.length+1=f.R.length/\f.R.getD i (0,0)∈g.P:=by
 obtain⟨N,P,R,B⟩:=g;obtain⟨rfl,rfl,g1,g2⟩:=h;have hp:=Q8 hi
 have aA:((f.P++[f.R.getD i (0,0)])++f.R.eraseIdx i).Perm (f.P++f.R):=by
  rw[List.append_assoc];exact hp.append_left _
 refine⟨Qr (hf.cob.perm (aA.symm.map _)) (by rw[hf.prod];exact QW aA.symm) (fun p hpm=>?_) g1 g2 hf.b (fun r hr=>hf.sm r (hp.mem_iff.1 (List.mem_cons_of_mem _ hr))),?_,?_,?_⟩
 ·rcases List.mem_append.1 (aA.mem_iff.1 hpm) with h|h
  ·exact(hf.incP.1 p h).2
  ·exact(hf.incR.1 p h).2
 ·show P.length=_;rw[g1.1.length_eq];simp
 ·show R.length+1=_;rw[g2.1.length_eq,List.length_eraseIdx,if_pos hi];omega
 ·exact g1.1.mem_iff.2 (by simp)
theorem SettleTo.uniq {i:Nat} {g':Fn} (hf:RightN f) (hi:i<f.R.length) (h:SettleTo f i g) (h':SettleTo f i g'):g=g':=by
 obtain⟨N,P,R,B⟩:=g;obtain⟨N',P',R',B'⟩:=g';obtain⟨rfl,rfl,g1,g2⟩:=h;obtain⟨rfl,rfl,g3,g4⟩:=h';have hp:=Q8 hi
 have aA:((f.P++[f.R.getD i (0,0)])++f.R.eraseIdx i).Perm (f.P++f.R):=by
  rw[List.append_assoc];exact hp.append_left _
 have hc:Cob (ks ((f.P++[f.R.getD i (0,0)])++f.R.eraseIdx i)):=hf.cob.perm (aA.symm.map _);rw[Qd] at hc;have e1:=Srt.uniq hc.left.nodup g1 g3;have e2:=Srt.uniq hc.right.nodup g2 g4;dsimp only at e1 e2;rw[e1,e2]
end
theorem Yg {l m:List Nat} (hl:l.Nodup) (h:∀ x∈l,x∈m):l.length<=m.length:=by
 induction l generalizing m with
 | nil=>exact Nat.zero_le _
 | cons x l ih =>
   obtain⟨h1,h2⟩:=List.nodup_cons.1 hl;have hx:=h x (by simp);have:=ih (m:=m.erase x) h2 (fun y hy=>(List.mem_erase_of_ne (fun e:y=x=>h1 (by rw[<- e];exact hy))).2 (h y (by simp[hy])));rw[List.length_erase_of_mem hx] at this;have:=List.length_pos_iff.2 (List.ne_nil_of_mem hx);simp;omega
theorem QeV {l m:List Nat} (hl:l.Nodup) (hm:m.Nodup) (h:∀ x∈l,x∈m) (hlen:m.length<=l.length):l.Perm m:=by
 refine(List.perm_ext_iff_of_nodup hl hm).2 (fun x=>⟨h x,fun hx=>?_⟩);apply Classical.byContradiction
 intro hn;have:=Yg (m:=m.erase x) hl (fun y hy=>(List.mem_erase_of_ne (fun e:y=x=>hn (by rw[<- e];exact hy))).2 (h y hy));rw[List.length_erase_of_mem hx] at this;have:=List.length_pos_iff.2 (List.ne_nil_of_mem hx);omega
theorem YJ {f:Fn} {K:List Nat} {E:Nat->Nat->Nat} (hf:RightN f) (hc:Cob (ks f.P++K)) (h1:∀ r∈ks f.R,r=ppw K (E r)) (h2:∀ x∈K,∃ r∈ks f.R,1<=E r x) :
  ∃ e:Nat->Nat,f.N=pk f.P*ppw K e/\(∀ x∈K,mlt x f.N=e x)/\∀ x∈K,1<=e x:=by
 have hN:f.N=pk f.P*ppw K (fun x=>(f.R.map fun p=>p.2*E p.1 x).sum):=by
  rw[hf.prod,QA,Y0 (l:=f.R) (fun p hp=>h1 p.1 (Qw hp))]
 refine⟨_,hN,fun x hx=>?_,fun x hx=>?_⟩
 ·have hP:Cob (ks f.P):=hc.left;rw[hN,QY hP.nodup];have aA:∀ y∈K,y∉ks f.P:=fun y hy hy'=>JB (hc.1 _ (List.mem_append_right _ hy)) (hc.apart hy' hy);have e0:ppw (ks f.P) (Jh f.P)=ppw (ks f.P) (fun y=>if y∈ks f.P then Jh f.P y else (f.R.map fun p=>p.2*E p.1 y).sum):=Qe (fun p hp=>by rw[if_pos hp]);have e1:ppw K (fun x=>(f.R.map fun p=>p.2*E p.1 x).sum)=ppw K (fun y=>if y∈ks f.P then Jh f.P y else (f.R.map fun p=>p.2*E p.1 y).sum):=Qe (fun p hp=>by rw[if_neg (aA p hp)]);rw[e0,e1,<- QJ,Q7 hc _ (List.mem_append_right _ hx),if_neg (aA x hx)]
 ·obtain⟨r,hr,hd⟩:=h2 x hx;obtain⟨p,hp,rfl⟩:=QE.1 hr;exact Y5 (List.mem_map.2 ⟨p,hp,rfl⟩) (Nat.mul_pos (hf.incR.1 p hp).2 hd)
theorem YH {l:List Nat} (hl:∀ p∈l,Pri p) (hn:l.Nodup):∀ {n:Nat},1<=n->n=ppw l (fun p=>mlt p n)*QG n l/\1<=QG n l/\∀ p∈l,¬ p∣QG n l:=by
 induction l with
 | nil=>intro n h;exact⟨by simp[ppw,QG],h,fun p h=>by simp at h⟩
 | cons p l ih =>
   intro n h;obtain⟨n1,n2⟩:=List.nodup_cons.1 hn;have hp:=hl p (by simp);obtain⟨s1,s2,s3⟩:=QC hp.1 h;obtain⟨i1,i2,i3⟩:=ih (fun q hq=>hl q (by simp[hq])) n2 s3;have aB:QG n (p :: l)=QG (cof p n) l:=rfl
   have hm:∀ q∈l,mlt q (cof p n)=mlt q n:=by
    intro q hq;have aA:=hl q (by simp[hq]);obtain⟨t1,t2,t3⟩:=QC aA.1 s3;refine((Qb7 (m:=p ^ mlt p n*cof q (cof p n)) aA.1 h ?_ (fun hd=>?_)).1).symm
    ·calc n=p ^ mlt p n*cof p n:=s1
      _=p ^ mlt p n*(q ^ mlt q (cof p n)*cof q (cof p n)):=by rw[<- t1]
      _=_:=by ac_rfl
    ·rcases aA.dvd_mul hd with hd|hd
     ·have:=aA.eq hp (aA.dvd_pow hd);exact n1 (this▸hq)
     ·exact t2 hd
   refine⟨?_,i2,fun q hq=>?_⟩
   ·rw[aB];show n=p ^ mlt p n*ppw l (fun q=>mlt q n)*QG (cof p n) l
    rw[Nat.mul_assoc,<- Qe (o:=l) (e:=fun q=>mlt q (cof p n)) (fun q hq=>hm q hq),<- i1];exact s1
   ·rw[aB];rcases List.mem_cons.1 hq with rfl|hq
    ·intro hd;exact s2 (Nat.dvd_trans hd ⟨ppw l (fun p=>mlt p (cof q n)),by rw[Nat.mul_comm];exact i1⟩)
    ·exact i3 q hq
def Prm (n:Nat) (l:List Nat):Prop:=l.Nodup/\∀ q,q∈l↔Pri q/\q∣n
theorem Prm.ppw {n:Nat} {l:List Nat} (h:Prm n l) (hn:1<=n):n=ppw l (fun p=>mlt p n)/\∀ p∈l,1<=mlt p n:=by
 obtain⟨h1,h2,h3⟩:=YH (fun p hp=>((h.2 p).1 hp).1) h.1 hn
 have:QG n l=1:=by
  rcases Nat.lt_or_ge (QG n l) 2 with hl|hl
  ·omega
  ·obtain⟨q,hq,hd⟩:=Qp hl;exact absurd hd (h3 q ((h.2 q).2 ⟨hq,Nat.dvd_trans hd ⟨_,by rw[Nat.mul_comm];exact h1⟩⟩))
 refine⟨by rw[this,Nat.mul_one] at h1;exact h1,fun p hp=>?_⟩;obtain⟨hq,hd⟩:=(h.2 p).1 hp;obtain⟨s1,s2,s3⟩:=QC hq.1 hn;rcases Nat.eq_zero_or_pos (mlt p n) with h0|h0
 ·rw[h0,Nat.pow_zero,Nat.one_mul] at s1;rw[<- s1] at s2;exact absurd hd s2
 ·exact h0
def Ye (x:Nat):Bool:=decide (x<1099511627776)
def SearchTo (f:Fn) (pd:Nat->List Nat) (g:Fn):Prop:=
 g.N=f.N/\g.B=f.B/\Srt (f.P++((ks f.R).filter Ye).flatMap fun r=>Qk f.N (pd r)) g.P/\Srt (f.R.filter fun p=>!Ye p.1) g.R
section
variable {f g:Fn} {pd:Nat->List Nat}
def YI (f:Fn) (pd:Nat->List Nat):List Nat:=((ks f.R).filter Ye).flatMap pd
def QH (f:Fn):List Nat:=(ks f.R).filter fun x=>!Ye x
theorem Qdu (hf:RightN f) (hp:∀ r∈ks f.R,Prm r (pd r)):Cob (ks f.P++(YI f pd++QH f)):=by
 have hc:=hf.cob;rw[Qd] at hc;have hR:=hc.right
 have aA:∀ x∈YI f pd,∃ r∈ks f.R,Ye r=true/\Pri x/\x∣r:=by
  intro x hx;obtain⟨r,hr,aB⟩:=List.mem_flatMap.1 hx;obtain⟨h1,h2⟩:=List.mem_filter.1 hr;obtain⟨h3,h4⟩:=((hp r h1).2 x).1 aB;exact⟨r,h1,h2,h3,h4⟩
 have hL:Cob (YI f pd):=by
  refine⟨fun x hx=>(aA x hx).choose_spec.2.2.1.1,?_⟩;unfold YI;refine List.pairwise_flatMap.2 ⟨fun r hr=>?_,?_⟩
  ·have h1:=(List.mem_filter.1 hr).1;refine(hp r h1).1.imp_of_mem (fun {a b} ha hb hab=>?_);exact(((hp r h1).2 a).1 ha).1.cop' (((hp r h1).2 b).1 hb).1 hab
  ·have:((ks f.R).filter Ye).Pairwise Nat.Coprime:=hR.2.sublist List.filter_sublist;refine this.imp_of_mem (fun {r s} hr hs hrs x hx y hy=>?_);have d1:=(((hp r (List.mem_filter.1 hr).1).2 x).1 hx).2;have d2:=(((hp s (List.mem_filter.1 hs).1).2 y).1 hy).2;exact Nat.Coprime.coprime_dvd_left d1 (Nat.Coprime.coprime_dvd_right d2 hrs)
 have hH:Cob (QH f):=hR.sub List.filter_sublist;refine hc.left.append (hL.append hH (fun x hx y hy=>?_)) (fun x hx y hy=>?_)
 ·obtain⟨r,h1,h2,h3,h4⟩:=aA x hx;obtain⟨h5,h6⟩:=List.mem_filter.1 hy;have aC:r≠y:=by rintro rfl;rw[h2] at h6;cases h6
  exact Nat.Coprime.coprime_dvd_left h4 (hR.cop h1 h5 aC)
 ·rcases List.mem_append.1 hy with hy|hy
  ·obtain⟨r,h1,h2,h3,h4⟩:=aA y hy;exact Nat.Coprime.coprime_dvd_right h4 (hc.apart hx h1)
  ·exact hc.apart hx (List.mem_filter.1 hy).1
theorem Yt (N:Nat) (a b:List Nat):Qk N (a++b)=Qk N a++Qk N b:=List.map_append
theorem Je (N:Nat) (l:List Nat) (pd:Nat->List Nat):Qk N (l.flatMap pd)=l.flatMap fun r=>Qk N (pd r):=by unfold Qk;rw[List.map_flatMap]
theorem Yv (hf:RightN f) (hp:∀ r∈ks f.R,Prm r (pd r)):∃ E:Nat->Nat->Nat,(∀ r∈ks f.R,r=ppw (YI f pd++QH f) (E r))/\(∀ x∈YI f pd++QH f,∃ r∈ks f.R,1<=E r x):=by
 have hc:=(Qdu hf hp).right;refine⟨fun r x=>if Ye r=true then (if x∈pd r then mlt x r else 0) else YN r x,fun r hr=>?_,fun x hx=>?_⟩
 ·by_cases hl:Ye r=true
  ·simp only[hl,if_true];have aB:∀ x∈pd r,x∈YI f pd++QH f:=fun x hx=>List.mem_append_left _ (List.mem_flatMap.2 ⟨r,List.mem_filter.2 ⟨hr,hl⟩,hx⟩);have aC:1<=r:=by have:=hf.cobR.1 r hr;omega
   obtain⟨e1,-⟩:=(hp r hr).ppw aC
   have aA:(YI f pd++QH f).Perm (pd r++(YI f pd++QH f).filter fun x=>decide (x∉pd r)):=by
    refine(List.perm_ext_iff_of_nodup hc.nodup ?_).2 (fun x=>?_)
    ·refine List.nodup_append.2 ⟨(hp r hr).1,hc.nodup.filter _,fun a ha b hb e=>?_⟩;subst e;have:=(List.mem_filter.1 hb).2;simp[ha] at this
    ·rw[List.mem_append (s:=pd r),List.mem_filter];by_cases hx:x∈pd r
     ·simp only[hx,true_or,iff_true];exact aB x hx
     ·simp[hx]
   rw[QP aA,QJ,QF (o:=(YI f pd++QH f).filter fun x=>decide (x∉pd r)) (fun x hx=>by
    have:=(List.mem_filter.1 hx).2;rw[if_neg (by simpa using this)]),Nat.mul_one]
   refine e1.trans (Qe (fun x hx=>by rw[if_pos hx]))
  ·simp only[hl,if_false];have:r∈YI f pd++QH f:=List.mem_append_right _ (List.mem_filter.2 ⟨hr,by simpa using hl⟩);exact(Qm hc.nodup this).symm
 ·rcases List.mem_append.1 hx with hx|hx
  ·obtain⟨r,hr,aD⟩:=List.mem_flatMap.1 hx;obtain⟨h1,h2⟩:=List.mem_filter.1 hr;have aC:1<=r:=by have:=hf.cobR.1 r h1;omega
   refine⟨r,h1,?_⟩;simp only[h2,if_true,aD];exact((hp r h1).ppw aC).2 x aD
  ·obtain⟨h1,h2⟩:=List.mem_filter.1 hx;have h2:Ye x=false:=by simpa using h2
   exact⟨x,h1,by simp[h2,YN]⟩
theorem Yq (hf:RightN f) (hp:∀ r∈ks f.R,Prm r (pd r)):((f.P++((ks f.R).filter Ye).flatMap fun r=>Qk f.N (pd r))++f.R.filter fun p=>!Ye p.1).Perm (f.P++Qk f.N (YI f pd++QH f)):=by
 have e:f.R.filter (fun p=>!Ye p.1)=Qk f.N (QH f):=by
  have:QH f=ks (f.R.filter fun p=>!Ye p.1):=by
   unfold QH ks;rw[List.filter_map];rfl
  rw[this,Y3 hf (fun p hp=>List.mem_append_right _ (List.mem_filter.1 hp).1)]
 rw[e,<- Je,List.append_assoc,<- Yt];exact List.Perm.refl _
theorem SearchTo.right (hf:RightN f) (hp:∀ r∈ks f.R,Prm r (pd r)) (h:SearchTo f pd g):RightN g:=by
 obtain⟨N,P,R,B⟩:=g;obtain⟨rfl,rfl,g1,g2⟩:=h;have hc:=Qdu hf hp;obtain⟨E,h1,h2⟩:=Yv hf hp;obtain⟨e,e1,e2,e3⟩:=YJ hf hc h1 h2;have aA:=Yq hf hp;refine Qr ?_ ?_ ?_ g1 g2 hf.b (fun r hr=>hf.sm r (List.mem_filter.1 hr).1)
 ·refine Cob.perm ?_ (aA.symm.map _);show Cob (ks (f.P++Qk f.N (YI f pd++QH f)))
  rw[Qd,Qv];exact hc
 ·rw[QW aA,QA,Ys hc.right e2,<- e1]
 ·intro p aB;rcases List.mem_append.1 (aA.mem_iff.1 aB) with hm|hm
  ·exact(hf.incP.1 p hm).2
  ·obtain⟨x,hx,rfl⟩:=List.mem_map.1 hm;show 1<=mlt x f.N
   rw[e2 x hx];exact e3 x hx
theorem SearchTo.facts (hf:RightN f) (hp:∀ r∈ks f.R,Prm r (pd r)) (h:SearchTo f pd g):(∀ p∈f.P,p∈g.P)/\(∀ p∈g.R,1099511627776<=p.1)/\∀ p∈g.P,p∈f.P\/(Pri p.1/\p.1<1099511627776):=by
 have aB:∀ r∈ks f.R,1<=r->∀ x∈pd r,x<=r:=fun r hr h1 x hx=>Nat.le_of_dvd h1 (((hp r hr).2 x).1 hx).2;refine⟨fun p hp=>h.2.2.1.1.mem_iff.2 (List.mem_append_left _ hp),fun p hpm=>?_,fun p hpm=>?_⟩
 ·have:=(List.mem_filter.1 (h.2.2.2.1.mem_iff.1 hpm)).2;unfold Ye at this;simpa using this
 ·rcases List.mem_append.1 (h.2.2.1.1.mem_iff.1 hpm) with hm|hm
  ·exact .inl hm
  ·obtain⟨r,hr,hx⟩:=List.mem_flatMap.1 hm;obtain⟨h1,h2⟩:=List.mem_filter.1 hr;obtain⟨x,aA,rfl⟩:=List.mem_map.1 hx;obtain⟨h3,h4⟩:=((hp r h1).2 x).1 aA;refine .inr ⟨h3,?_⟩;show x<_
   unfold Ye at h2;have h2:r<1099511627776:=by simpa using h2
   exact Nat.lt_of_le_of_lt (Nat.le_of_dvd (by have:=hf.cobR.1 r h1;omega) h4) h2
end
