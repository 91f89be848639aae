/-
  What DescentClasses says, without the program: classes modulo squares.
-/
import Derived.Test.YteidokhjmbihlaaGreatDQ
import Derived.Test.YteidokhjmbihlaaGreatDR
import Derived.Test.YteidokhjmbihlaaGreatDH
set_option linter.all false
namespace Go.Proofs.YteidokhjmbihlaaGreat
theorem Qy {z f:Int}:FrZ z f↔SqF f.natAbs/\f≠0/\∃ k:Int,k≠0/\z=f*(k*k):=by
 constructor
 ·rintro⟨⟨h1,h2,k,hk,e⟩,h3,h4⟩;refine⟨h1,h4,(k:Int),by omega,?_⟩;have hz:z.natAbs=(f*((k:Int)*(k:Int))).natAbs:=by rw[e,Int.natAbs_mul,Int.natAbs_mul];rfl
  have hp:0<(k:Int)*(k:Int):=JE (by omega);rcases Int.natAbs_eq_natAbs_iff.1 hz with h|h
  ·exact h
  ·exfalso
   rcases Int.lt_trichotomy f 0 with hf|hf|hf
   ·have:=Int.mul_neg_of_neg_of_pos hf hp;omega
   ·omega
   ·have:=Int.mul_pos hf hp;omega
 ·rintro⟨h1,h2,k,hk,e⟩;have aA:=JE hk;refine⟨⟨h1,by omega,k.natAbs,by omega,by rw[e,Int.natAbs_mul,Int.natAbs_mul]⟩,?_,h2⟩;rw[e];constructor
  ·intro hp;rcases Int.lt_trichotomy f 0 with hf|hf|hf
   ·have:=Int.mul_neg_of_neg_of_pos hf aA;omega
   ·omega
   ·exact hf
  ·intro hf;exact Int.mul_pos hf aA
theorem FrZ.by {z y f k l:Int} (h:FrZ z f) (hk:k≠0) (hy:y≠0) (e:z*(k*k)=y*(l*l)) (hl:l≠0):FrZ y f:=by
 obtain⟨g,hg⟩:=Qae hy;obtain⟨a1,a2,a,ha,ea⟩:=Qy.1 h;obtain⟨b1,b2,b,hb,eb⟩:=Qy.1 hg;have h1:FrZ (z*(k*k)) f:=Qy.2 ⟨a1,a2,a*k,Int.mul_ne_zero ha hk,by rw[ea];ac_rfl⟩;have h2:FrZ (y*(l*l)) g:=Qy.2 ⟨b1,b2,b*l,Int.mul_ne_zero hb hl,by rw[eb];ac_rfl⟩;rw[e] at h1;rw[h1.uniq h2];exact hg
theorem FrZ.sqr {z o:Int} (h:FrZ (z*z) o) (hz:z≠0):o=1:=(h.by (k:=1) (l:=z) (y:=1) (by decide) (by decide) (by simp) hz).uniq (Qy.2 ⟨SqF.one,by decide,1,by decide,by decide⟩)
theorem FrZ.self {z f g:Int} (h:FrZ z f) (h':FrZ f g):g=f:=h'.uniq (Qy.2 ⟨(Qy.1 h).1,(Qy.1 h).2.1,1,by decide,by simp⟩)
