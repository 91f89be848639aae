/-
  law29.DescentClasses: the walk.
-/
import Derived.Test.YteidokhjmbihlaaGreatDQ
import Derived.Test.YteidokhjmbihlaaGreatDR
import Derived.Test.YteidokhjmbihlaaGreatDH
import Derived.Test.YteidokhjmbihlaaGreatFM
import Derived.Test.YteidokhjmbihlaaGreatFN
import Derived.Test.YteidokhjmbihlaaGreatDC
import Derived.Test.YteidokhjmbihlaaGreatDV
import Derived.Test.YteidokhjmbihlaaGreatDT
import Derived.Test.YteidokhjmbihlaaGreatDS
set_option linter.all false
set_option maxHeartbeats 8000000
namespace Go.Proofs.YteidokhjmbihlaaGreat
theorem Y0 {z f:Int}:FrZ z f↔SqF f.natAbs/\f≠0/\∃ k:Int,k≠0/\z=f*(k*k):=by
 constructor
 ·rintro⟨⟨h1,h2,k,hk,e⟩,h3,h4⟩;refine⟨h1,h4,(k:Int),by omega,?_⟩;have hz:z.natAbs=(f*((k:Int)*(k:Int))).natAbs:=by rw[e,Int.natAbs_mul,Int.natAbs_mul];rfl
  have hp:0<(k:Int)*(k:Int):=QcY (by omega);rcases Int.natAbs_eq_natAbs_iff.1 hz with h|h
  ·exact h
  ·exfalso
   rcases Int.lt_trichotomy f 0 with hf|hf|hf
   ·have:=Int.mul_neg_of_neg_of_pos hf hp;omega
   ·omega
   ·have:=Int.mul_pos hf hp;omega
 ·rintro⟨h1,h2,k,hk,e⟩;have hk2:=QcY hk;refine⟨⟨h1,by omega,k.natAbs,by omega,by rw[e,Int.natAbs_mul,Int.natAbs_mul]⟩,?_,h2⟩;rw[e];constructor
  ·intro hp;rcases Int.lt_trichotomy f 0 with hf|hf|hf
   ·have:=Int.mul_neg_of_neg_of_pos hf hk2;omega
   ·omega
   ·exact hf
  ·intro hf;exact Int.mul_pos hf hk2
theorem FrZ.by {z y f k l:Int} (h:FrZ z f) (hk:k≠0) (hy:y≠0) (e:z*(k*k)=y*(l*l)) (hl:l≠0):FrZ y f:=by
 obtain⟨g,hg⟩:=Qgi hy;obtain⟨a1,a2,a,ha,ea⟩:=Y0.1 h;obtain⟨b1,b2,b,hb,eb⟩:=Y0.1 hg;have h1:FrZ (z*(k*k)) f:=Y0.2 ⟨a1,a2,a*k,Int.mul_ne_zero ha hk,by rw[ea];ac_rfl⟩;have h2:FrZ (y*(l*l)) g:=Y0.2 ⟨b1,b2,b*l,Int.mul_ne_zero hb hl,by rw[eb];ac_rfl⟩;rw[e] at h1;rw[h1.uniq h2];exact hg
theorem QlC {n d:Int} (hd:d≠0):rG n d≠0:=by
 have h:0<Int.gcd n d:=Int.gcd_pos_of_ne_zero_right n hd;unfold rG;split <;> omega
theorem rND {n d:Int} (hd:d≠0):n=rN n d*rG n d/\d=rD n d*rG n d:=by
 have h1:rG n d∣n:=by unfold rG;split;exact Int.neg_dvd.2 (Int.gcd_dvd_left ..);exact Int.gcd_dvd_left ..
 have h2:rG n d∣d:=by unfold rG;split;exact Int.neg_dvd.2 (Int.gcd_dvd_right ..);exact Int.gcd_dvd_right ..
 unfold rN rD;rw[if_neg hd,if_neg hd];exact⟨(Int.ediv_mul_cancel h1).symm,(Int.ediv_mul_cancel h2).symm⟩
theorem QaB {z a g:Int} (e:z=a*g) (hg:g≠0):a.natAbs<=z.natAbs:=by
 rw[e,Int.natAbs_mul];exact Nat.le_mul_of_pos_right _ (by omega)
theorem FrZ.sqr {z o:Int} (h:FrZ (z*z) o) (hz:z≠0):o=1:=(h.by (k:=1) (l:=z) (y:=1) (by decide) (by decide) (by simp) hz).uniq (Y0.2 ⟨SqF.one,by decide,1,by decide,by decide⟩)
theorem FrZ.dvl {z f:Int} (h:FrZ z f):f.natAbs<=z.natAbs:=by
 obtain⟨-,-,k,hk,e⟩:=Y0.1 h;exact QaB e (Int.mul_ne_zero hk hk)
theorem FrZ.self {z f g:Int} (h:FrZ z f) (h':FrZ f g):g=f:=h'.uniq (Y0.2 ⟨(Y0.1 h).1,(Y0.1 h).2.1,1,by decide,by simp⟩)
open Go.RowKit
attribute [local go_sem ↓] Go.wp_at_zero Go.wp_at_succ
