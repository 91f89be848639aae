/-
  The curve of a description is not refused.
-/
import Derived.Test.YteidokhjmbihlaaGreatDT
import Derived.Test.YteidokhjmbihlaaGreatDR
set_option linter.unusedSimpArgs false
set_option linter.unusedVariables false
namespace Go.Proofs.YteidokhjmbihlaaGreat
theorem Qjo {a b:Int} (h:QjX a b):Qab a b=0/\sz a<=2/\sz b<=2:=by
 obtain ⟨h1,h2,h3,h4,h5,h6⟩:=h
 have q1:a*a<=400:=by
  have h7:a.natAbs*a.natAbs<=20*20:=Nat.mul_le_mul (by omega) (by omega);rw [<- Int.natAbs_mul] at h7;omega
 have q0:=Qb5 a;refine ⟨?_,QbI (by omega),QbI (by omega)⟩;unfold Qab;rw [if_neg (by omega),if_neg (by omega)]
end Go.Proofs.YteidokhjmbihlaaGreat
