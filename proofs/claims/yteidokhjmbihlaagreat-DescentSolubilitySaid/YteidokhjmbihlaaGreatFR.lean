/-
  factor.Merge.
-/
import Derived.Test.YteidokhjmbihlaaGreatFQ1
set_option linter.unusedSimpArgs false
set_option linter.unusedVariables false
namespace Go.Proofs.YteidokhjmbihlaaGreat
open Go.RowKit
attribute [local go_sem ↓] Go.wp_at_zero Go.wp_at_succ
theorem Ss.lit2 {α : Type} {E:Elt α} {w:World} (T:TypeId) (a1 a2:Option Addr) (n1 n2 c1 c2:Nat) (l1 l2:List α) (h1n:l1.length=n1) (h2n:l2.length=n2) (h1:Sr E w (.slice a1 n1 c1) l1) (h2:Sr E w (.slice a2 n2 c2) l2) :
  Ss E (w.alloc (.cells #[.slice a1 n1 c1,.slice a2 n2 c2] T)) (.slice (some ⟨w.heap.size,0,none⟩) 2 2) [l1,l2]:=
 ⟨_,_,fun i=>if i=0 then .slice a1 n1 c1 else .slice a2 n2 c2,rfl,(Own.lit w #[.slice a1 n1 c1,.slice a2 n2 c2] T 2 _ rfl (fun i hi=>by
   have:i=0\/i=1:=by omega
   rcases this with rfl|rfl <;> rfl)).cl,fun i hi=>by
  have hi':i=0\/i=1:=by simp at hi;omega
  rcases hi' with rfl|rfl
  ·exact h1.alloc _
  ·exact h2.alloc _⟩
end Go.Proofs.YteidokhjmbihlaaGreat
