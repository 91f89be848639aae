/-
  Short names.
-/
import Derived.Below
namespace Go.Proofs.YteidokhjmbihlaaGreat
theorem Qh {p : Prop} (h : p) : Go.RowKit.Hid p := h
theorem Ql {α : Type} {xs : Array α} {i : Nat} {b : α} (h : xs[i]? = some b) : ∃ h : i < xs.size, xs[i] = b := Array.getElem?_eq_some_iff.1 h
theorem Qt {a b c : Nat} (h : a ≤ b) (k : b ≤ c) : a ≤ c := Nat.le_trans h k
end Go.Proofs.YteidokhjmbihlaaGreat
