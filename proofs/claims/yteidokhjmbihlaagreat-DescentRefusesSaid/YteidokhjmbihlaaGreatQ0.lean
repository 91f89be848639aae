/-
  Short names.
-/
import Derived.Below
namespace Go.Proofs.YteidokhjmbihlaaGreat
theorem Qh {p : Prop} (h : p) : Go.RowKit.Hid p := h
theorem Ql {α : Type} {xs : Array α} {i : Nat} {b : α} (h : xs[i]? = some b) : ∃ h : i < xs.size, xs[i] = b := Array.getElem?_eq_some_iff.1 h
theorem Qt {a b c : Nat} (h : a ≤ b) (k : b ≤ c) : a ≤ c := Nat.le_trans h k
theorem Zk1 (w : Go.World) (o : Go.Obj) : (w.alloc o).heap[w.heap.size]? = some o := Go.heap_alloc_new w o
theorem Zk2 (w : Go.World) (o : Go.Obj) : (w.alloc o).heap.size = w.heap.size + 1 := Go.World.size_alloc w o
theorem Zk3 {α : Type} {l : List α} {i : Nat} {a : α} : l.getD i a = l[i]?.getD a := List.getD_eq_getElem?_getD
theorem Zk4 {α : Type} {l : List α} {i : Nat} (h : i < l.length) : l[i]? = some l[i] := List.getElem?_eq_getElem h
open Go
abbrev Qlr (T:Nat) (s0:Bool) (a0:Option Addr) (n0 k0:Nat):Obj:=.cells #[.bool s0,.slice a0 n0 k0] T
abbrev Qlv (s0:Bool) (a0:Option Addr) (n0 k0:Nat):Value:=.agg #[.bool s0,.slice a0 n0 k0]
abbrev Qls (T:Nat) (s0:Bool) (a0:Option Addr) (n0 k0:Nat) (s1:Bool) (a1:Option Addr) (n1 k1:Nat):Obj:=.cells #[.bool s0,.slice a0 n0 k0,.bool s1,.slice a1 n1 k1] T
abbrev Qlw (s0:Bool) (a0:Option Addr) (n0 k0:Nat) (s1:Bool) (a1:Option Addr) (n1 k1:Nat):Value:=.agg #[.bool s0,.slice a0 n0 k0,.bool s1,.slice a1 n1 k1]
abbrev Qlt (T:Nat) (s0:Bool) (a0:Option Addr) (n0 k0:Nat) (s1:Bool) (a1:Option Addr) (n1 k1:Nat) (s2:Bool) (a2:Option Addr) (n2 k2:Nat):Obj:=.cells #[.bool s0,.slice a0 n0 k0,.bool s1,.slice a1 n1 k1,.bool s2,.slice a2 n2 k2] T
abbrev Qlx (s0:Bool) (a0:Option Addr) (n0 k0:Nat) (s1:Bool) (a1:Option Addr) (n1 k1:Nat) (s2:Bool) (a2:Option Addr) (n2 k2:Nat):Value:=.agg #[.bool s0,.slice a0 n0 k0,.bool s1,.slice a1 n1 k1,.bool s2,.slice a2 n2 k2]
abbrev Qlu (T:Nat) (s0:Bool) (a0:Option Addr) (n0 k0:Nat) (s1:Bool) (a1:Option Addr) (n1 k1:Nat) (s2:Bool) (a2:Option Addr) (n2 k2:Nat) (s3:Bool) (a3:Option Addr) (n3 k3:Nat):Obj:=.cells #[.bool s0,.slice a0 n0 k0,.bool s1,.slice a1 n1 k1,.bool s2,.slice a2 n2 k2,.bool s3,.slice a3 n3 k3] T
abbrev Qly (s0:Bool) (a0:Option Addr) (n0 k0:Nat) (s1:Bool) (a1:Option Addr) (n1 k1:Nat) (s2:Bool) (a2:Option Addr) (n2 k2:Nat) (s3:Bool) (a3:Option Addr) (n3 k3:Nat):Value:=.agg #[.bool s0,.slice a0 n0 k0,.bool s1,.slice a1 n1 k1,.bool s2,.slice a2 n2 k2,.bool s3,.slice a3 n3 k3]
abbrev Qlz (T:Nat) (s0:Bool) (a0:Option Addr) (n0 k0:Nat) (s1:Bool) (a1:Option Addr) (n1 k1:Nat) (b0:Option Addr) (m0 c0:Nat) (b1:Option Addr) (m1 c1:Nat) (b2:Option Addr) (m2 c2:Nat) (b3:Option Addr) (m3 c3:Nat):Obj:=.cells #[.bool s0,.slice a0 n0 k0,.bool s1,.slice a1 n1 k1,.slice b0 m0 c0,.slice b1 m1 c1,.slice b2 m2 c2,.slice b3 m3 c3] T
end Go.Proofs.YteidokhjmbihlaaGreat
