/-
  slices.Backward over words, and integer.Low.
-/
import Derived.RangeFuncNested
import Derived.RangeFuncBound
import Derived.RangeFuncCalls
import Derived.RangeFuncLeaves
import Derived.RangeFuncFrom
import Derived.Shelf.Abstract
import Derived.Shelf.RegionOpen
import Derived.WalkKit
import Derived.OwnWalkIn
import Derived.TacticsInMore
import Derived.LoopNIn
import Derived.LoopIn
import Derived.IntWalk
import Derived.Test.YtblebpmlkpobnaaGreatDoorFA
import Derived.Test.YtblebpmlkpobnaaGreatDoorFK1
import Derived.Test.YtblebpmlkpobnaaGreatDoorFS
set_option linter.unusedSimpArgs false
set_option linter.unusedVariables false
set_option maxRecDepth 100000
set_option maxHeartbeats 2000000
namespace Go.Proofs.YtblebpmlkpobnaaGreatDoor
open Go.RowKit Go.Shelf
attribute [local go_sem] Oper.semAt_some
theorem back_in (F : Fence) (n : Nat) (h5 : F.fn 73) (hro : F.round = none) (a : Option Addr) (m c : Nat) (w : World) :
  CallsIn F n Tryz.prog 73 #[.slice a m c] w fun e w' => e = .returned (.func (.func 94) #[] #[.pointer (some ⟨w.heap.size, 0, none⟩)]) /\ w' = w.alloc (.cells #[.slice a m c] 27) := by
 refine callsIn_of_wp Tryz.func73 rfl h5 ?_ hro;simp only [Tryz.ntmps73, List.size_toArray, List.length_cons, List.length_nil, Nat.reduceAdd, Nat.reduceSub, Array.replicate_succ, Array.replicate_zero, List.push_toArray, List.append_toArray, List.nil_append, List.cons_append];gi_wp2
 go_ret
 exact ⟨rfl, rfl⟩
abbrev Un (n : Nat) : Type := { i : Nat // i < n }
def KpB (b1 : Nat) (a : Option Addr) (n : Nat) (f : Nat -> Nat) (W W' : World) : Prop := W'.heap[b1]? = W.heap[b1]? /\ (Wd W a n f -> Wd W' a n f)
def DownTo (n : Nat) (xs : List (Un n)) : Prop := xs.map Subtype.val = (List.range' 0 n).reverse
theorem back_stops (F : Fence) (N : Nat) (h6 : F.fn 94) (hro : F.round = none) (hn : 1 <= N) (b1 : Nat) (a : Option Addr) (n cap : Nat) (f : Nat -> Nat) (hl : n <= 2) (w : World) (hb1 : b1 < w.heap.size)
  (hc1 : w.heap[b1]? = some (.cells #[.slice a n cap] 27 (0, 0))) (hw : Wd w a n f) :
  SeqStopsK F N Tryz.prog 94 #[.pointer (some ⟨b1, 0, none⟩)] (fun x : Un n => #[Value.int .i64 (x.1 : Int), Value.int .u32 (f x.1 : Int)]) (KpB b1 a n f) (DownTo n) (fun _ => True) 3 w := by
 intro lp J Jx W hW _ _ hY h0;have hw1 := (hW.block b1 hb1).trans hc1;have hwd := hw.up hW;have hcell : ∀ {W : World}, W.heap[b1]? = some (.cells #[.slice a n cap] 27 (0, 0)) -> W.cell? ⟨b1, 0, none⟩ = some (.slice a n cap) := fun h => by simp [World.cell?, h]
 have q1 := hcell hw1;have e1 : IntKind.i64.wrap ((n : Int) - 1) = (n : Int) - 1 := IntWalk.i64_in _ (by omega);refine callsIn_of_wp Tryz.func94 rfl h6 ?_ hro;simp only [Tryz.ntmps94, List.size_toArray, List.length_cons, List.length_nil, Nat.reduceAdd, Nat.reduceSub, Array.replicate_succ, Array.replicate_zero, List.push_toArray, List.append_toArray, List.nil_append, List.cons_append];gi_wp2
 gi_loopw [3] (fun s wr => ∃ (k : Nat) (pre : List (Un n)), s = .int .i64 ((k : Int) - 1) /\ k <= n /\ pre.map Subtype.val = (List.range' k (n - k)).reverse /\ J pre wr /\ wr.heap[b1]? = some (.cells #[.slice a n cap] 27 (0, 0)) /\ Wd wr a n f)
  (fun s _ => (intOf s + 1).toNat)
 case atStart => exact ⟨n, [], rfl, Nat.le_refl _, by simp, h0, hw1, hwd⟩
 case round =>
  obtain ⟨k, pre, rfl, hk, hpre, hJ, hv1, hv2⟩ := hrel;have c1 := hcell hv1
  have hplen : pre.length = n - k := by
   have := congrArg List.length hpre;simpa using this
  have HPRE := Lib.hid hpre;have HPL := Lib.hid hplen;clear q1 hw1 hwd e1 hpre;rcases k with _ | k
  ·gi_wp2
   go_end0
   refine ⟨⟨_, rfl⟩, .inl ⟨pre, ?_, hJ⟩⟩;unfold DownTo;rw [HPRE.out, Nat.sub_zero]
  ·obtain ⟨b, off, ha, hb, hc⟩ := hv2.at (i := k) (by omega);subst ha;have hck := hc k (by omega);have i1 : (0 : Int) <= ((k + 1 : Nat) : Int) - 1 := by omega
   have i2 : ((k + 1 : Nat) : Int) - 1 < (n : Int) := by omega
   have i3 : (((k + 1 : Nat) : Int) - 1).toNat = k := by omega
   have i4 : ((k + 1 : Nat) : Int) - 1 = (k : Int) := by omega
   have i5 : (0 : Int) <= (k : Int) := by omega
   have i6 : (k : Int) < (n : Int) := by omega
   have i7 : IntKind.i64.wrap ((k : Int) - 1) = (k : Int) - 1 := IntWalk.i64_in _ (by omega);have hkn : k < n := by omega
   obtain ⟨fn, tmps, assign, body, hy, hR⟩ := hY pre ⟨k, hkn⟩ wr hJ (by omega);dsimp only at hy;rw [i4];clear hc i4 i1 i2 i3 hplen;gi_wp2
   refine hR.mono ?_;rintro e W3 (⟨rfl, hJ3, hk3⟩ | ⟨rfl, hJx3⟩)
   ·have hu1 := hk3.1.trans hv1;have hu2 := hk3.2 hv2;have c3 := hcell hu1;gi_wp2
    go_roundw
    case rel =>
     refine ⟨k, pre ++ [⟨k, hkn⟩], rfl, by omega, ?_, hJ3, hu1, hu2⟩;rw [List.map_append, HPRE.out, show n - k = (n - (k + 1)) + 1 by omega, List.range'_succ, List.reverse_cons];rfl
    case measure => simp [intOf]
   ·gi_wp2
    refine bodyPost_ret (results_none rfl _ _ _) rfl ?_;exact ⟨⟨_, rfl⟩, .inr ⟨_, trivial, hJx3⟩⟩
def fdv (f : Nat -> Nat) (l : List Nat) : Nat := l.foldl (fun v i => v % 4294967296 * 4294967296 + f i) 0
theorem fdv_snoc (f : Nat -> Nat) (l : List Nat) (i : Nat) : fdv f (l ++ [i]) = fdv f l % 4294967296 * 4294967296 + f i := by unfold fdv; rw [List.foldl_append]; rfl
theorem fdv_all {f : Nat -> Nat} {n : Nat} (hf : Wf f n) (hn : n <= 2) : fdv f (List.range' 0 n).reverse = nv f n := by
 rcases n with _ | _ | _ | n
 ·rfl
 ·have := hf 0 (by omega);simp [fdv, nv, List.range']
 ·have h0 := hf 0 (by omega);have h1 := hf 1 (by omega);simp [fdv, nv, List.range']
  omega
 ·omega
structure LwI (w W : World) (D : Nat) (f : Nat -> Nat) (n : Nat) (box : Obj) (l : List (Un n)) : Prop where
 hD : W.heap[D]? = some (.cells #[.int .u64 (fdv f (l.map Subtype.val) : Int)] 81 (0, 0))
 hB : W.heap[w.heap.size]? = some box
 hW : Below w.heap.size w W
end Go.Proofs.YtblebpmlkpobnaaGreatDoor
