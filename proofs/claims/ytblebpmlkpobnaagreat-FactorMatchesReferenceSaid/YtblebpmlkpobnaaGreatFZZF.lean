/-
  The reference of factor: Settle.
-/
import Derived.Test.YtblebpmlkpobnaaGreatFZD2
import Derived.Test.YtblebpmlkpobnaaGreatFZW
set_option linter.unusedSimpArgs false
set_option linter.unusedVariables false
set_option maxRecDepth 100000
set_option maxHeartbeats 4000000
namespace Go.Proofs.YtblebpmlkpobnaaGreat
open Go.RowKit
attribute [local go_sem ↓] Go.wp_at_zero Go.wp_at_succ
def tp4 (b : Nat -> Bool) : Nat := if b 15 = true then 15 else if b 14 = true then 14 else if b 7 = true then 7 else if b 4 = true then 4 else 0
def Cn4 (l : List (Int × Int)) (q : Int × Int) (j : Nat) (m : List (Int × Int)) : Prop := (j = 4 -> m = []) /\ (j = 7 -> m = l) /\ (j = 14 -> m = l ++ [q]) /\ (j = 15 -> SrtZ (l ++ [q]) m)
structure SeJ (l : List (Int × Int)) (q : Int × Int) (mk : Value -> Value) (W0 : World) (b : Nat -> Bool) (x : Nat -> Value) (W : World) : Prop where
 bl : Below W0.heap.size W0 W
 o15 : b 15 = true -> b 14 = true
 o14 : b 14 = true -> b 7 = true /\ b 13 = true
 o7 : b 7 = true -> b 4 = true
 sT : tp4 b ≠ 0 -> ∃ m, So eP W W0.heap.size (x (tp4 b)) m /\ Cn4 l q (tp4 b) m
 s13 : b 13 = true -> ∃ D, x 13 = .slice (some ⟨D, 0, none⟩) 1 1 /\ D < W.heap.size /\ Sc eP W D 0 [q] /\ (tp4 b ≠ 0 -> (x (tp4 b)).ownBlock ≠ some D)
 v17 : b 17 = true -> ∃ D, x 17 = .pointer (some ⟨D, 0, none⟩) /\ W0.heap.size <= D /\ W.heap[D]? = some (.cells #[.bool false, .slice none 0 0, .slice none 0 0, .slice none 0 0, .int .i64 0] 36 (0, 0)) /\ (tp4 b ≠ 0 -> (x (tp4 b)).ownBlock ≠ some D)
 e16 : b 16 = true -> b 15 = true /\ x 16 = mk (x 15)
section
variable {l : List (Int × Int)} {q : Int × Int} {mk : Value -> Value} {W0 W W' : World} {b : Nat -> Bool} {x : Nat -> Value}
theorem SeJ.start (l : List (Int × Int)) (q : Int × Int) (mk : Value -> Value) (W0 : World) (x : Nat -> Value) : SeJ l q mk W0 (fun _ => false) x W0.drew := ⟨(Below.refl _ _).drew, (fun h => nomatch h), (fun h => nomatch h), (fun h => nomatch h), (fun h => absurd rfl h), (fun h => nomatch h), (fun h => nomatch h), fun h => nomatch h⟩
theorem tp4_ne {b : Nat -> Bool} {i : Nat} (h : i ≠ 15 /\ i ≠ 14 /\ i ≠ 7 /\ i ≠ 4) : tp4 (fset b i true) = tp4 b := by
 unfold tp4;rw [fset_ne _ _ (Ne.symm h.1), fset_ne _ _ (Ne.symm h.2.1), fset_ne _ _ (Ne.symm h.2.2.1), fset_ne _ _ (Ne.symm h.2.2.2)]
theorem tp4_mem (b : Nat -> Bool) : tp4 b = 0 \/ tp4 b = 4 \/ tp4 b = 7 \/ tp4 b = 14 \/ tp4 b = 15 := by
 unfold tp4;split
 ·simp
 ·split
  ·simp
  ·split
   ·simp
   ·split <;> simp
theorem SeJ.next (h : SeJ l q mk W0 b x W) {j : Nat} (hj : j = 4 \/ j = 7 \/ j = 14 \/ j = 15) (hbj : b j = false) (ht : tp4 (fset b j true) = j) (o15 : j = 15 -> b 14 = true) (o14 : j = 14 -> b 7 = true /\ b 13 = true) (o7 : j = 7 -> b 4 = true) {v : Value} {m : List (Int × Int)} (hv : So eP W' W0.heap.size v m) (hc : Cn4 l q j m)
  (hb : ButS (fun k => tp4 b ≠ 0 /\ (x (tp4 b)).ownBlock = some k) W W') (hg : ∀ g, v.ownBlock = some g -> (tp4 b ≠ 0 /\ (x (tp4 b)).ownBlock = some g) \/ W.heap.size <= g) :
  SeJ l q mk W0 (fset b j true) (fset x j v) W' := by
 have hst : ∀ g, (tp4 b ≠ 0 /\ (x (tp4 b)).ownBlock = some g) -> W0.heap.size <= g /\ NoW W g := fun g hg => by
  obtain ⟨m, hm, -⟩ := h.sT hg.1;exact ⟨(hm.lt g hg.2).1, hm.nw g hg.2⟩
 have mono : ∀ {k : Nat}, b k = true -> fset b j true k = true := fun {k} e => by
  rcases Nat.decEq k j with hn | hn
  ·rw [fset_ne _ _ hn]; exact e
  ·rw [hn, fset_same]
 refine ⟨ButS.below h.bl hb h.bl.size (fun g e => (hst g e).1), fun p => ?_, fun p => ?_, fun p => ?_, fun _ => ?_, fun p => ?_, fun p => ?_, fun p => ?_⟩
 ·rcases Nat.decEq 15 j with hn | hn
  ·rw [fset_ne _ _ hn] at p; exact mono (h.o15 p)
  ·exact mono (o15 hn.symm)
 ·rcases Nat.decEq 14 j with hn | hn
  ·rw [fset_ne _ _ hn] at p; exact ⟨mono (h.o14 p).1, mono (h.o14 p).2⟩
  ·exact ⟨mono (o14 hn.symm).1, mono (o14 hn.symm).2⟩
 ·rcases Nat.decEq 7 j with hn | hn
  ·rw [fset_ne _ _ hn] at p; exact mono (h.o7 p)
  ·exact mono (o7 hn.symm)
 ·rw [ht, fset_same]; exact ⟨m, hv, hc⟩
 ·have hn : 13 ≠ j := by omega
  rw [fset_ne _ _ hn] at p |-;obtain ⟨D, e1, e2, e3, e4⟩ := h.s13 p;refine ⟨D, e1, Nat.lt_of_lt_of_le e2 hb.size, e3.fr hb (fun g hg => (hst g hg).2) e2 (fun hs => e4 hs.1 hs.2), fun _ => ?_⟩;rw [ht, fset_same];intro e;rcases hg D e with hs | hs
  ·exact e4 hs.1 hs.2
  ·omega
 ·have hn : 17 ≠ j := by omega
  rw [fset_ne _ _ hn] at p |-;obtain ⟨D, e1, e2, e3, e4⟩ := h.v17 p;have hlt := (Array.getElem?_eq_some_iff.1 e3).1;refine ⟨D, e1, e2, (hb.block _ hlt (fun hs => e4 hs.1 hs.2)).trans e3, fun _ => ?_⟩;rw [ht, fset_same];intro e;rcases hg D e with hs | hs
  ·exact e4 hs.1 hs.2
  ·omega
 ·have hn : 16 ≠ j := by omega
  rw [fset_ne _ _ hn] at p |-;have := h.e16 p;have hn2 : 15 ≠ j := fun e => by rw [<- e, this.1] at hbj; cases hbj
  rw [fset_ne _ _ hn2, fset_ne _ _ hn2]; exact this
theorem SeJ.cur (h : SeJ l q mk W0 b x W) {j : Nat} (ht : tp4 b = j) (hj : j ≠ 0) : ∃ m, So eP W W0.heap.size (x j) m /\ Cn4 l q j m := by
 have := h.sT (by rw [ht]; exact hj);rw [ht] at this; exact this
theorem SeJ.fl (h : SeJ l q mk W0 b x W) : (b 4 = false -> b 7 = false) /\ (b 7 = false -> b 14 = false) /\ (b 14 = false -> b 15 = false) := by
 refine ⟨fun e => ?_, fun e => ?_, fun e => ?_⟩
 ·cases e7 : b 7 with
  | false => rfl
  | true => have := h.o7 e7; rw [e] at this; cases this
 ·cases e7 : b 14 with
  | false => rfl
  | true => have := (h.o14 e7).1; rw [e] at this; cases this
 ·cases e7 : b 15 with
  | false => rfl
  | true => have := h.o15 e7; rw [e] at this; cases this
theorem SeJ.t4 (h : SeJ l q mk W0 b x W) (h4 : b 4 = false) : tp4 b = 0 /\ tp4 (fset b 4 true) = 4 := by
 obtain ⟨f1, f2, f3⟩ := h.fl;have h7 := f1 h4;have h14 := f2 h7;have h15 := f3 h14;constructor <;> simp [tp4, fset, h4, h7, h14, h15]
theorem SeJ.t7 (h : SeJ l q mk W0 b x W) (h4 : b 4 = true) (h7 : b 7 = false) : tp4 b = 4 /\ tp4 (fset b 7 true) = 7 := by
 obtain ⟨f1, f2, f3⟩ := h.fl;have h14 := f2 h7;have h15 := f3 h14;constructor <;> simp [tp4, fset, h4, h7, h14, h15]
theorem SeJ.t14 (h : SeJ l q mk W0 b x W) (h7 : b 7 = true) (h14 : b 14 = false) : tp4 b = 7 /\ tp4 (fset b 14 true) = 14 := by
 obtain ⟨f1, f2, f3⟩ := h.fl;have h15 := f3 h14;constructor <;> simp [tp4, fset, h7, h14, h15]
theorem SeJ.t15 (h : SeJ l q mk W0 b x W) (h14 : b 14 = true) (h15 : b 15 = false) : tp4 b = 14 /\ tp4 (fset b 15 true) = 15 := by
 constructor <;> simp [tp4, fset, h14, h15]
theorem SeJ.one (h : SeJ l q mk W0 b x W) (hx : Sc eP W' W.heap.size 0 [q]) (hb : Below W.heap.size W W') (hlt : W.heap.size < W'.heap.size) : SeJ l q mk W0 (fset b 13 true) (fset x 13 (.slice (some ⟨W.heap.size, 0, none⟩) 1 1)) W' := by
 have ht := tp4_ne (b := b) (i := 13) (by decide);have hm := tp4_mem b;have hx13 : fset x 13 (.slice (some ⟨W.heap.size, 0, none⟩) 1 1) (tp4 b) = x (tp4 b) := fset_ne _ _ (by omega);have ne : ∀ {α : Type} (f : Nat -> α) (u : α) {j : Nat}, j ≠ 13 -> fset f 13 u j = f j := fun f u _ e => fset_ne _ _ e;refine ⟨Bl.up h.bl hb, fun p => ?_, fun p => ?_, fun p => ?_, fun p => ?_, fun _ => ?_, fun p => ?_, fun p => ?_⟩
 ·rw [ne _ _ (by decide)] at p |-; exact h.o15 p
 ·rw [ne _ _ (by decide)] at p;rw [ne _ _ (by decide), fset_same]; exact ⟨(h.o14 p).1, rfl⟩
 ·rw [ne _ _ (by decide)] at p |-; exact h.o7 p
 ·rw [ht] at p |-;rw [hx13];obtain ⟨m, k1, k2⟩ := h.sT p;exact ⟨m, k1.up hb, k2⟩
 ·rw [fset_same, ht, hx13];refine ⟨_, rfl, hlt, hx, fun p e => ?_⟩;obtain ⟨m, k1, -⟩ := h.sT p;have := (k1.lt _ e).2;omega
 ·rw [ne _ _ (by decide)] at p |-;rw [ht, hx13];obtain ⟨D, e1, e2, e3, e4⟩ := h.v17 p;exact ⟨D, e1, e2, (hb.block _ (Array.getElem?_eq_some_iff.1 e3).1).trans e3, e4⟩
 ·rw [ne _ _ (by decide)] at p |-;rw [ne _ _ (by decide), ne _ _ (by decide)]; exact h.e16 p
theorem SeJ.var (h : SeJ l q mk W0 b x W) : SeJ l q mk W0 (fset b 17 true) (fset x 17 (.pointer (some ⟨W.heap.size, 0, none⟩))) (W.alloc (.cells #[.bool false, .slice none 0 0, .slice none 0 0, .slice none 0 0, .int .i64 0] 36)) := by
 have hb := below_new W (.cells #[.bool false, .slice none 0 0, .slice none 0 0, .slice none 0 0, .int .i64 0] 36);have ht := tp4_ne (b := b) (i := 17) (by decide);have hm := tp4_mem b;have hx17 : fset x 17 (.pointer (some ⟨W.heap.size, 0, none⟩)) (tp4 b) = x (tp4 b) := fset_ne _ _ (by omega);have ne : ∀ {α : Type} (f : Nat -> α) (u : α) {j : Nat}, j ≠ 17 -> fset f 17 u j = f j := fun f u _ e => fset_ne _ _ e;refine ⟨Bl.up h.bl hb, fun p => ?_, fun p => ?_, fun p => ?_, fun p => ?_, fun p => ?_, fun _ => ?_, fun p => ?_⟩
 ·rw [ne _ _ (by decide)] at p |-; exact h.o15 p
 ·rw [ne _ _ (by decide)] at p;rw [ne _ _ (by decide), ne _ _ (by decide)]; exact h.o14 p
 ·rw [ne _ _ (by decide)] at p |-; exact h.o7 p
 ·rw [ht] at p |-;rw [hx17];obtain ⟨m, k1, k2⟩ := h.sT p;exact ⟨m, k1.up hb, k2⟩
 ·rw [ne _ _ (by decide)] at p |-;rw [ht, hx17];obtain ⟨D, e1, e2, e3, e4⟩ := h.s13 p;exact ⟨D, e1, Nat.lt_of_lt_of_le e2 hb.size, e3.fr (ButS.of hb (fun _ => False)) (fun _ h => h.elim) e2 (fun h => h), e4⟩
 ·rw [fset_same, ht, hx17];refine ⟨_, rfl, h.bl.size, heap_alloc_new W _, fun p e => ?_⟩;obtain ⟨m, k1, -⟩ := h.sT p;have := (k1.lt _ e).2;omega
 ·rw [ne _ _ (by decide)] at p |-;rw [ne _ _ (by decide), ne _ _ (by decide)]; exact h.e16 p
theorem SeJ.mk16 (h : SeJ l q mk W0 b x W) (h15 : b 15 = true) : SeJ l q mk W0 (fset b 16 true) (fset x 16 (mk (x 15))) W := by
 have ht := tp4_ne (b := b) (i := 16) (by decide);have hm := tp4_mem b;have hx16 : fset x 16 (mk (x 15)) (tp4 b) = x (tp4 b) := fset_ne _ _ (by omega);have ne : ∀ {α : Type} (f : Nat -> α) (u : α) {j : Nat}, j ≠ 16 -> fset f 16 u j = f j := fun f u _ e => fset_ne _ _ e;refine ⟨h.bl, fun p => ?_, fun p => ?_, fun p => ?_, fun p => ?_, fun p => ?_, fun p => ?_, fun _ => ?_⟩
 ·rw [ne _ _ (by decide)] at p |-; exact h.o15 p
 ·rw [ne _ _ (by decide)] at p;rw [ne _ _ (by decide), ne _ _ (by decide)]; exact h.o14 p
 ·rw [ne _ _ (by decide)] at p |-; exact h.o7 p
 ·rw [ht] at p |-;rw [hx16]; exact h.sT p
 ·rw [ne _ _ (by decide)] at p |-;rw [ht, hx16]; exact h.s13 p
 ·rw [ne _ _ (by decide)] at p |-;rw [ht, hx16]; exact h.v17 p
 ·rw [ne _ _ (by decide), fset_same, ne _ _ (by decide)]; exact ⟨h15, rfl⟩
end
theorem rsettle_bad (va : Value) (f : Fz) (i : Int) (w : World) (ha : Fx w va f) (hi : i < 0 \/ (f.R.length : Int) <= i) :
  Calls Tryz.prog 46 #[va, .int .i64 i] w fun e w' => ∃ v, e = .returned (.tuple #[v, .int .i64 1]) /\ Fx w' v f0 /\ Below w.heap.size w w' := by
 obtain ⟨W, s, a, n, c, aP, cP, aR, cR, rfl, hW, bl, hs, hF⟩ := boxF w ha;clear ha;go_enter Tryz.func46, Tryz.ntmps46
 go_upto_region 1 with fail;rw [<- hW];have hD := heap_alloc_new W (.cells #[.bool false, .slice none 0 0, .slice none 0 0, .slice none 0 0, .int .i64 0] 36);rw [hs] at hD;have hF3 := hF.alloc (.cells #[.bool false, .slice none 0 0, .slice none 0 0, .slice none 0 0, .int .i64 0] 36);have hBw := Bl.alloc bl (.cells #[.bool false, .slice none 0 0, .slice none 0 0, .slice none 0 0, .int .i64 0] 36);clear hW hF bl hs;generalize W.alloc (.cells #[.bool false, .slice none 0 0, .slice none 0 0, .slice none 0 0, .int .i64 0] 36) = W1 at *;obtain ⟨-, -, -, p3, -⟩ := hF3.cells;by_cases h0 : i < 0
 ·clear hi hF3 p3;have HBw := Lib.hid hBw;clear hBw
  (have HHD := Lib.hid hD
   obtain ⟨d0, d1, d2, d3, d4, f0, f1, f2, f3, f4⟩ := heap5' hD;clear hD;go_wp2_with fail;have hfin := five_but (W1) (w.heap.size + 1) (.bool false) (.slice none 0 0) (.slice none 0 0) (.slice none 0 0) (.int .i64 0);refine ret_fact2 (B := w.heap.size + 1) (x0 := .bool false) (x1 := .slice none 0 0) (x2 := .slice none 0 0) (x3 := .slice none 0 0) (x4 := .int .i64 0) (y := .int .i64 1) rfl rfl rfl rfl (five_heap HHD.out _ _ _ _ _) ?_)
  exact ⟨_, rfl, fx_zero _, ButS.below HBw.out hfin HBw.out.size (fun g e => by omega)⟩
 ·have h1 : i >= (f.R.length : Int) := by omega
  clear hi hF3;have HBw := Lib.hid hBw;clear hBw
  (have HHD := Lib.hid hD
   obtain ⟨d0, d1, d2, d3, d4, f0, f1, f2, f3, f4⟩ := heap5' hD;clear hD;go_wp2_with fail;have hfin := five_but (W1) (w.heap.size + 1) (.bool false) (.slice none 0 0) (.slice none 0 0) (.slice none 0 0) (.int .i64 0);refine ret_fact2 (B := w.heap.size + 1) (x0 := .bool false) (x1 := .slice none 0 0) (x2 := .slice none 0 0) (x3 := .slice none 0 0) (x4 := .int .i64 0) (y := .int .i64 1) rfl rfl rfl rfl (five_heap HHD.out _ _ _ _ _) ?_)
  exact ⟨_, rfl, fx_zero _, ButS.below HBw.out hfin HBw.out.size (fun g e => by omega)⟩
theorem Sr.takeP {w : World} {b off n cap i : Nat} {l : List (Int × Int)} (h : Sr eP w (.slice (some ⟨b, off, none⟩) n cap) l) (hi : i <= n) : Sr eP w (.slice (some ⟨b, off, none⟩) i cap) (l.take i) := by
 obtain ⟨a, c, e, hc, hl⟩ := h;injection e with e1 e2 e3;subst e1 e2 e3;refine ⟨_, _, by rw [List.length_take, Nat.min_eq_left hi], by rw [List.length_take]; omega, ?_⟩;rcases hl with rfl | ⟨b', off', e, h1, h2⟩
 ·exact .inl (by simp)
 ·injection e with e;injection e with e1 e2;subst e1 e2;refine .inr ⟨_, _, rfl, h1, fun j hj => ?_⟩;have hj' : j < l.length := by rw [List.length_take] at hj; omega
  obtain ⟨cs, k1, k2⟩ := h2 j hj';exact ⟨cs, by rw [List.getElem_take]; exact k1, k2⟩
theorem Sr.dropP {w : World} {b off n cap i : Nat} {l : List (Int × Int)} (h : Sr eP w (.slice (some ⟨b, off, none⟩) n cap) l) (hi : i <= n) : Sr eP w (.slice (if cap = i then some ⟨b, off, none⟩ else some ⟨b, off + i * 3, none⟩) (n - i) (cap - i)) (l.drop i) := by
 obtain ⟨a, c, e, hc, hl⟩ := h;injection e with e1 e2 e3;subst e1 e2 e3;refine ⟨_, _, by rw [List.length_drop], by rw [List.length_drop]; omega, ?_⟩;rcases hl with rfl | ⟨b', off', e, h1, h2⟩
 ·exact .inl (by simp)
 ·injection e with e;injection e with e1 e2;subst e1 e2;by_cases hci : cap = i
  ·exact .inl (by rw [List.drop_eq_nil_iff]; omega)
  ·rw [if_neg hci];refine .inr ⟨_, _, rfl, h1, fun j hj => ?_⟩;have hj' : i + j < l.length := by rw [List.length_drop] at hj; omega
   obtain ⟨cs, k1, k2⟩ := h2 (i + j) hj';refine ⟨cs, by rw [List.getElem_drop]; exact k1, fun m u e => ?_⟩;have := k2 m u e
   have e2 : off + (i + j) * eP.k + m = off + i * 3 + j * eP.k + m := by
    have : eP.k = 3 := rfl;rw [this]; omega
   rw [<- e2]; exact this
theorem rsettle_ok (va : Value) (f : Fn) (i : Nat) (w : World) (ha : Fx w va (zF f)) (hf : RightN f) (hm : Md f.N) (hi : i < f.R.length) :
  Calls Tryz.prog 46 #[va, .int .i64 (i : Int)] w fun e w' => ∃ v g, e = .returned (.tuple #[v, .int .i64 0]) /\ Fx w' v (zF g) /\ SettleTo f i g /\ Below w.heap.size w w' := by
 obtain ⟨W1, s, a, n, c, aP, cP, aR, cR, rfl, hW, bl, hs, hF⟩ := boxN w ha;clear ha;have hLen := hf.len hm;go_enter Tryz.func46, Tryz.ntmps46
 go_upto_region 1 with fail;rw [<- hW];have hD := heap_alloc_new W1 (.cells #[.bool false, .slice none 0 0, .slice none 0 0, .slice none 0 0, .int .i64 0] 36);rw [hs] at hD;have hF3 := hF.alloc (.cells #[.bool false, .slice none 0 0, .slice none 0 0, .slice none 0 0, .int .i64 0] 36);have hBw := Bl.alloc bl (.cells #[.bool false, .slice none 0 0, .slice none 0 0, .slice none 0 0, .int .i64 0] 36);have hsz : (W1.alloc (.cells #[.bool false, .slice none 0 0, .slice none 0 0, .slice none 0 0, .int .i64 0] 36)).heap.size = w.heap.size + 2 := by rw [World.size_alloc, hs]
 clear hW hF bl hs;generalize W1.alloc (.cells #[.bool false, .slice none 0 0, .slice none 0 0, .slice none 0 0, .int .i64 0] 36) = W at *;have i0 : ¬ (i : Int) < 0 := by omega
 have i1 : ¬ (i : Int) >= (f.R.length : Int) := by omega
 have i2 : (0 : Int) <= (i : Int) := by omega
 have i3 : (i : Int) < (f.R.length : Int) := by omega
 obtain ⟨p0, p1, p2, p3, p4, hN1, hP1, hR1⟩ := hF3.cellsN;have HF := Lib.hid hF3;have HD := Lib.hid hD;have HBL := Lib.hid hBw;have HSZ := Lib.hid hsz;have hlR : i < (zP f.R).length := by rw [zP_len]; exact hi
 obtain ⟨ba, offa, rfl, hba, hla⟩ := hR1.at hlR;obtain ⟨s1, a1, n1, k1, q0, q1, q2, hx⟩ := hla.pow hlR;rw [zP_getD] at q2 hx;have hmem : f.R.getD i (0, 0) ∈ f.R := by rw [List.getD_eq_getElem?_getD, List.getElem?_eq_getElem hi]; exact List.getElem_mem _
 have hszx := hf.szk hm (ks_mem (List.mem_append_right f.P hmem));obtain ⟨x, hx0⟩ : ∃ x, f.R.getD i (0, 0) = x := ⟨_, rfl⟩;rw [hx0] at q2 hx hszx;obtain ⟨xp, xk⟩ := x;dsimp only at q2 hx hszx;have HX0 := Lib.hid hx0;have HX := Lib.hid hx;have HPz := Lib.hid hP1;have HSRT := Lib.hid (show Srt (f.R.eraseIdx i) (f.R.eraseIdx i) from ⟨List.Perm.refl _, (hf.incR.2.sublist (List.eraseIdx_sublist _ _)).imp Nat.le_of_lt⟩);have HRz := Lib.hid hR1;clear hF3 hD hBw hla hx0 hx hP1 hR1 hba hlR hmem;go_upto_region 3 with fail;refine wp_region_T (by kernel_rfl) [18] (S := fun w' => w'.cell? ⟨w.heap.size, 0, none⟩ = some (.bool s) /\ w'.cell? ⟨w.heap.size, 1, none⟩ = some (.slice a n c) /\ w'.cell? ⟨w.heap.size, 2, none⟩ = some (.slice aP f.P.length cP) /\ w'.cell? ⟨w.heap.size, 3, none⟩ = some (.slice (some ⟨ba, offa, none⟩) f.R.length cR) /\ w'.cell? ⟨w.heap.size, 4, none⟩ = some (.int .i64 (f.B : Int)) /\ w'.cell? ⟨ba, offa + i * 3, none⟩ = some (.bool s1) /\ w'.cell? ⟨ba, offa + i * 3 + 1, none⟩ = some (.slice a1 n1 k1) /\ w'.cell? ⟨ba, offa + i * 3 + 2, none⟩ = some (.int .i64 (xk : Int))) ⟨p0, p1, p2, p3, p4, q0, q1, q2⟩ (fun hHeld => ?_);refine pL 0 rfl ?_;refine kL 1 rfl ?_;refine pL 2 rfl ?_;refine kL 3 rfl ?_;refine pL 5 rfl ?_;refine kL 6 rfl ?_;refine pL 8 rfl ?_;refine kL 9 rfl ?_;(refine pL 10 rfl ?_; refine pL 11 rfl ?_)
 refine kL 12 rfl ?_;clear hHeld;have HPZ := Lib.hid (show (zP f.P).length = f.P.length from zP_len _)
 have hszL : szL (zP f.P ++ [((xp : Int), (xk : Int))]) := ⟨by rw [List.length_append, zP_len]; simp; omega, fun y hy => by
  rcases List.mem_append.1 hy with h | h
  ·unfold zP at h;obtain ⟨p, hp, rfl⟩ := List.mem_map.1 h;exact Nat.le_trans (hf.szk hm (ks_mem (List.mem_append_left f.R hp))) (by decide)
  ·rw [List.mem_singleton] at h;subst h;exact Nat.le_trans hszx (by decide)⟩
 have HSZL := Lib.hid hszL;clear hszL
 refine wpAnyT_all [(4, some 21), (7, some 24), (13, some 30), (14, some 31), (15, some 32), (16, some 33), (17, some 6)] 1 (SeJ (zP f.P) ((xp : Int), (xk : Int)) (fun v => .agg #[.bool s, .slice a n c, v, .slice none 0 0, .int .i64 (f.B : Int)]) W) rfl (by kernel_rfl) (by decide) (by kernel_rfl) (by kernel_rfl) (by kernel_rfl)
  (fun bb x wz h => ⟨keepc h.bl p0, keepc h.bl p1, keepc h.bl p2, keepc h.bl p3, keepc h.bl p4, keepc h.bl q0, keepc h.bl q1, keepc h.bl q2⟩) (fun x => SeJ.start _ _ _ _ _) ?_ ?_
 ·intro i hi;have hi' : i = 4 \/ i = 7 \/ i = 13 \/ i = 14 \/ i = 15 \/ i = 16 \/ i = 17 := by simpa using hi
  clear hi;rcases hi' with rfl | rfl | rfl | rfl | rfl | rfl | rfl
  ·refine ⟨_, rfl, fun bb xx wz hJ hbf hw K hK => ?_⟩;obtain ⟨ht, ht'⟩ := hJ.t4 hbf;clear hw;simp only [actA] at hK |-;go_simp;exact hK.out _ _ (hJ.next (.inl rfl) hbf ht' nzz nzz nzz (So.lit0 eP wz hJ.bl.size) ⟨fun _ => rfl, fun e => absurd e (by decide), fun e => absurd e (by decide), fun e => absurd e (by decide)⟩ (ButS.of (below_new wz _) _) (fun g hg => .inr (by have : wz.heap.size = g := (by simpa [Value.ownBlock] using hg); omega)))
  ·refine ⟨_, rfl, fun bb xx wz hJ hbf hw K hK => ?_⟩;have h4 := hw 4 (by kernel_rfl);obtain ⟨ht, ht'⟩ := hJ.t7 h4 hbf;obtain ⟨m, hm1, hm2⟩ := hJ.cur ht (by decide);obtain rfl := hm2.1 rfl;clear hw;refine step_apSr (E := eP) (by rfl) (.tmp 21) (.tmp 23) _ (by rfl) Tryz.underlying34 W.heap.size (xx 4) (.slice aP f.P.length cP) [] (zP f.P) (by rfl) hm1 hJ.bl.size (by rfl) (HPz.out.up hJ.bl) (by rw [HPZ.out]; simp; omega) ?_;intro v' w' g1 g3 g5 _;exact hK.out _ _ (hJ.next (.inr (.inl rfl)) hbf ht' nzz nzz (fun _ => h4) g1 ⟨fun e => absurd e (by decide), fun _ => rfl, fun e => absurd e (by decide), fun e => absurd e (by decide)⟩ (by rw [ht]; exact g3.mono (fun g _ e => ⟨by decide, e⟩)) (fun g hg => by rw [ht]; exact (g5 g hg).elim (fun e => .inl ⟨by decide, e⟩) (fun e => .inr (by omega))))
  ·refine ⟨_, rfl, fun bb xx wz hJ hbf hw K hK => ?_⟩;clear hw;simp only [actA] at hK |-;go_simp;exact hK.out _ _ (hJ.one (Sc.one (heap_alloc_new wz (.cells #[.bool s1, .slice a1 n1 k1, .int .i64 (xk : Int)] 49)) ⟨s1, a1, n1, k1, rfl, (HX.out.up hJ.bl).alloc _⟩) (below_new _ _) (by rw [World.size_alloc]; omega))
  ·refine ⟨_, rfl, fun bb xx wz hJ hbf hw K hK => ?_⟩;have h7 := hw 7 (by kernel_rfl);have h13 := hw 13 (by kernel_rfl);obtain ⟨ht, ht'⟩ := hJ.t14 h7 hbf;obtain ⟨m, hm1, hm2⟩ := hJ.cur ht (by decide);obtain rfl := hm2.2.1 rfl;obtain ⟨D, hx13, hD1, hD2, hD3⟩ := hJ.s13 h13;clear hw;refine step_apS (E := eP) (by rfl) (.tmp 24) (.tmp 30) _ (by rfl) Tryz.underlying34 W.heap.size (xx 7) (zP f.P) [((xp : Int), (xk : Int))] (by rfl) hm1 hJ.bl.size D 0 1 1 (Eq.trans (by rfl) hx13) rfl hD2 (by decide) (by rw [HPZ.out]; omega) ?_;intro g8 cap8 w8 g1 g3 g5
   refine hK.out _ _ (hJ.next (.inr (.inr (.inl rfl))) hbf ht' nzz (fun _ => ⟨h7, h13⟩) nzz g1 ⟨fun e => absurd e (by decide), fun e => absurd e (by decide), fun _ => rfl, fun e => absurd e (by decide)⟩ (by rw [ht]; exact g3.mono (fun g _ e => ⟨by decide, e⟩)) (fun g hg => by
    have e : g8 = g := by simpa [Value.ownBlock] using hg
    rw [ht, <- e]; exact g5.elim (fun e => .inl ⟨by decide, e⟩) (fun e => .inr (by omega))))
  ·refine ⟨_, rfl, fun bb xx wz hJ hbf hw K hK => ?_⟩;have h14 := hw 14 (by kernel_rfl);obtain ⟨ht, ht'⟩ := hJ.t15 h14 hbf;obtain ⟨m, hm1, hm2⟩ := hJ.cur ht (by decide);obtain rfl := hm2.2.2.1 rfl;clear hw;simp only [actA] at hK |-;go_simp;refine (rsorted_any _ _ wz hm1.sr HSZL.out (by rw [List.length_append, HPZ.out]; simp; omega)).mono ?_;rintro e w2 ⟨v, m, rfl, g1, g2, hb⟩;exact hK.out _ _ (hJ.next (.inr (.inr (.inr rfl))) hbf ht' (fun _ => h14) nzz nzz (g1.base hJ.bl.size) ⟨fun e => absurd e (by decide), fun e => absurd e (by decide), fun e => absurd e (by decide), fun _ => g2⟩ (ButS.of hb _) (fun g hg => .inr (g1.lt g hg).1))
  ·refine ⟨_, rfl, fun bb xx wz hJ hbf hw K hK => ?_⟩;have h15 := hw 15 (by kernel_rfl);have ht : tp4 bb = 15 := by simp [tp4, h15]
   have hsl : ∃ q : Option Addr × Nat × Nat, xx 15 = .slice q.1 q.2.1 q.2.2 := by
    obtain ⟨m, hm1, -⟩ := hJ.cur ht (by decide);obtain ⟨a', c', e, -⟩ := hm1.slice;exact ⟨(a', _, c'), e⟩
   have hh := Classical.choose_spec hsl;generalize Classical.choose hsl = q at hh;have hJ8 := hJ.mk16 h15;rw [hh] at hJ8;have HJ8 := Lib.hid hJ8;clear hw hJ8;simp only [actA, hh] at hK |-;go_simp;exact hK.out _ _ HJ8.out
  ·refine ⟨_, rfl, fun bb xx wz hJ hbf hw K hK => ?_⟩;clear hw;simp only [actA] at hK |-;go_simp;exact hK.out _ _ hJ.var
 intro bz xx wz hbb hJ;have ht : tp4 bz = 15 := by simp [tp4, hbb 15 (by decide)]
 obtain ⟨P', hS5, hC5⟩ := hJ.cur ht (by decide);have hZ5 := hC5.2.2.2 rfl;obtain ⟨D, hx9, hD2, hDz, hDn⟩ := hJ.v17 (hbb 17 (by decide));rw [ht] at hDn;replace hDn := hDn (by decide);have hx8 := (hJ.e16 (hbb 16 (by decide))).2;have hbz := hJ.bl;clear hbb hJ ht hC5;obtain ⟨a5, c5, hx5, hc5⟩ := hS5.slice;obtain ⟨nP5, hnP⟩ : ∃ n, P'.length = n := ⟨_, rfl⟩;rw [hnP] at hx5 hc5;rw [hx5] at hS5 hDn;simp only [hx5] at hx8;obtain ⟨u4, hu4⟩ : ∃ u, u = xx 4 := ⟨_, rfl⟩;obtain ⟨u7, hu7⟩ : ∃ u, u = xx 7 := ⟨_, rfl⟩;obtain ⟨u13, hu13⟩ : ∃ u, u = xx 13 := ⟨_, rfl⟩;obtain ⟨u14, hu14⟩ : ∃ u, u = xx 14 := ⟨_, rfl⟩;simp only [actM, hx9, hx8, hx5, <- hu4, <- hu7, <- hu13, <- hu14];clear hx9 hx8 hx5 hu4 hu7 hu13 hu14;obtain ⟨d0, d1, d2, d3, d4, f0, f1, f2, f3, f4⟩ := heap5' hDz;(refine oL 18 rfl fun K hK => tL ?_; go_simp);(go_wp2_with fail; refine xL hK (tL ?_); clear hK);refine dT ?_;clear d0 d1 d2 d3 d4 f0 f1 f2 f3 f4;have hbu := five_but wz D (.bool s) (.slice a n c) (.slice a5 nP5 c5) (.slice none 0 0) (.int .i64 (f.B : Int));have hDh := five_heap hDz (.bool s) (.slice a n c) (.slice a5 nP5 c5) (.slice none 0 0) (.int .i64 (f.B : Int));have hnw := five_nw hDz;have hBu0 : BuT 36 _ D (.slice a5 nP5 c5) (.slice none 0 0) (f.N : Int) P' [] (f.B : Int) := ⟨⟨s, a, n, c, hDh, (hN1.up hbz).fr hbu hnw⟩, (hS5.fr hbu hnw (fun g hg e => hDn (e ▸ hg))).base (Nat.zero_le _), So.nil eP _ _, fun g h => by simp [Value.ownBlock], hDn, by simp [Value.ownBlock]⟩
 have hO0 : ∀ g, bset D (.slice a5 nP5 c5) (.slice none 0 0) g -> W.heap.size <= g := fun g hg => by
  rcases hg with h | h | h
  ·omega
  ·exact (hS5.lt g h).1
  ·simp [Value.ownBlock] at h
 have hb3 := ButS.below hbz hbu hbz.size (fun g e => by omega);have HBU0 := Lib.hid hBu0;have HO0 := Lib.hid hO0;have HB3 := Lib.hid hb3;have HZ5 := Lib.hid hZ5;replace p3 := keepc hb3 p3;clear hbu hDh hnw hBu0 hO0 hb3 hDz hS5 hDn hbz hD2 hc5 hZ5;generalize ((((wz.setCell ⟨D, 0, none⟩ (.bool s)).setCell ⟨D, 1, none⟩ (.slice a n c)).setCell ⟨D, 2, none⟩ (.slice a5 nP5 c5)).setCell ⟨D, 3, none⟩ (.slice none 0 0)).setCell ⟨D, 4, none⟩ (.int .i64 (f.B : Int)) = w3 at *;clear p0 p1 p2 p4 q0 q1 q2
 have hcR : f.R.length <= cR := by
  have := HRz.out.len;rw [zP_len] at this;exact this.2
 have i4 : (i : Int) <= (cR : Int) := by omega
 have i5 : (i : Int) + 1 <= (f.R.length : Int) := by omega
 have w1 : IntKind.i64.wrap ((i : Int) + 1) = (i : Int) + 1 := by rw [IntKind.wrap_i64]; omega
 have i6 : (0 : Int) <= (i : Int) + 1 := by omega
 have i7 : (f.R.length : Int) <= (cR : Int) := by omega
 go_upto_region 4 with fail;refine wp_region_T (by kernel_rfl) [13] (S := fun w' => w'.cell? ⟨w.heap.size, 3, none⟩ = some (.slice (some ⟨ba, offa, none⟩) f.R.length cR)) p3 (fun hHeld => ?_);refine pL 1 rfl ?_;refine kL 2 rfl ?_;(refine pL 3 rfl ?_; refine pL 4 rfl ?_)
 refine pL 6 rfl ?_;refine kL 7 rfl ?_;(refine pL 8 rfl ?_; refine pL 9 rfl ?_; refine pL 10 rfl ?_)
 obtain ⟨aD, haD⟩ : ∃ aD, (if cR = i + 1 then some ⟨ba, offa, none⟩ else some ⟨ba, offa + (i + 1) * 3, none⟩ : Option Addr) = aD := ⟨_, rfl⟩;have hT := HRz.out.takeP (i := i) (by omega);have hDr := HRz.out.dropP (i := i + 1) (by omega);simp only [haD] at hDr |-;have HT := Lib.hid (hT.up HB3.out);have HDr := Lib.hid (hDr.up HB3.out);clear haD hT hDr;(refine oL 0 rfl fun K hK => tL ?_; go_simp);have hbT : Below w3.heap.size w3 (w3.alloc (.cells #[] 49)).drew := (below_new w3 _).drew;have hv0 : So eP (w3.alloc (.cells #[] 49)).drew w3.heap.size (.slice (some ⟨w3.heap.size, 0, none⟩) 0 0) [] := (So.lit0 eP w3 (Nat.le_refl _)).drew;(go_wp2_with fail; clear hHeld; refine nxL hK (keepc hbT p3) fun hHeld => tL ?_; clear hK);refine wpAnyT_one (i := 5) (by as_aux_lemma => kernel_rfl) rfl (fun K hK => ?_);have HRL := Lib.hid (show (zP f.R).length = f.R.length from zP_len _);refine step_apSr (E := eP) (by rfl) (.tmp 34) (.tmp 38) _ (by rfl) Tryz.underlying34 w3.heap.size (.slice (some ⟨w3.heap.size, 0, none⟩) 0 0) (.slice (some ⟨ba, offa, none⟩) i cR) [] ((zP f.R).take i) (by rfl) hv0 hbT.size (by rfl) (HT.out.up hbT) (by rw [List.length_take, HRL.out]; simp; omega) ?_;intro vA wA h1 h3 _ _;replace hbT := ButS.below hbT h3 hbT.size (fun g hg => (hv0.lt g hg).1);replace h1 : So eP wA w3.heap.size vA ((zP f.R).take i) := h1;clear h3 hv0;refine hK.out _ _ (fun _ => keepc hbT p3) ?_;clear hK hHeld;have hHeld : (fun w' : World => w'.cell? ⟨w.heap.size, 3, none⟩ = some (.slice (some ⟨ba, offa, none⟩) f.R.length cR)) wA := keepc hbT p3;refine tL ?_;refine wpAnyT_one (i := 11) (by as_aux_lemma => kernel_rfl) rfl (fun K hK => ?_);refine step_apSr (E := eP) (by rfl) (.tmp 39) (.tmp 44) _ (by rfl) Tryz.underlying34 w3.heap.size vA (.slice aD (f.R.length - (i + 1)) (cR - (i + 1))) ((zP f.R).take i) ((zP f.R).drop (i + 1)) (by rfl) h1 hbT.size (by rfl) (HDr.out.up hbT) (by rw [List.length_take, List.length_drop, HRL.out]; omega) ?_;intro vB wB g1 g3 _ _;replace hbT := ButS.below hbT g3 hbT.size (fun g hg => (h1.lt g hg).1);have hER : (zP f.R).take i ++ (zP f.R).drop (i + 1) = zP (f.R.eraseIdx i) := by rw [<- zP_erase, List.eraseIdx_eq_take_drop_succ]
 rw [hER] at g1;obtain ⟨aB, cB, rfl, -⟩ := g1.slice;obtain ⟨nB, hnB⟩ : ∃ n, (zP (f.R.eraseIdx i)).length = n := ⟨_, rfl⟩;rw [hnB] at g1 |-;clear h1 g3 hER hnB;have hBB := HBU0.out.up hbT
 have hn5 : ∀ g, (Value.slice aB nB cB).ownBlock = some g -> ¬ bset D (Value.slice a5 nP5 c5) (.slice none 0 0) g := fun g hg hb => by
  have h1 := (g1.lt g hg).1;have := HBU0.out.slt g hb;omega
 have k2 := hBB.putR (g1.base (Nat.zero_le _)) hn5;have hb1 := ButS.set wB D 3 (Value.slice aB nB cB);have hDge := HO0.out D (.inl rfl);have hL3 : Below W.heap.size W _ := ButS.below (Bl.up HB3.out hbT) hb1 (Bl.up HB3.out hbT).size (fun g e => by omega)
 have hO2 : ∀ g, bset D (.slice a5 nP5 c5) (.slice aB nB cB) g -> W.heap.size <= g := fun g hg => by
  rcases hg with h | h | h
  ·omega
  ·exact HO0.out g (.inr (.inl h))
  ·have h1 := (g1.lt g h).1;have := HB3.out.size;omega
 obtain ⟨y1, y2, y3, y4, -, -, -, e3', -, -, -, -, f3, -, -⟩ := hBB.cellsA;have HK2 := Lib.hid k2;have HL3 := Lib.hid hL3;have HO2 := Lib.hid hO2;refine hK.out _ _ (fun _ => keepc hbT p3) ?_;clear hK hHeld;have hHeld : (fun w' : World => w'.cell? ⟨w.heap.size, 3, none⟩ = some (.slice (some ⟨ba, offa, none⟩) f.R.length cR)) wB := keepc hbT p3;clear hBB hn5 k2 hb1 hDge hL3 hO2 g1 hbT HBU0 HO0;refine tL ?_;refine pL 12 rfl ?_;(refine oL 13 rfl fun K hK => tL ?_; go_simp);(go_wp2_with fail; refine xL hK (tL ?_); clear hK);refine dT ?_;clear e3' f3;generalize wB.setCell ⟨D, 3, none⟩ (Value.slice aB nB cB) = w9 at *;have hz5 := HZ5.out;rw [show zP f.P ++ [((xp : Int), (xk : Int))] = zP (f.P ++ [(xp, xk)]) by rw [zP_append]; rfl] at hz5;obtain ⟨Pn, rfl, hsP⟩ := hz5.nat;have HSP := Lib.hid hsP;clear hz5 hsP HZ5;obtain ⟨sF, aF, nF, cF, hh, hfx⟩ := HK2.out.hb;obtain ⟨b0, b1, b2, b3, b4, -⟩ := heap5' hh;have hDF := HD.out;have hWs := HSZ.out;have hD3 := (HL3.out.block (w.heap.size + 1) (Array.getElem?_eq_some_iff.1 hDF).1).trans hDF;obtain ⟨d0, d1, d2, d3, d4, f0, f1, f2, f3, f4⟩ := heap5' hD3;have hbu := five_but w9 (w.heap.size + 1) (.bool sF) (.slice aF nF cF) (.slice a5 nP5 c5) (.slice aB nB cB) (.int .i64 (f.B : Int));have hDh := five_heap hD3 (.bool sF) (.slice aF nF cF) (.slice a5 nP5 c5) (.slice aB nB cB) (.int .i64 (f.B : Int));have hnw := five_nw hD3;have hfin : Fx _ (.agg #[.bool sF, .slice aF nF cF, .slice a5 nP5 c5, .slice aB nB cB, .int .i64 (f.B : Int)]) (zF ⟨f.N, Pn, f.R.eraseIdx i, f.B⟩) := ⟨sF, aF, nF, cF, _, _, rfl, hfx.fr hbu hnw, (HK2.out.hP.fr hbu hnw (fun g hg e => by have := HO2.out g (.inr (.inl hg)); omega)).sr, (HK2.out.hR.fr hbu hnw (fun g hg e => by have := HO2.out g (.inr (.inr hg)); omega)).sr⟩;have hLf := ButS.below (Bl.up HBL.out HL3.out) hbu (Bl.up HBL.out HL3.out).size (fun g e => by omega);have HDH := Lib.hid hDh;have HFIN := Lib.hid hfin;have HLF := Lib.hid hLf;clear hh hfx hbu hDh hnw hfin hLf HK2 HL3 HD hD3 hDF;go_wp2_with fail;refine ret_fact2 (B := w.heap.size + 1) (T := 36) (fr := (0, 0)) rfl rfl rfl rfl HDH.out ?_;have ht : SettleTo f i ⟨f.N, Pn, f.R.eraseIdx i, f.B⟩ := ⟨rfl, rfl, by rw [HX0.out]; exact HSP.out, HSRT.out⟩;exact ⟨_, _, rfl, HFIN.out, ht, HLF.out⟩
end Go.Proofs.YtblebpmlkpobnaaGreat
