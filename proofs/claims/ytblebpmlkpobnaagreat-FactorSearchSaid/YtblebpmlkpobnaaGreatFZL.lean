/-
  A region with several calls and several new variables.
-/
import Derived.Test.YtblebpmlkpobnaaGreatFZG
set_option linter.unusedSimpArgs false
set_option linter.unusedVariables false
namespace Go.Proofs.YtblebpmlkpobnaaGreat
open Go.RowKit
structure Kv where
 R : Nat -> Value -> World -> Prop
 V : Nat -> World -> Nat -> Prop
 js : Nat -> Bool
 up : ∀ {i v w w'}, R i v w -> Below w.heap.size w w' -> R i v w'
 vup : ∀ {i w w' B}, V i w B -> Below w.heap.size w w' -> V i w' B
 vlt : ∀ {i w B}, V i w B -> B < w.heap.size
structure FlV (K : Kv) (W0 : World) (b : Nat -> Bool) (x : Nat -> Value) (W : World) : Prop where
 bl : Below W0.heap.size W0 W
 pr : ∀ i, K.js i = false -> b i = true -> K.R i (x i) W
 pj : ∀ i, K.js i = true -> b i = true -> ∃ B, x i = .pointer (some ⟨B, 0, none⟩) /\ W0.heap.size <= B /\ K.V i W B
 ne : ∀ i k, K.js i = true -> K.js k = true -> i ≠ k -> b i = true -> b k = true -> x i ≠ x k
section
variable {K : Kv} {W0 W W' : World} {b : Nat -> Bool} {x : Nat -> Value}
theorem FlV.start (K : Kv) (W0 : World) (x : Nat -> Value) : FlV K W0 (fun _ => false) x W0.drew := ⟨(Below.refl _ _).drew, (fun _ _ h => nomatch h), (fun _ _ h => nomatch h), fun _ _ _ _ _ h => nomatch h⟩
theorem FlV.call (h : FlV K W0 b x W) {i : Nat} (hi : K.js i = false) {v : Value} (hR : K.R i v W') (hb : Below W.heap.size W W') : FlV K W0 (fset b i true) (fset x i v) W' := by
 have hne : ∀ k, K.js k = true -> k ≠ i := fun k hk e => by rw [e, hi] at hk; cases hk
 refine ⟨h.bl.trans (hb.mono h.bl.size), fun k hk hbk => ?_, fun k hk hbk => ?_, fun k l hk hl hkl hbk hbl => ?_⟩
 ·by_cases e : k = i
  ·subst e; rw [fset_same]; exact hR
  ·rw [fset_ne _ _ e] at hbk |-; exact K.up (h.pr k hk hbk) hb
 ·rw [fset_ne _ _ (hne k hk)] at hbk |-;obtain ⟨B, h1, h2, h3⟩ := h.pj k hk hbk;exact ⟨B, h1, h2, K.vup h3 hb⟩
 ·rw [fset_ne _ _ (hne k hk)] at hbk |-;rw [fset_ne _ _ (hne l hl)] at hbl |-;exact h.ne k l hk hl hkl hbk hbl
theorem FlV.var (h : FlV K W0 b x W) {i : Nat} (hi : K.js i = true) (hV : K.V i W' W.heap.size) (hb : Below W.heap.size W W') : FlV K W0 (fset b i true) (fset x i (.pointer (some ⟨W.heap.size, 0, none⟩))) W' := by
 have hnew : ∀ k, K.js k = true -> k ≠ i -> b k = true -> x k ≠ .pointer (some ⟨W.heap.size, 0, none⟩) := fun k hk hki hbk e => by
  obtain ⟨B, h1, -, h3⟩ := h.pj k hk hbk;rw [h1] at e;injection e with e;injection e with e;injection e with e;have := K.vlt h3;omega
 refine ⟨h.bl.trans (hb.mono h.bl.size), fun k hk hbk => ?_, fun k hk hbk => ?_, fun k l hk hl hkl hbk hbl => ?_⟩
 ·have e : k ≠ i := fun e => by rw [e, hi] at hk; cases hk
  rw [fset_ne _ _ e] at hbk |-; exact K.up (h.pr k hk hbk) hb
 ·by_cases e : k = i
  ·subst e; rw [fset_same]; exact ⟨_, rfl, h.bl.size, hV⟩
  ·rw [fset_ne _ _ e] at hbk |-;obtain ⟨B, h1, h2, h3⟩ := h.pj k hk hbk;exact ⟨B, h1, h2, K.vup h3 hb⟩
 ·by_cases e : k = i
  ·subst e;rw [fset_same, fset_ne _ _ (Ne.symm hkl)];rw [fset_ne _ _ (Ne.symm hkl)] at hbl;exact fun e => hnew l hl (Ne.symm hkl) hbl e.symm
  ·by_cases e' : l = i
   ·subst e';rw [fset_same, fset_ne _ _ e];rw [fset_ne _ _ e] at hbk;exact hnew k hk e hbk
   ·rw [fset_ne _ _ e] at hbk |-;rw [fset_ne _ _ e'] at hbl |-;exact h.ne k l hk hl hkl hbk hbl
end
def Two (w : World) (B : Nat) : Prop := ∃ x0 x1 T fr, w.heap[B]? = some (.cells #[x0, x1] T fr)
theorem Two.lt {w : World} {B : Nat} (h : Two w B) : B < w.heap.size := by obtain ⟨_, _, _, _, h⟩ := h; exact (Array.getElem?_eq_some_iff.1 h).1
theorem Two.fr {w w' : World} {B : Nat} {S : Nat -> Prop} (h : Two w B) (hb : ButS S w w') (hn : ¬ S B) : Two w' B := by
 have hl := h.lt;obtain ⟨x0, x1, T, fr, h⟩ := h;exact ⟨x0, x1, T, fr, (hb.block B hl hn).trans h⟩
theorem Two.up {w w' : World} {B : Nat} (h : Two w B) (hb : Below w.heap.size w w') : Two w' B := h.fr (ButS.of hb (fun _ => False)) (fun h => h)
structure Kw extends Kv where
 j : Nat
 q : Nat
 C : World -> Nat -> Prop
 cup : ∀ {w w' B}, C w B -> Below w.heap.size w w' -> C w' B
 fr : ∀ {i v w w' B}, R i v w -> ButS (fun k => k = B) w w' -> Fv w B -> R i v w'
 vfr : ∀ {i w w' B B'}, V i w B' -> ButS (fun k => k = B) w w' -> Fv w B -> B' ≠ B -> V i w' B'
 vj : ∀ {w B}, V j w B -> Fv w B
 vy : ∀ {w B}, Fv w B -> V j w B
 hj : js j = true
 hq : js q = false
 tr : ∀ {v w}, R q v w
structure FlW (K : Kw) (W0 : World) (b : Nat -> Bool) (x : Nat -> Value) (W : World) : Prop where
 fl : FlV K.toKv W0 b x W
 ct : b K.q = true -> b K.j = true /\ ∀ B, x K.j = .pointer (some ⟨B, 0, none⟩) -> K.C W B
section
variable {K : Kw} {W0 W W' : World} {b : Nat -> Bool} {x : Nat -> Value}
theorem FlW.start (K : Kw) (W0 : World) (x : Nat -> Value) : FlW K W0 (fun _ => false) x W0.drew := ⟨FlV.start _ _ _, fun h => nomatch h⟩
theorem FlW.call (h : FlW K W0 b x W) {i : Nat} (hi : K.js i = false) (hiq : i ≠ K.q) {v : Value} (hR : K.R i v W') (hb : Below W.heap.size W W') : FlW K W0 (fset b i true) (fset x i v) W' := by
 have hij : K.j ≠ i := fun e => by have := K.hj; rw [e, hi] at this; cases this
 refine ⟨h.fl.call hi hR hb, fun hq => ?_⟩;rw [fset_ne _ _ (Ne.symm hiq)] at hq;rw [fset_ne _ _ hij, fset_ne _ _ hij];exact ⟨(h.ct hq).1, fun B hB => K.cup ((h.ct hq).2 B hB) hb⟩
theorem FlW.var (h : FlW K W0 b x W) {i : Nat} (hi : K.js i = true) (hbi : b i = false) (hV : K.V i W' W.heap.size) (hb : Below W.heap.size W W') : FlW K W0 (fset b i true) (fset x i (.pointer (some ⟨W.heap.size, 0, none⟩))) W' := by
 have hiq : K.q ≠ i := fun e => by have := K.hq; rw [e, hi] at this; cases this
 refine ⟨h.fl.var hi hV hb, fun hq => ?_⟩;rw [fset_ne _ _ hiq] at hq;have hij : K.j ≠ i := fun e => by have := (h.ct hq).1; rw [e, hbi] at this; cases this
 rw [fset_ne _ _ hij, fset_ne _ _ hij];exact ⟨(h.ct hq).1, fun B hB => K.cup ((h.ct hq).2 B hB) hb⟩
theorem FlW.sto (h : FlW K W0 b x W) {i : Nat} {f : Fz} (h1 : Fx W (x i) f) (h4 : b K.j = true) : ∃ p, Sto W (x i) (x K.j) p := by
 obtain ⟨B, g1, -, g3⟩ := h.fl.pj K.j K.hj h4;obtain ⟨y, e, -⟩ := h1.shape;obtain ⟨z, d0, d1, d2, d3, d4, f0, f1, f2, f3, f4⟩ := (K.vj g3).cells;exact ⟨(B, y, z), e, g1, d0, d1, d2, d3, d4, f0, f1, f2, f3, f4⟩
theorem FlW.st (h : FlW K W0 b x W) {i : Nat} (h4 : b K.j = true) {p : Nat × FvT × FvT} (hp : Sto W (x i) (x K.j) p) (hC : Fv W p.1 -> K.C (fput W p.1 p.2.1) p.1) {v : Value} : FlW K W0 (fset b K.q true) (fset x K.q v) (fput W p.1 p.2.1) := by
 obtain ⟨B, g1, g2, g3⟩ := h.fl.pj K.j K.hj h4;have e := g1;rw [hp.b] at e;injection e with e;injection e with e;injection e with e;subst e;have hF := K.vj g3;have hbu := fput_but W p.1 p.2.1;have hne : ∀ k, K.js k = true -> k ≠ K.q := fun k hk e => by have := K.hq; rw [<- e, hk] at this; cases this
 refine ⟨⟨ButS.below h.fl.bl hbu h.fl.bl.size (fun g e => by omega), fun k hk hbk => ?_, fun k hk hbk => ?_, fun k l hk hl hkl hbk hbl => ?_⟩, fun _ => ?_⟩
 ·by_cases e : k = K.q
  ·subst e; exact K.tr
  ·rw [fset_ne _ _ e] at hbk |-; exact K.fr (h.fl.pr k hk hbk) hbu hF
 ·rw [fset_ne _ _ (hne k hk)] at hbk |-;obtain ⟨B', e1, e2, e3⟩ := h.fl.pj k hk hbk;by_cases e : k = K.j
  ·subst e;rw [g1] at e1;injection e1 with e1;injection e1 with e1;injection e1 with e1;subst e1;exact ⟨_, g1, e2, K.vy ⟨_, fput_heap hF _⟩⟩
  ·refine ⟨B', e1, e2, K.vfr e3 hbu hF (fun e4 => h.fl.ne k K.j hk K.hj e hbk h4 (by rw [e1, g1, e4]))⟩
 ·rw [fset_ne _ _ (hne k hk)] at hbk |-;rw [fset_ne _ _ (hne l hl)] at hbl |-;exact h.fl.ne k l hk hl hkl hbk hbl
 ·rw [fset_ne _ _ (hne _ K.hj), fset_ne _ _ (hne _ K.hj)];refine ⟨h4, fun B hB => ?_⟩;rw [g1] at hB;injection hB with e;injection e with e;injection e with e;subst e;exact hC hF
end
end Go.Proofs.YtblebpmlkpobnaaGreat
