/-
  A region with calls, the last of which gives a factorization and a code, the factorization into a new variable.
-/
import Derived.Test.YtblebpmlkpobnaaGreatDoorFV
import Derived.Test.YtblebpmlkpobnaaGreatDoorFZA
set_option linter.unusedSimpArgs false
set_option linter.unusedVariables false
namespace Go.Proofs.YtblebpmlkpobnaaGreatDoor
open Go.RowKit
structure Kt where
 A : Nat -> Value -> World -> Prop
 up : ∀ {i v w w'}, A i v w -> Below w.heap.size w w' -> A i v w'
 fr : ∀ {i v w w' B}, A i v w -> ButS (fun k => k = B) w w' -> Fv w B -> A i v w'
structure FlT (K : Kt) (T : Fz -> Int -> Prop) (q : Nat) (W0 : World) (b : Nat -> Bool) (x : Nat -> Value) (W : World) : Prop where
 bl : Below W0.heap.size W0 W
 pr : ∀ i, i < q -> b i = true -> K.A i (x i) W
 ca : b q = true -> ∃ u f code, x q = .tuple #[u, .int .i64 code] /\ Fx W u f /\ T f code /\ (b (q + 1) = true -> x (q + 1) = x q) /\ (b (q + 2) = true -> x (q + 2) = u) /\ (b (q + 3) = true -> x (q + 3) = .int .i64 code) /\ (b (q + 5) = true -> ∀ B, x (q + 4) = .pointer (some ⟨B, 0, none⟩) -> Bf W B f)
 vr : b (q + 4) = true -> ∃ B, x (q + 4) = .pointer (some ⟨B, 0, none⟩) /\ W0.heap.size <= B /\ Fv W B
 so : b (q + 5) = true -> b (q + 4) = true
 cq : (b (q + 1) = true \/ b (q + 2) = true \/ b (q + 3) = true \/ b (q + 5) = true) -> b q = true
section
variable {K : Kt} {T : Fz -> Int -> Prop} {q : Nat} {W0 W W' : World} {b : Nat -> Bool} {x : Nat -> Value}
theorem fb_ne {i k : Nat} (h : k ≠ i) : fset b i true k = b k := fset_ne _ _ h
theorem fx_ne {i k : Nat} {v : Value} (h : k ≠ i) : fset x i v k = x k := fset_ne _ _ h
theorem FlT.start (K : Kt) (T : Fz -> Int -> Prop) (q : Nat) (W0 : World) (x : Nat -> Value) : FlT K T q W0 (fun _ => false) x W0.drew :=
 ⟨(Below.refl _ _).drew, (fun _ _ h => nomatch h), (fun h => nomatch h), (fun h => nomatch h), (fun h => nomatch h), fun h => by rcases h with h | h | h | h <;> cases h⟩
theorem FlT.pre (h : FlT K T q W0 b x W) {i : Nat} (hi : i < q) {v : Value} (hv : K.A i v W') (hb : Below W.heap.size W W') : FlT K T q W0 (fset b i true) (fset x i v) W' := by
 refine ⟨h.bl.trans (hb.mono h.bl.size), fun k hk hbk => ?_, fun hc => ?_, fun hv => ?_, fun hs => ?_, fun hc => ?_⟩
 ·by_cases e : k = i
  ·subst e; rw [fset_same]; exact hv
  ·rw [fb_ne e] at hbk; rw [fx_ne e]; exact K.up (h.pr k hk hbk) hb
 ·rw [fb_ne (by omega)] at hc;obtain ⟨u, f, code, e1, e2, e3, e4, e5, e6, e7⟩ := h.ca hc;rw [fx_ne (by omega), fx_ne (by omega), fx_ne (by omega), fx_ne (by omega), fx_ne (by omega), fb_ne (by omega), fb_ne (by omega), fb_ne (by omega), fb_ne (by omega)];exact ⟨u, f, code, e1, e2.up hb, e3, e4, e5, e6, fun hs B hB => (e7 hs B hB).up hb⟩
 ·rw [fb_ne (by omega)] at hv;rw [fx_ne (by omega)];obtain ⟨B, e1, e2, e3⟩ := h.vr hv;exact ⟨B, e1, e2, e3.up hb⟩
 ·rw [fb_ne (by omega)] at hs |-; exact h.so hs
 ·rw [fb_ne (by omega), fb_ne (by omega), fb_ne (by omega), fb_ne (by omega)] at hc; rw [fb_ne (by omega)]; exact h.cq hc
theorem FlT.call (h : FlT K T q W0 b x W) (hbq : b q = false) {u : Value} {f : Fz} {code : Int} (hu : Fx W' u f) (hT : T f code) (hb : Below W.heap.size W W') :
  FlT K T q W0 (fset b q true) (fset x q (.tuple #[u, .int .i64 code])) W' := by
 have hno : ∀ {i}, (i = q + 1 \/ i = q + 2 \/ i = q + 3 \/ i = q + 5) -> b i ≠ true := fun hi e => by
  have : b q = true := h.cq (by rcases hi with rfl | rfl | rfl | rfl <;> simp [e]);rw [this] at hbq; cases hbq
 refine ⟨h.bl.trans (hb.mono h.bl.size), fun k hk hbk => ?_, fun _ => ?_, fun hv => ?_, fun hs => ?_, fun _ => fset_same _ _ _⟩
 ·rw [fb_ne (by omega)] at hbk; rw [fx_ne (by omega)]; exact K.up (h.pr k hk hbk) hb
 ·rw [fset_same, fb_ne (by omega), fb_ne (by omega), fb_ne (by omega), fb_ne (by omega)];exact ⟨u, f, code, rfl, hu, hT, fun e => absurd e (hno (.inl rfl)), fun e => absurd e (hno (.inr (.inl rfl))), fun e => absurd e (hno (.inr (.inr (.inl rfl)))), fun e => absurd e (hno (.inr (.inr (.inr rfl))))⟩
 ·rw [fb_ne (by omega)] at hv;rw [fx_ne (by omega)];obtain ⟨B, e1, e2, e3⟩ := h.vr hv;exact ⟨B, e1, e2, e3.up hb⟩
 ·rw [fb_ne (by omega)] at hs |-; exact h.so hs
theorem FlT.var (h : FlT K T q W0 b x W) (hbj : b (q + 4) = false) (hV : Fv W' W.heap.size) (hb : Below W.heap.size W W') : FlT K T q W0 (fset b (q + 4) true) (fset x (q + 4) (.pointer (some ⟨W.heap.size, 0, none⟩))) W' := by
 have hno : b (q + 5) ≠ true := fun e => by rw [h.so e] at hbj; cases hbj
 refine ⟨h.bl.trans (hb.mono h.bl.size), fun k hk hbk => ?_, fun hc => ?_, fun _ => ⟨_, fset_same _ _ _, h.bl.size, hV⟩, fun _ => fset_same _ _ _, fun hc => ?_⟩
 ·rw [fb_ne (by omega)] at hbk; rw [fx_ne (by omega)]; exact K.up (h.pr k hk hbk) hb
 ·rw [fb_ne (by omega)] at hc;obtain ⟨u, f, code, e1, e2, e3, e4, e5, e6, e7⟩ := h.ca hc;refine ⟨u, f, code, by rw [fx_ne (by omega)]; exact e1, e2.up hb, e3, ?_, ?_, ?_, fun hs => ?_⟩
  ·rw [fb_ne (by omega), fx_ne (by omega), fx_ne (by omega)]; exact e4
  ·rw [fb_ne (by omega), fx_ne (by omega)]; exact e5
  ·rw [fb_ne (by omega), fx_ne (by omega)]; exact e6
  ·rw [fb_ne (by omega)] at hs; exact absurd hs hno
 ·rw [fb_ne (by omega), fb_ne (by omega), fb_ne (by omega), fb_ne (by omega)] at hc; rw [fb_ne (by omega)]; exact h.cq hc
theorem FlT.st (h : FlT K T q W0 b x W) (hbq : b q = true) (hbj : b (q + 4) = true) {B : Nat} (hB : x (q + 4) = .pointer (some ⟨B, 0, none⟩)) {y : FvT} {code : Int}
  (hx : x q = .tuple #[.agg #[.bool y.s, .slice y.a y.n y.c, .slice y.a2 y.n2 y.c2, .slice y.a3 y.n3 y.c3, .int .i64 y.b], .int .i64 code]) {v : Value} :
  FlT K T q W0 (fset b (q + 5) true) (fset x (q + 5) v) (fput W B y) := by
 obtain ⟨B', e, hB0, hF⟩ := h.vr hbj;rw [hB] at e;injection e with e;injection e with e;injection e with e;subst e;have hbu := fput_but W B y;have hnw : ∀ g, g = B -> NoW W g := fun g e => by rw [e]; exact hF.nw
 refine ⟨ButS.below h.bl hbu h.bl.size (fun g e => by omega), fun k hk hbk => ?_, fun _ => ?_, fun _ => ⟨B, by rw [fx_ne (by omega)]; exact hB, hB0, ?_⟩, fun _ => by rw [fb_ne (by omega)]; exact hbj, fun _ => by rw [fb_ne (by omega)]; exact hbq⟩
 ·rw [fb_ne (by omega)] at hbk; rw [fx_ne (by omega)]; exact K.fr (h.pr k hk hbk) hbu hF
 ·obtain ⟨u, f, code', e1, e2, e3, e4, e5, e6, -⟩ := h.ca hbq;have e1' := e1;rw [hx] at e1';injection e1' with e1';injection e1' with e1';injection e1' with e1' e1'';subst e1';refine ⟨_, f, code', by rw [fx_ne (by omega)]; exact e1, e2.fr hbu hnw hF (fun g e => e), e3, ?_, ?_, ?_, fun _ B'' hB'' => ?_⟩
  ·rw [fb_ne (by omega), fx_ne (by omega), fx_ne (by omega)]; exact e4
  ·rw [fb_ne (by omega), fx_ne (by omega)]; exact e5
  ·rw [fb_ne (by omega), fx_ne (by omega)]; exact e6
  ·rw [fx_ne (by omega), hB] at hB'';injection hB'' with e;injection e with e;injection e with e;rw [<- e];exact Bf.put hF e2
 ·exact ⟨y, fput_heap hF y⟩
structure Sto (W : World) (x2 x4 : Value) (p : Nat × FvT × FvT) : Prop where
 v : x2 = .agg #[.bool p.2.1.s, .slice p.2.1.a p.2.1.n p.2.1.c, .slice p.2.1.a2 p.2.1.n2 p.2.1.c2, .slice p.2.1.a3 p.2.1.n3 p.2.1.c3, .int .i64 p.2.1.b]
 b : x4 = .pointer (some ⟨p.1, 0, none⟩)
 d0 : W.cell? ⟨p.1, 0, none⟩ = some (.bool p.2.2.s)
 d1 : W.cell? ⟨p.1, 1, none⟩ = some (.slice p.2.2.a p.2.2.n p.2.2.c)
 d2 : W.cell? ⟨p.1, 2, none⟩ = some (.slice p.2.2.a2 p.2.2.n2 p.2.2.c2)
 d3 : W.cell? ⟨p.1, 3, none⟩ = some (.slice p.2.2.a3 p.2.2.n3 p.2.2.c3)
 d4 : W.cell? ⟨p.1, 4, none⟩ = some (.int .i64 p.2.2.b)
 f0 : W.frozen? ⟨p.1, 0, none⟩ = false
 f1 : W.frozen? ⟨p.1, 1, none⟩ = false
 f2 : W.frozen? ⟨p.1, 2, none⟩ = false
 f3 : W.frozen? ⟨p.1, 3, none⟩ = false
 f4 : W.frozen? ⟨p.1, 4, none⟩ = false
theorem FlT.out (h : FlT K T q W0 b x W) (hb : ∀ i, q <= i -> i <= q + 5 -> b i = true) : ∃ u f code B, x q = .tuple #[u, .int .i64 code] /\ x (q + 1) = .tuple #[u, .int .i64 code] /\ x (q + 2) = u /\ x (q + 3) = .int .i64 code /\ x (q + 4) = .pointer (some ⟨B, 0, none⟩) /\ T f code /\ Bf W B f /\ W0.heap.size <= B /\ Below W0.heap.size W0 W := by
 obtain ⟨u, f, code, e1, e2, e3, e4, e5, e6, e7⟩ := h.ca (hb q (Nat.le_refl _) (by omega));obtain ⟨B, g1, g2, g3⟩ := h.vr (hb (q + 4) (by omega) (by omega));exact ⟨u, f, code, B, e1, (e4 (hb _ (by omega) (by omega))).trans e1, e5 (hb _ (by omega) (by omega)), e6 (hb _ (by omega) (by omega)), g1, e3, e7 (hb _ (by omega) (by omega)) B g1, g2, h.bl⟩
end
end Go.Proofs.YtblebpmlkpobnaaGreatDoor
