/-
  algoristlaw12.LatticeSolves: the walk.
-/
import Derived.Test.YtdbpkoddfcdhdaaGreatPH
import Derived.Test.YtdbpkoddfcdhdaaGreatPV
import Derived.Test.YtdbpkoddfcdhdaaGreatPO
import Derived.Test.YtdbpkoddfcdhdaaGreatRG
import Derived.Test.YtdbpkoddfcdhdaaGreatRH
set_option linter.unusedSimpArgs false
set_option linter.unusedVariables false

namespace Go.Proofs.YtdbpkoddfcdhdaaGreat
open Go.RowKit
attribute [local go_sem ↓] Go.wp_at_zero Go.wp_at_succ

/-- What lasts: the arrays, the matrix. -/
structure SvF (w : World) (Bc Bv : Nat) (c0 c1 c2 c3 v0 v1 v2 v3 : Int) (vm : Value) (m : List (List Int)) (W : World) : Prop where
  bl : Below w.heap.size w W
  y0 : W.cell? ⟨Bc, 0, none⟩ = some (.int .i16 c0)
  y1 : W.cell? ⟨Bc, 1, none⟩ = some (.int .i16 c1)
  y2 : W.cell? ⟨Bc, 2, none⟩ = some (.int .i16 c2)
  y3 : W.cell? ⟨Bc, 3, none⟩ = some (.int .i16 c3)
  z0 : W.cell? ⟨Bv, 0, none⟩ = some (.int .i8 v0)
  z1 : W.cell? ⟨Bv, 1, none⟩ = some (.int .i8 v1)
  z2 : W.cell? ⟨Bv, 2, none⟩ = some (.int .i8 v2)
  z3 : W.cell? ⟨Bv, 3, none⟩ = some (.int .i8 v3)
  mx : Mx W vm m
theorem SvF.up {w : World} {Bc Bv : Nat} {c0 c1 c2 c3 v0 v1 v2 v3 : Int} {vm : Value} {m : List (List Int)} {W W' : World} (h : SvF w Bc Bv c0 c1 c2 c3 v0 v1 v2 v3 vm m W) (hb : Below W.heap.size W W') : SvF w Bc Bv c0 c1 c2 c3 v0 v1 v2 v3 vm m W' :=
  ⟨Bl.up h.bl hb, keepc hb h.y0, keepc hb h.y1, keepc hb h.y2, keepc hb h.y3, keepc hb h.z0, keepc hb h.z1, keepc hb h.z2, keepc hb h.z3, h.mx.up hb⟩

/-- .. and the two rows. -/
structure SvG (w : World) (Bc Bv : Nat) (c0 c1 c2 c3 v0 v1 v2 v3 : Int) (vm : Value) (m : List (List Int)) (B n : Nat) (a0 a1 : Option Addr) (k0 k1 : Nat) (l0 l1 : List Int) (W : World) : Prop where
  F : SvF w Bc Bv c0 c1 c2 c3 v0 v1 v2 v3 vm m W
  e0 : W.cell? ⟨B, 0, none⟩ = some (.slice a0 n k0)
  e1 : W.cell? ⟨B, 1, none⟩ = some (.slice a1 n k1)
  r0 : Rw W (.slice a0 n k0) l0
  r1 : Rw W (.slice a1 n k1) l1
theorem SvG.up {w : World} {Bc Bv : Nat} {c0 c1 c2 c3 v0 v1 v2 v3 : Int} {vm : Value} {m : List (List Int)} {B n : Nat} {a0 a1 : Option Addr} {k0 k1 : Nat} {l0 l1 : List Int} {W W' : World} (h : SvG w Bc Bv c0 c1 c2 c3 v0 v1 v2 v3 vm m B n a0 a1 k0 k1 l0 l1 W) (hb : Below W.heap.size W W') : SvG w Bc Bv c0 c1 c2 c3 v0 v1 v2 v3 vm m B n a0 a1 k0 k1 l0 l1 W' :=
  ⟨h.F.up hb, keepc hb h.e0, keepc hb h.e1, h.r0.up hb, h.r1.up hb⟩

/-- Four numbers lie in a block. -/
def C4 (w : World) (b : Nat) (l0 l1 l2 l3 : Int) : Prop := ∀ i, i < 4 → w.cell? ⟨b, 0 + i, none⟩ = some (.int .i64 ([l0, l1, l2, l3].getD i 0))
theorem C4.up {w w' : World} {b : Nat} {l0 l1 l2 l3 : Int} (h : C4 w b l0 l1 l2 l3) (hb : Below w.heap.size w w') : C4 w' b l0 l1 l2 l3 := fun i hi => keepc hb (h i hi)
theorem C4.new (w : World) (T : Nat) (l0 l1 l2 l3 : Int) : C4 (w.alloc (.cells #[.int .i64 l0, .int .i64 l1, .int .i64 l2, .int .i64 l3] T)) w.heap.size l0 l1 l2 l3 := fun i hi => by
  rw [World.cell?_alloc_at _ _ _ _ rfl]
  rcases i with _ | _ | _ | _ | i
  · rfl
  · rfl
  · rfl
  · rfl
  · omega
theorem C4.new' (w : World) (T b : Nat) (l0 l1 l2 l3 : Int) (h : b = w.heap.size) : C4 (w.alloc (.cells #[.int .i64 l0, .int .i64 l1, .int .i64 l2, .int .i64 l3] T)) b l0 l1 l2 l3 := by subst h; exact C4.new w T l0 l1 l2 l3
theorem row4 {w : World} {b : Nat} {l0 l1 l2 l3 : Int} (h : C4 w b l0 l1 l2 l3) (h0 : -32768 ≤ l0 ∧ l0 ≤ 32767) (h1 : -32768 ≤ l1 ∧ l1 ≤ 32767) (h2 : -32768 ≤ l2 ∧ l2 ≤ 32767) (h3 : -32768 ≤ l3 ∧ l3 ≤ 32767) :
    Calls Tryz.prog 17 #[.slice (some ⟨b, 0, none⟩) 4 4] w fun e w' => ∃ v, e = .returned v ∧ Rw w' v [l0, l1, l2, l3] ∧ Below w.heap.size w w' :=
  row_any b 0 4 4 [l0, l1, l2, l3] w rfl (by decide) h (fun i hi => by
    rcases i with _ | _ | _ | _ | i
    · exact (show -9223372036854775808 ≤ l0 ∧ l0 ≤ 9223372036854775807 by omega)
    · exact (show -9223372036854775808 ≤ l1 ∧ l1 ≤ 9223372036854775807 by omega)
    · exact (show -9223372036854775808 ≤ l2 ∧ l2 ≤ 9223372036854775807 by omega)
    · exact (show -9223372036854775808 ≤ l3 ∧ l3 ≤ 9223372036854775807 by omega)
    · omega)

/-- The two rows of numbers, whatever of them is there. -/
structure Two (w0 : World) (Bc Bv : Nat) (c0 c1 c2 c3 v0 v1 v2 v3 : Int) (b : Nat → Bool) (x : Nat → Value) (W : World) : Prop where
  bl : Below w0.heap.size w0 W
  y0 : W.cell? ⟨Bc, 0, none⟩ = some (.int .i16 c0)
  y1 : W.cell? ⟨Bc, 1, none⟩ = some (.int .i16 c1)
  y2 : W.cell? ⟨Bc, 2, none⟩ = some (.int .i16 c2)
  y3 : W.cell? ⟨Bc, 3, none⟩ = some (.int .i16 c3)
  z0 : W.cell? ⟨Bv, 0, none⟩ = some (.int .i8 v0)
  z1 : W.cell? ⟨Bv, 1, none⟩ = some (.int .i8 v1)
  z2 : W.cell? ⟨Bv, 2, none⟩ = some (.int .i8 v2)
  z3 : W.cell? ⟨Bv, 3, none⟩ = some (.int .i8 v3)
  p12 : b 12 = true → ∃ B, x 12 = .slice (some ⟨B, 0, none⟩) 4 4 ∧ C4 W B v0 v1 v2 v3
  p13 : b 13 = true → ∃ a c, x 13 = .slice a 4 c ∧ 4 ≤ c ∧ Rw W (.slice a 4 c) [v0, v1, v2, v3]
  p26 : b 26 = true → ∃ B, x 26 = .slice (some ⟨B, 0, none⟩) 4 4 ∧ C4 W B c0 c1 c2 c3
  p27 : b 27 = true → ∃ a c, x 27 = .slice a 4 c ∧ 4 ≤ c ∧ Rw W (.slice a 4 c) [c0, c1, c2, c3]
section
variable {w0 : World} {Bc Bv : Nat} {c0 c1 c2 c3 v0 v1 v2 v3 : Int} {b : Nat → Bool} {x : Nat → Value} {W W' : World}
theorem Two.up (h : Two w0 Bc Bv c0 c1 c2 c3 v0 v1 v2 v3 b x W) (hb : Below W.heap.size W W') : Two w0 Bc Bv c0 c1 c2 c3 v0 v1 v2 v3 b x W' :=
  ⟨Bl.up h.bl hb, keepc hb h.y0, keepc hb h.y1, keepc hb h.y2, keepc hb h.y3, keepc hb h.z0, keepc hb h.z1, keepc hb h.z2, keepc hb h.z3,
    fun e => by obtain ⟨B, h1, h2⟩ := h.p12 e; exact ⟨B, h1, h2.up hb⟩, fun e => by obtain ⟨a, c, h1, h2, h3⟩ := h.p13 e; exact ⟨a, c, h1, h2, h3.up hb⟩,
    fun e => by obtain ⟨B, h1, h2⟩ := h.p26 e; exact ⟨B, h1, h2.up hb⟩, fun e => by obtain ⟨a, c, h1, h2, h3⟩ := h.p27 e; exact ⟨a, c, h1, h2, h3.up hb⟩⟩
theorem Two.s12 (h : Two w0 Bc Bv c0 c1 c2 c3 v0 v1 v2 v3 b x W) {B : Nat} (hc : C4 W B v0 v1 v2 v3) : Two w0 Bc Bv c0 c1 c2 c3 v0 v1 v2 v3 (fset b 12 true) (fset x 12 (.slice (some ⟨B, 0, none⟩) 4 4)) W :=
  { h with p12 := fun _ => ⟨B, fset_same _ _ _, hc⟩, p13 := h.p13, p26 := h.p26, p27 := h.p27 }
theorem Two.s26 (h : Two w0 Bc Bv c0 c1 c2 c3 v0 v1 v2 v3 b x W) {B : Nat} (hc : C4 W B c0 c1 c2 c3) : Two w0 Bc Bv c0 c1 c2 c3 v0 v1 v2 v3 (fset b 26 true) (fset x 26 (.slice (some ⟨B, 0, none⟩) 4 4)) W :=
  { h with p26 := fun _ => ⟨B, fset_same _ _ _, hc⟩, p13 := h.p13, p12 := h.p12, p27 := h.p27 }
theorem Two.s13 (h : Two w0 Bc Bv c0 c1 c2 c3 v0 v1 v2 v3 b x W) {a : Option Addr} {c : Nat} (h0 : 4 ≤ c) (hc : Rw W (.slice a 4 c) [v0, v1, v2, v3]) : Two w0 Bc Bv c0 c1 c2 c3 v0 v1 v2 v3 (fset b 13 true) (fset x 13 (.slice a 4 c)) W :=
  { h with p13 := fun _ => ⟨a, c, fset_same _ _ _, h0, hc⟩, p12 := h.p12, p26 := h.p26, p27 := h.p27 }
theorem Two.s27 (h : Two w0 Bc Bv c0 c1 c2 c3 v0 v1 v2 v3 b x W) {a : Option Addr} {c : Nat} (h0 : 4 ≤ c) (hc : Rw W (.slice a 4 c) [c0, c1, c2, c3]) : Two w0 Bc Bv c0 c1 c2 c3 v0 v1 v2 v3 (fset b 27 true) (fset x 27 (.slice a 4 c)) W :=
  { h with p27 := fun _ => ⟨a, c, fset_same _ _ _, h0, hc⟩, p13 := h.p13, p26 := h.p26, p12 := h.p12 }
end

set_option maxRecDepth 100000 in
set_option maxHeartbeats 8000000 in
theorem solvesL_any (r c : Nat) (a : Option Addr) (cap : Nat) (V : List Int) (c0 c1 c2 c3 v0 v1 v2 v3 : Int) (w : World) (hV : Cl w a V.length (fun i => .int .i8 (V.getD i 0))) (hv : ∀ i, -128 ≤ V.getD i 0 ∧ V.getD i 0 ≤ 127) (hN : V.length ≤ 9223372036854775807)
    (hr : r ≤ 255) (hc : c ≤ 255) (g0 : -32768 ≤ c0 ∧ c0 ≤ 32767) (g1 : -32768 ≤ c1 ∧ c1 ≤ 32767) (g2 : -32768 ≤ c2 ∧ c2 ≤ 32767) (g3 : -32768 ≤ c3 ∧ c3 ≤ 32767) (h0 : -128 ≤ v0 ∧ v0 ≤ 127) (h1 : -128 ≤ v1 ∧ v1 ≤ 127) (h2 : -128 ≤ v2 ∧ v2 ≤ 127) (h3 : -128 ≤ v3 ∧ v3 ≤ 127) :
    Calls Tryz.prog 4 #[.agg #[.int .u8 (r : Int), .int .u8 (c : Int), .slice a V.length cap], .agg #[.int .i16 c0, .int .i16 c1, .int .i16 c2, .int .i16 c3], .agg #[.int .i8 v0, .int .i8 v1, .int .i8 v2, .int .i8 v3]] w fun e w' => e = .returned (.bool true) ∧ Below w.heap.size w w' := by
  have CM := Lib.hid fun W (hW : Below w.heap.size w W) => rmade_any r c 4 4 a cap V W (hV.up hW) hv hN hr hc (by decide) (by decide) (by decide)
  have hnb : c % 4 < 4 := Nat.mod_lt _ (by decide)
  have hRb : r % (4 + 1) < 4 + 1 := Nat.mod_lt _ (by decide)
  have hbt := madeM_bt V (r % (4 + 1)) (1 + c % 4) hv
  have hsh := madeM_shape V (r % (4 + 1)) (1 + c % 4)
  obtain ⟨n, hn⟩ : ∃ n, n = 1 + c % 4 := ⟨_, rfl⟩
  obtain ⟨R, hR⟩ : ∃ R, R = r % (4 + 1) := ⟨_, rfl⟩
  have hn0 : 0 < n := by omega
  have hn1 : n ≤ 4 := by omega
  have hR1 : R ≤ 4 := by omega
  rw [← hn, ← hR] at hbt hsh
  simp only [← hn, ← hR] at CM
  generalize hm : madeM V R n = m at *
  clear hm hn hR hnb hRb hv hV hN
  go_enter Tryz.func4, Tryz.ntmps4
  go_wp2_with fail
  obtain ⟨W2, hW2⟩ : ∃ W2, W2 = ((w.alloc (.cells #[.int .u8 (r : Int), .int .u8 (c : Int), .slice a V.length cap] 24)).alloc (.cells #[.int .i16 c0, .int .i16 c1, .int .i16 c2, .int .i16 c3] 44)).alloc (.cells #[.int .i8 v0, .int .i8 v1, .int .i8 v2, .int .i8 v3] 46) := ⟨_, rfl⟩
  have b2 : Below w.heap.size w W2 := by rw [hW2]; exact Bl.alloc (Bl.alloc (below_new _ _) _) _
  have x0 : W2.cell? ⟨w.heap.size, 0, none⟩ = some (.int .u8 (r : Int)) := by rw [hW2]; exact cellN (cellN (by rw [World.cell?_alloc_at _ _ _ _ rfl]; rfl) _) _
  have x1 : W2.cell? ⟨w.heap.size, 1, none⟩ = some (.int .u8 (c : Int)) := by rw [hW2]; exact cellN (cellN (by rw [World.cell?_alloc_at _ _ _ _ rfl]; rfl) _) _
  have x2 : W2.cell? ⟨w.heap.size, 2, none⟩ = some (.slice a V.length cap) := by rw [hW2]; exact cellN (cellN (by rw [World.cell?_alloc_at _ _ _ _ rfl]; rfl) _) _
  have y0 : W2.cell? ⟨w.heap.size + 1, 0, none⟩ = some (.int .i16 c0) := by rw [hW2]; exact cellN (by rw [World.cell?_alloc_at _ _ _ _ (by simp)]; rfl) _
  have y1 : W2.cell? ⟨w.heap.size + 1, 1, none⟩ = some (.int .i16 c1) := by rw [hW2]; exact cellN (by rw [World.cell?_alloc_at _ _ _ _ (by simp)]; rfl) _
  have y2 : W2.cell? ⟨w.heap.size + 1, 2, none⟩ = some (.int .i16 c2) := by rw [hW2]; exact cellN (by rw [World.cell?_alloc_at _ _ _ _ (by simp)]; rfl) _
  have y3 : W2.cell? ⟨w.heap.size + 1, 3, none⟩ = some (.int .i16 c3) := by rw [hW2]; exact cellN (by rw [World.cell?_alloc_at _ _ _ _ (by simp)]; rfl) _
  have z0 : W2.cell? ⟨w.heap.size + 1 + 1, 0, none⟩ = some (.int .i8 v0) := by rw [hW2, World.cell?_alloc_at _ _ _ _ (by simp)]; rfl
  have z1 : W2.cell? ⟨w.heap.size + 1 + 1, 1, none⟩ = some (.int .i8 v1) := by rw [hW2, World.cell?_alloc_at _ _ _ _ (by simp)]; rfl
  have z2 : W2.cell? ⟨w.heap.size + 1 + 1, 2, none⟩ = some (.int .i8 v2) := by rw [hW2, World.cell?_alloc_at _ _ _ _ (by simp)]; rfl
  have z3 : W2.cell? ⟨w.heap.size + 1 + 1, 3, none⟩ = some (.int .i8 v3) := by rw [hW2, World.cell?_alloc_at _ _ _ _ (by simp)]; rfl
  rw [← hW2]
  clear hW2
  refine (examples_any _).mono ?_
  rintro e W3 ⟨rfl, hb⟩
  replace b2 := Bl.up b2 hb
  replace x0 := keepc hb x0
  replace x1 := keepc hb x1
  replace x2 := keepc hb x2
  replace y0 := keepc hb y0
  replace y1 := keepc hb y1
  replace y2 := keepc hb y2
  replace y3 := keepc hb y3
  replace z0 := keepc hb z0
  replace z1 := keepc hb z1
  replace z2 := keepc hb z2
  replace z3 := keepc hb z3
  clear hb
  go_wp2_with fail
  refine (CM.out _ b2).mono ?_
  rintro e W4 ⟨vm, rfl, hM, hb⟩
  generalize w.heap.size + 1 + 1 = Bv at *
  generalize w.heap.size + 1 = Bc at *
  have F : SvF w Bc Bv c0 c1 c2 c3 v0 v1 v2 v3 vm m W4 := ⟨Bl.up b2 hb, keepc hb y0, keepc hb y1, keepc hb y2, keepc hb y3, keepc hb z0, keepc hb z1, keepc hb z2, keepc hb z3, hM⟩
  clear hb b2 x0 x1 x2 y0 y1 y2 y3 z0 z1 z2 z3 hM CM
  obtain ⟨am, cm, rfl, -, hMi⟩ := id F.mx
  rw [hsh.1] at F ⊢
  rcases Nat.eq_zero_or_pos R with hR0 | hR0
  · subst hR0
    have e : m = [] := List.eq_nil_of_length_eq_zero hsh.1
    subst e
    have z0 := F.z0
    go_wp2_with fail
    refine (row_any W4.heap.size 0 1 1 [v0] _ rfl (by decide) (fun i hi => by obtain rfl : i = 0 := (by omega); rw [World.cell?_alloc_at _ _ _ _ rfl]; rfl) (fun i hi => by obtain rfl : i = 0 := (by omega); exact (show -9223372036854775808 ≤ v0 ∧ v0 ≤ 9223372036854775807 by omega))).mono ?_
    rintro e W5 ⟨vl, rfl, hl, hb⟩
    have hb5 := (below_new W4 _).trans (hb.mono (by simp))
    replace F := F.up hb5
    clear hb hb5 z0
    go_wp2_with fail
    refine (In_n _ vl [v0] _ F.mx hl (by simp)).mono ?_
    rintro e W6 ⟨rfl, hb⟩
    replace F := F.up hb
    have z0 := F.z0
    clear hb hl
    have hbb : (!([v0] : List Int).any nz) = (v0 == 0) := by simp [nz]; rfl
    rw [hbb]
    go_wp2_with fail
    go_ret
    exact ⟨rfl, F.bl⟩
  · have hRne : ((R : Int) == 0) = false := by rw [beq_eq_false_iff_ne]; omega
    have hR0' : (0 : Int) < (R : Int) := by omega
    obtain ⟨xb, xo, ar, k1, rfl, hxb, p0, hk1, -⟩ := F.mx.row hsh hR0
    rw [Nat.add_zero] at p0
    have y0 := F.y0
    have y1 := F.y1
    have y2 := F.y2
    have y3 := F.y3
    have z0 := F.z0
    have z1 := F.z1
    have z2 := F.z2
    have z3 := F.z3
    clear hMi
    go_upto_region 9 with fail
    go_cut [12, 13] (fun s12 s13 wd => ∃ (aA : Option Addr) (cA : Nat) (aB : Option Addr) (cB : Nat), s12 = .slice aA 4 cA ∧ s13 = .slice aB 4 cB ∧ 4 ≤ cA ∧ Rw wd (.slice aA 4 cA) [v0, v1, v2, v3] ∧ Rw wd (.slice aB 4 cB) [c0, c1, c2, c3] ∧ Below W4.heap.size W4 wd)
    case first =>
      --[
      have HF := Lib.hid F
      clear F p0 hbt hsh
      have e0 : IntKind.i64.wrap v0 = v0 := IntWalk.i64_in _ (by omega)
      have e1 : IntKind.i64.wrap v1 = v1 := IntWalk.i64_in _ (by omega)
      have e2 : IntKind.i64.wrap v2 = v2 := IntWalk.i64_in _ (by omega)
      have e3 : IntKind.i64.wrap v3 = v3 := IntWalk.i64_in _ (by omega)
      have e4 : IntKind.i64.wrap c0 = c0 := IntWalk.i64_in _ (by omega)
      have e5 : IntKind.i64.wrap c1 = c1 := IntWalk.i64_in _ (by omega)
      have e6 : IntKind.i64.wrap c2 = c2 := IntWalk.i64_in _ (by omega)
      have e7 : IntKind.i64.wrap c3 = c3 := IntWalk.i64_in _ (by omega)
      refine wp_region_T (by kernel_rfl) [] (S := fun w' => w'.cell? ⟨Bv, 0, none⟩ = some (.int .i8 v0) ∧ w'.cell? ⟨Bv, 1, none⟩ = some (.int .i8 v1) ∧ w'.cell? ⟨Bv, 2, none⟩ = some (.int .i8 v2) ∧ w'.cell? ⟨Bv, 3, none⟩ = some (.int .i8 v3) ∧ w'.cell? ⟨Bc, 0, none⟩ = some (.int .i16 c0) ∧ w'.cell? ⟨Bc, 1, none⟩ = some (.int .i16 c1) ∧ w'.cell? ⟨Bc, 2, none⟩ = some (.int .i16 c2) ∧ w'.cell? ⟨Bc, 3, none⟩ = some (.int .i16 c3)) ⟨z0, z1, z2, z3, y0, y1, y2, y3⟩ (fun hHeld => ?_)
      (refine tP 0 rfl ?_; (try simp only [lay, List.getElem_toArray, List.getElem_cons_succ, List.getElem_cons_zero]))
      (refine tK 1 rfl ?_; (try simp only [lay, List.getElem_toArray, List.getElem_cons_succ, List.getElem_cons_zero]))
      (refine tP 2 rfl ?_; (try simp only [lay, List.getElem_toArray, List.getElem_cons_succ, List.getElem_cons_zero]))
      (refine tP 3 rfl ?_; (try simp only [lay, List.getElem_toArray, List.getElem_cons_succ, List.getElem_cons_zero]))
      (refine tK 4 rfl ?_; (try simp only [lay, List.getElem_toArray, List.getElem_cons_succ, List.getElem_cons_zero]))
      (refine tP 5 rfl ?_; (try simp only [lay, List.getElem_toArray, List.getElem_cons_succ, List.getElem_cons_zero]))
      (refine tP 6 rfl ?_; (try simp only [lay, List.getElem_toArray, List.getElem_cons_succ, List.getElem_cons_zero]))
      (refine tK 7 rfl ?_; (try simp only [lay, List.getElem_toArray, List.getElem_cons_succ, List.getElem_cons_zero]))
      (refine tP 8 rfl ?_; (try simp only [lay, List.getElem_toArray, List.getElem_cons_succ, List.getElem_cons_zero]))
      (refine tP 9 rfl ?_; (try simp only [lay, List.getElem_toArray, List.getElem_cons_succ, List.getElem_cons_zero]))
      (refine tK 10 rfl ?_; (try simp only [lay, List.getElem_toArray, List.getElem_cons_succ, List.getElem_cons_zero]))
      (refine tP 11 rfl ?_; (try simp only [lay, List.getElem_toArray, List.getElem_cons_succ, List.getElem_cons_zero]))
      (refine tP 14 rfl ?_; (try simp only [lay, List.getElem_toArray, List.getElem_cons_succ, List.getElem_cons_zero]))
      (refine tK 15 rfl ?_; (try simp only [lay, List.getElem_toArray, List.getElem_cons_succ, List.getElem_cons_zero]))
      (refine tP 16 rfl ?_; (try simp only [lay, List.getElem_toArray, List.getElem_cons_succ, List.getElem_cons_zero]))
      (refine tP 17 rfl ?_; (try simp only [lay, List.getElem_toArray, List.getElem_cons_succ, List.getElem_cons_zero]))
      (refine tK 18 rfl ?_; (try simp only [lay, List.getElem_toArray, List.getElem_cons_succ, List.getElem_cons_zero]))
      (refine tP 19 rfl ?_; (try simp only [lay, List.getElem_toArray, List.getElem_cons_succ, List.getElem_cons_zero]))
      (refine tP 20 rfl ?_; (try simp only [lay, List.getElem_toArray, List.getElem_cons_succ, List.getElem_cons_zero]))
      (refine tK 21 rfl ?_; (try simp only [lay, List.getElem_toArray, List.getElem_cons_succ, List.getElem_cons_zero]))
      (refine tP 22 rfl ?_; (try simp only [lay, List.getElem_toArray, List.getElem_cons_succ, List.getElem_cons_zero]))
      (refine tP 23 rfl ?_; (try simp only [lay, List.getElem_toArray, List.getElem_cons_succ, List.getElem_cons_zero]))
      (refine tK 24 rfl ?_; (try simp only [lay, List.getElem_toArray, List.getElem_cons_succ, List.getElem_cons_zero]))
      (refine tP 25 rfl ?_; (try simp only [lay, List.getElem_toArray, List.getElem_cons_succ, List.getElem_cons_zero]))
      (try simp only [e0, e1, e2, e3, e4, e5, e6, e7])
      replace h0 : -32768 ≤ v0 ∧ v0 ≤ 32767 := by omega
      replace h1 : -32768 ≤ v1 ∧ v1 ≤ 32767 := by omega
      replace h2 : -32768 ≤ v2 ∧ v2 ≤ 32767 := by omega
      replace h3 : -32768 ≤ v3 ∧ v3 ≤ 32767 := by omega
      clear e0 e1 e2 e3 e4 e5 e6 e7 hHeld
      refine wpAnyT_all [(12, some 66), (13, some 67), (26, some 80), (27, some 81)] 2 (Two W4 Bc Bv c0 c1 c2 c3 v0 v1 v2 v3) rfl (by kernel_rfl) (by decide) (by kernel_rfl) (by kernel_rfl) (by kernel_rfl)
        (fun b x w h => ⟨h.z0, h.z1, h.z2, h.z3, h.y0, h.y1, h.y2, h.y3⟩) (fun x => ⟨Bl.drew (Below.refl _ _), y0, y1, y2, y3, z0, z1, z2, z3, (fun h => nomatch h), (fun h => nomatch h), (fun h => nomatch h), (fun h => nomatch h)⟩) ?_ ?_
      · intro i hi
        have hi' : i = 12 ∨ i = 13 ∨ i = 26 ∨ i = 27 := by simpa using hi
        clear hi z0 z1 z2 z3 y0 y1 y2 y3
        rcases hi' with rfl | rfl | rfl | rfl
        · refine ⟨_, rfl, fun b x w' hJ hb hw K hK => ?_⟩
          clear hb hw
          simp only [actsD, List.foldl_cons, List.foldl_nil, Act.put, List.setIfInBounds_toArray, List.set_cons_zero, List.set_cons_succ] at hK ⊢
          go_simp
          exact hK.out _ _ ((hJ.up (below_new _ _)).s12 (C4.new w' 2 v0 v1 v2 v3))
        · refine ⟨_, rfl, fun b x w' hJ hb hw K hK => ?_⟩
          obtain ⟨B, hx, hc⟩ := hJ.p12 (hw 12 (by kernel_rfl))
          clear hb hw
          simp only [actsD, List.foldl_cons, List.foldl_nil, Act.put, List.setIfInBounds_toArray, List.set_cons_zero, List.set_cons_succ] at hK ⊢
          simp only [hx] at hK ⊢
          clear hx
          go_simp
          refine (row4 hc h0 h1 h2 h3).mono ?_
          rintro e w3 ⟨r3, rfl, hv, hb3⟩
          obtain ⟨aA, nA, mA, rfl⟩ := hv.shape
          obtain rfl : nA = 4 := (Rw.len hv).symm
          have hcA : 4 ≤ mA := by obtain ⟨_, _, e1, e2, -⟩ := id hv; injection e1 with e3 e4 e5; rw [e5]; exact e2
          exact hK.out _ _ ((hJ.up hb3).s13 hcA hv)
        · refine ⟨_, rfl, fun b x w' hJ hb hw K hK => ?_⟩
          clear hb hw
          simp only [actsD, List.foldl_cons, List.foldl_nil, Act.put, List.setIfInBounds_toArray, List.set_cons_zero, List.set_cons_succ] at hK ⊢
          go_simp
          exact hK.out _ _ ((hJ.up (below_new _ _)).s26 (C4.new w' 2 c0 c1 c2 c3))
        · refine ⟨_, rfl, fun b x w' hJ hb hw K hK => ?_⟩
          obtain ⟨B, hx, hc⟩ := hJ.p26 (hw 26 (by kernel_rfl))
          clear hb hw
          simp only [actsD, List.foldl_cons, List.foldl_nil, Act.put, List.setIfInBounds_toArray, List.set_cons_zero, List.set_cons_succ] at hK ⊢
          simp only [hx] at hK ⊢
          clear hx
          go_simp
          refine (row4 hc g0 g1 g2 g3).mono ?_
          rintro e w3 ⟨r3, rfl, hv, hb3⟩
          obtain ⟨aA, nA, mA, rfl⟩ := hv.shape
          obtain rfl : nA = 4 := (Rw.len hv).symm
          have hcA : 4 ≤ mA := by obtain ⟨_, _, e1, e2, -⟩ := id hv; injection e1 with e3 e4 e5; rw [e5]; exact e2
          exact hK.out _ _ ((hJ.up hb3).s27 hcA hv)
      · intro b x w' hb hJ
        obtain ⟨aA, cA, hxA, hcA, hvA⟩ := hJ.p13 (hb 13 (by decide))
        obtain ⟨aB, cB, hxB, hcB, hvB⟩ := hJ.p27 (hb 27 (by decide))
        have hbl := hJ.bl
        have hHd : w'.cell? ⟨Bv, 0, none⟩ = some (.int .i8 v0) ∧ w'.cell? ⟨Bv, 1, none⟩ = some (.int .i8 v1) ∧ w'.cell? ⟨Bv, 2, none⟩ = some (.int .i8 v2) ∧ w'.cell? ⟨Bv, 3, none⟩ = some (.int .i8 v3) ∧ w'.cell? ⟨Bc, 0, none⟩ = some (.int .i16 c0) ∧ w'.cell? ⟨Bc, 1, none⟩ = some (.int .i16 c1) ∧ w'.cell? ⟨Bc, 2, none⟩ = some (.int .i16 c2) ∧ w'.cell? ⟨Bc, 3, none⟩ = some (.int .i16 c3) := ⟨hJ.z0, hJ.z1, hJ.z2, hJ.z3, hJ.y0, hJ.y1, hJ.y2, hJ.y3⟩
        clear hb hJ z0 z1 z2 z3 y0 y1 y2 y3
        simp only [actsD, markOf, List.map_cons, List.map_nil, List.foldl_cons, List.foldl_nil, Act.put, List.setIfInBounds_toArray, List.set_cons_zero, List.set_cons_succ, hxA, hxB]
        clear hxA hxB
        (refine tP 28 rfl ?_; (try simp only [lay, List.getElem_toArray, List.getElem_cons_succ, List.getElem_cons_zero]))
        (refine tP 29 rfl ?_; (try simp only [lay, List.getElem_toArray, List.getElem_cons_succ, List.getElem_cons_zero]))
        refine wpAnyT_done (by kernel_rfl) ?_ _
        clear hHd
        go_wp2_with fail
        go_meet
        case rel => exact ⟨_, _, _, _, rfl, rfl, hcA, hvA, hvB, hbl⟩
      --]
    case rest =>
      obtain ⟨aA, cA, aB, cB, rfl, rfl, hcA, hA, hB, hbd⟩ := hcut
      replace F := F.up hbd
      replace p0 := keepc hbd p0
      clear hbd y0 y1 y2 y3 z0 z1 z2 z3
      have hA' := rw_front (n := n) hA (by simp; omega)
      obtain ⟨l0, hl0⟩ : ∃ l0, l0 = ([v0, v1, v2, v3] : List Int).take n := ⟨_, rfl⟩
      rw [← hl0] at hA'
      have q0 : l0.length = n := by rw [hl0]; simp; omega
      have b0 : ∀ k, Bt (l0.getD k 0) 30 := fun k => by rw [hl0]; exact getD_take_bt (fun k => (list4_bt (bt_small h0) (bt_small h1) (bt_small h2) (bt_small h3) k).mono (by decide)) n k
      have C1 := Lib.hid fun W (hW : Below wc.heap.size wc W) => comb4_g _ _ W (F.mx.up hW) (hB.up hW) hsh hR1 hn1 hbt g0 g1 g2 g3
      have q1 : (combR m [c0, c1, c2, c3] n R).length = n := combR_len _ _ _ _
      have b1 : ∀ k, Bt ((combR m [c0, c1, c2, c3] n R).getD k 0) 30 := fun k => (combR_bt (list4_bt (bt16 g0) (bt16 g1) (bt16 g2) (bt16 g3)) hbt R k).mono (by omega)
      have L1 : Lat R n (en m) (fun k => (combR m [c0, c1, c2, c3] n R).getD k 0) := comb_lat
      generalize combR m [c0, c1, c2, c3] n R = l1 at *
      have hnA : n ≤ cA := by omega
      have hnA' : (n : Int) ≤ (cA : Int) := by omega
      have hn0' : (0 : Int) ≤ (n : Int) := by omega
      have TP9 := trkplan_g hsh (by omega) (by decide) (by decide) hbt
      have HTP := Lib.hid TP9
      have HB1 := Lib.hid b1
      have HB0 := Lib.hid b0
      have HL1 := Lib.hid L1
      have HQ0 := Lib.hid q0
      have HQ1 := Lib.hid q1
      have HBT := Lib.hid hbt
      have HSH := Lib.hid hsh
      clear hl0 hA hB hcA TP9 b0 b1 L1 q0 q1 hbt hsh
      go_upto_region 10 with fail
      refine wp_region_T (by kernel_rfl) [] (S := fun _ => True) trivial (fun hHeld => ?_)
      (refine tP 0 rfl ?_; (try simp only [lay, List.getElem_toArray, List.getElem_cons_succ, List.getElem_cons_zero]))
      (refine tP 1 rfl ?_; (try simp only [lay, List.getElem_toArray, List.getElem_cons_succ, List.getElem_cons_zero]))
      (refine tP 2 rfl ?_; (try simp only [lay, List.getElem_toArray, List.getElem_cons_succ, List.getElem_cons_zero]))
      (refine tP 3 rfl ?_; (try simp only [lay, List.getElem_toArray, List.getElem_cons_succ, List.getElem_cons_zero]))
      (refine tP 4 rfl ?_; (try simp only [lay, List.getElem_toArray, List.getElem_cons_succ, List.getElem_cons_zero]))
      (refine tP 5 rfl ?_; (try simp only [lay, List.getElem_toArray, List.getElem_cons_succ, List.getElem_cons_zero]))
      (refine wpAnyT_one (i := 6) (by as_aux_lemma => kernel_rfl) rfl (fun K hK => ?_); (try simp only [lay, List.getElem_toArray, List.getElem_cons_succ, List.getElem_cons_zero]); go_simp)
      refine (C1.out _ (Bl.drew (Below.refl _ _))).mono ?_
      rintro e w5 ⟨v5, rfl, hv5, hb5⟩
      obtain ⟨a1, n1, k5, rfl⟩ := hv5.shape
      obtain rfl : n = n1 := by rw [← Rw.len hv5]; exact HQ1.out.symm
      replace F := F.up (Bl.drew (Below.refl _ _) |>.trans (hb5.mono (by simp)))
      replace hA' := hA'.up (Bl.drew (Below.refl _ _) |>.trans (hb5.mono (by simp)))
      clear hb5 p0 C1
      refine hK.out _ _ (fun _ => trivial) ?_
      clear hK
      (try simp only [lay, List.getElem_toArray, List.getElem_cons_succ, List.getElem_cons_zero])
      (refine wpAnyT_one (i := 7) (by as_aux_lemma => kernel_rfl) rfl (fun K hK => ?_); (try simp only [lay, List.getElem_toArray, List.getElem_cons_succ, List.getElem_cons_zero]); go_simp)
      obtain ⟨w6, hw6⟩ : ∃ w6, w6 = w5.alloc (.cells #[.slice aA n cA, .slice a1 n k5] 36) := ⟨_, rfl⟩
      have G : SvG w Bc Bv c0 c1 c2 c3 v0 v1 v2 v3 (.slice (some ⟨xb, xo, none⟩) R cm) m w5.heap.size n aA a1 cA k5 l0 l1 w6 :=
        ⟨F.up (by rw [hw6]; exact below_new _ _), by rw [hw6, World.cell?_alloc_at _ _ _ _ rfl]; rfl, by rw [hw6, World.cell?_alloc_at _ _ _ _ rfl]; rfl, hA'.up (by rw [hw6]; exact below_new _ _), hv5.up (by rw [hw6]; exact below_new _ _)⟩
      rw [← hw6]
      clear hw6 F hA' hv5
      generalize w5.heap.size = Bb at *
      refine hK.out _ _ (fun _ => trivial) ?_
      clear hK
      (try simp only [lay, List.getElem_toArray, List.getElem_cons_succ, List.getElem_cons_zero])
      (refine tP 8 rfl ?_; (try simp only [lay, List.getElem_toArray, List.getElem_cons_succ, List.getElem_cons_zero]))
      refine wpAnyT_done (by kernel_rfl) ?_ _
      clear hHeld
      go_wp2_with fail
      go_loopw [15] (fun s15 wq => ∃ i : Nat, i ≤ 2 ∧ s15 = .int .i64 i ∧ SvG w Bc Bv c0 c1 c2 c3 v0 v1 v2 v3 (.slice (some ⟨xb, xo, none⟩) R cm) m Bb n aA a1 cA k5 l0 l1 wq) (fun s15 _ => 2 - (intOf s15).toNat)
      case atStart => exact ⟨0, Nat.zero_le _, rfl, G⟩
      case round =>
        clear G
        obtain ⟨i, hi, rfl, G⟩ := hrel
        have i0 : (0 : Int) ≤ (i : Int) := by omega
        by_cases hlt : i < 2
        · have i1 : (i : Int) < 2 := by omega
          obtain ⟨al, ql, l, z, hl, ql', bl, hL⟩ : ∃ (al : Option Addr) (ql : Nat) (l : List Int), wr.cell? ⟨Bb, i, none⟩ = some (.slice al n ql) ∧ Rw wr (.slice al n ql) l ∧ l.length = n ∧ (∀ k, Bt (l.getD k 0) 30) ∧ (i = 1 → Lat R n (en m) fun k => l.getD k 0) := by
            have : i = 0 ∨ i = 1 := by omega
            rcases this with rfl | rfl
            · exact ⟨_, _, l0, G.e0, G.r0, HQ0.out, HB0.out, fun h => by omega⟩
            · exact ⟨_, _, l1, G.e1, G.r1, HQ1.out, HB1.out, fun _ => HL1.out⟩
          have HBL := Lib.hid bl
          have HQL := Lib.hid ql'
          have HL := Lib.hid hL
          clear bl ql' hL
          go_wp2_with fail
          refine (In_g (F := 30) HTP.out _ _ l wr G.F.mx hl HSH.out HQL.out hR0 (by omega) hn0 (by omega) HBL.out (by decide) (by omega)).mono ?_
          rintro e w5 ⟨b, rfl, hb, hb5⟩
          replace G := G.up hb5
          replace z := keepc hb5 z
          replace hl := hl.up hb5
          clear hb5
          go_wp2_with fail
          refine (Solve_g (F := 30) HTP.out _ _ l _ G.F.mx hl HSH.out HQL.out hR0 (by omega) hn0 (by omega) HBL.out (by decide) (by omega)).mono ?_
          rintro e w6 ⟨hS, hb6⟩
          replace G := G.up hb6
          replace z := keepc hb6 z
          replace hl := hl.up hb6
          clear hb6
          have CI := Lib.hid fun W (hW : Below w6.heap.size w6 W) => rin_any (E := 9) (F := 30) (by decide) (gB9 hR1).1 _ _ l W (G.F.mx.up hW) (hl.up hW) HQL.out HSH.out hn0 hR0 (by omega) (by omega) HBT.out HBL.out (gB9 hR1).2
          rcases hS with ⟨hN, rfl⟩ | ⟨hY, v', s, rfl, hs, hsl, hsb, hse⟩
          · skip
            --[
            obtain rfl : b = false := by rw [Bool.eq_false_iff]; exact fun h => hN (hb.1 h)
            have h1 : ((i : Int) == 1) = false := by
              rw [beq_eq_false_iff_ne]
              intro h
              exact hN (HL.out (by omega))
            go_wp2_with fail
            refine (CI.out _ (Below.refl _ _)).mono ?_
            rintro e w7 ⟨b7, rfl, h7, hb7⟩
            obtain rfl : b7 = false := by rw [Bool.eq_false_iff]; exact fun h => hN (h7.1 h)
            replace G := G.up hb7
            clear hb7 h7 hb hN CI z hl
            go_upto_region 18 with fail
            refine wp_region_T (by kernel_rfl) [] (S := fun _ => True) trivial (fun hHeld => ?_)
            (refine tP 0 rfl ?_; (try simp only [lay, List.getElem_toArray, List.getElem_cons_succ, List.getElem_cons_zero]))
            (refine tP 1 rfl ?_; (try simp only [lay, List.getElem_toArray, List.getElem_cons_succ, List.getElem_cons_zero]))
            (refine tU 2 rfl ?_; (try simp only [lay, List.getElem_toArray, List.getElem_cons_succ, List.getElem_cons_zero]))
            (refine tU 3 rfl ?_; (try simp only [lay, List.getElem_toArray, List.getElem_cons_succ, List.getElem_cons_zero]))
            (refine tU 4 rfl ?_; (try simp only [lay, List.getElem_toArray, List.getElem_cons_succ, List.getElem_cons_zero]))
            (refine tU 5 rfl ?_; (try simp only [lay, List.getElem_toArray, List.getElem_cons_succ, List.getElem_cons_zero]))
            (refine tU 6 rfl ?_; (try simp only [lay, List.getElem_toArray, List.getElem_cons_succ, List.getElem_cons_zero]))
            (refine tU 7 rfl ?_; (try simp only [lay, List.getElem_toArray, List.getElem_cons_succ, List.getElem_cons_zero]))
            (refine tU 8 rfl ?_; (try simp only [lay, List.getElem_toArray, List.getElem_cons_succ, List.getElem_cons_zero]))
            (refine tU 9 rfl ?_; (try simp only [lay, List.getElem_toArray, List.getElem_cons_succ, List.getElem_cons_zero]))
            (refine tU 10 rfl ?_; (try simp only [lay, List.getElem_toArray, List.getElem_cons_succ, List.getElem_cons_zero]))
            (refine tU 11 rfl ?_; (try simp only [lay, List.getElem_toArray, List.getElem_cons_succ, List.getElem_cons_zero]))
            (refine tU 12 rfl ?_; (try simp only [lay, List.getElem_toArray, List.getElem_cons_succ, List.getElem_cons_zero]))
            (refine tU 13 rfl ?_; (try simp only [lay, List.getElem_toArray, List.getElem_cons_succ, List.getElem_cons_zero]))
            (refine tU 14 rfl ?_; (try simp only [lay, List.getElem_toArray, List.getElem_cons_succ, List.getElem_cons_zero]))
            (refine tU 15 rfl ?_; (try simp only [lay, List.getElem_toArray, List.getElem_cons_succ, List.getElem_cons_zero]))
            (refine tU 16 rfl ?_; (try simp only [lay, List.getElem_toArray, List.getElem_cons_succ, List.getElem_cons_zero]))
            (refine tU 17 rfl ?_; (try simp only [lay, List.getElem_toArray, List.getElem_cons_succ, List.getElem_cons_zero]))
            (refine tU 18 rfl ?_; (try simp only [lay, List.getElem_toArray, List.getElem_cons_succ, List.getElem_cons_zero]))
            (refine tP 19 rfl ?_; (try simp only [lay, List.getElem_toArray, List.getElem_cons_succ, List.getElem_cons_zero]))
            refine wpAnyT_done (by kernel_rfl) ?_ _
            clear hHeld
            go_wp2_with fail
            go_roundw
            case rel => exact ⟨i + 1, by omega, by go_num, G.up (Below.drew (Below.refl _ _))⟩
            case measure => simp [intOf]; omega
            --]
          · obtain rfl : b = true := hb.2 hY
            have hRR : ((R : Int) != (R : Int)) = false := by simp
            have hcm := comb_eq (m := m) HQL.out hse
            have HC := Lib.hid hcm
            have HSB := Lib.hid hsb
            obtain ⟨sa, ns, ks, rfl⟩ := hs.shape
            obtain rfl : R = ns := by rw [← Rw.len hs]; exact hsl.symm
            have HSL := Lib.hid hsl
            clear hcm hse hsl hsb hb
            go_upto_region 16 with fail
            go_cut [145] (fun s145 wd => s145 = .bool false ∧ Below w6.heap.size w6 wd)
            case first =>
              --[
              rcases Nat.lt_or_ge i 1 with hi1 | hi1
              all_goals
                first
                  | (have h1 : ((i : Int) == 1) = false := by rw [beq_eq_false_iff_ne]; omega)
                  | (have h1 : ((i : Int) == 1) = true := by rw [beq_iff_eq]; omega)
                clear hi1
                go_wp2_with fail
                refine (CI.out _ (Below.refl _ _)).mono ?_
                rintro e w7 ⟨b7, rfl, h7, hb7⟩
                obtain rfl : b7 = true := h7.2 hY
                clear h7 CI
                go_wp2_with fail
                go_meet
                case rel => exact ⟨rfl, hb7⟩
              --]
            case rest =>
              obtain ⟨rfl, hb7⟩ := hcut
              replace G := G.up hb7
              replace z := keepc hb7 z
              replace hl := hl.up hb7
              replace hs := hs.up hb7
              clear hb7 CI
              have CC := Lib.hid fun W (hW : Below wc.heap.size wc W) => combined_g (c := s) _ _ W (G.F.mx.up hW) (hs.up hW) HSH.out HSL.out (by omega) (by omega) HBT.out HSB.out (by decide) (by omega)
              have CS := Lib.hid fun va W (h1 : Rw W va l) (hW : Below wc.heap.size wc W) => rsameRow_any va _ l l W h1 (hl.up hW) (by rw [HQL.out]; omega) (by rw [HQL.out]; omega) (fun k => Nat.le_trans (sz30 (HBL.out k) (by decide)) (by decide)) (fun k => Nat.le_trans (sz30 (HBL.out k) (by decide)) (by decide))
              rw [HC.out, show sameRowB l l = true from by simp [sameRowB]] at *
              go_upto_region 18 with fail
              refine wp_region_T (by kernel_rfl) [] (S := fun w' => w'.cell? ⟨Bb, i, none⟩ = some (.slice al n ql)) z (fun hHeld => ?_)
              (refine tP 0 rfl ?_; (try simp only [lay, List.getElem_toArray, List.getElem_cons_succ, List.getElem_cons_zero]))
              (refine tP 1 rfl ?_; (try simp only [lay, List.getElem_toArray, List.getElem_cons_succ, List.getElem_cons_zero]))
              (refine tP 2 rfl ?_; (try simp only [lay, List.getElem_toArray, List.getElem_cons_succ, List.getElem_cons_zero]))
              (refine tP 3 rfl ?_; (try simp only [lay, List.getElem_toArray, List.getElem_cons_succ, List.getElem_cons_zero]))
              (refine tP 4 rfl ?_; (try simp only [lay, List.getElem_toArray, List.getElem_cons_succ, List.getElem_cons_zero]))
              (refine tP 5 rfl ?_; (try simp only [lay, List.getElem_toArray, List.getElem_cons_succ, List.getElem_cons_zero]))
              (refine tP 6 rfl ?_; (try simp only [lay, List.getElem_toArray, List.getElem_cons_succ, List.getElem_cons_zero]))
              (refine tP 7 rfl ?_; (try simp only [lay, List.getElem_toArray, List.getElem_cons_succ, List.getElem_cons_zero]))
              (refine tP 8 rfl ?_; (try simp only [lay, List.getElem_toArray, List.getElem_cons_succ, List.getElem_cons_zero]))
              (refine tP 9 rfl ?_; (try simp only [lay, List.getElem_toArray, List.getElem_cons_succ, List.getElem_cons_zero]))
              (refine tP 10 rfl ?_; (try simp only [lay, List.getElem_toArray, List.getElem_cons_succ, List.getElem_cons_zero]))
              (refine tP 12 rfl ?_; (try simp only [lay, List.getElem_toArray, List.getElem_cons_succ, List.getElem_cons_zero]))
              (refine tP 13 rfl ?_; (try simp only [lay, List.getElem_toArray, List.getElem_cons_succ, List.getElem_cons_zero]))
              (refine tP 14 rfl ?_; (try simp only [lay, List.getElem_toArray, List.getElem_cons_succ, List.getElem_cons_zero]))
              (refine tK 15 rfl ?_; (try simp only [lay, List.getElem_toArray, List.getElem_cons_succ, List.getElem_cons_zero]))
              (refine wpAnyT_one (i := 11) (by as_aux_lemma => kernel_rfl) rfl (fun K hK => ?_); (try simp only [lay, List.getElem_toArray, List.getElem_cons_succ, List.getElem_cons_zero]); go_simp)
              refine (CC.out _ (Bl.drew (Below.refl _ _))).mono ?_
              rintro e w8 ⟨v8, rfl, hv8, hb8⟩
              have hb78 := Bl.up (Bl.drew (Below.refl wc.heap.size wc)) hb8
              have hHeld8 := keepc hb78 z
              refine hK.out _ _ (fun _ => hHeld8) ?_
              clear hK hHeld
              (try simp only [lay, List.getElem_toArray, List.getElem_cons_succ, List.getElem_cons_zero])
              (refine wpAnyT_one (i := 16) (by as_aux_lemma => kernel_rfl) rfl (fun K hK => ?_); (try simp only [lay, List.getElem_toArray, List.getElem_cons_succ, List.getElem_cons_zero]); go_simp)
              refine (CS.out _ _ hv8 hb78).mono ?_
              rintro e w9 ⟨rfl, hb9⟩
              have hb79 := Bl.up hb78 hb9
              have hHeld9 := keepc hb79 z
              refine hK.out _ _ (fun _ => hHeld9) ?_
              clear hK hHeld8 hb8 hb9 hv8 hb78
              (try simp only [lay, List.getElem_toArray, List.getElem_cons_succ, List.getElem_cons_zero])
              (refine tP 17 rfl ?_; (try simp only [lay, List.getElem_toArray, List.getElem_cons_succ, List.getElem_cons_zero]))
              (refine tP 18 rfl ?_; (try simp only [lay, List.getElem_toArray, List.getElem_cons_succ, List.getElem_cons_zero]))
              (refine tP 19 rfl ?_; (try simp only [lay, List.getElem_toArray, List.getElem_cons_succ, List.getElem_cons_zero]))
              refine wpAnyT_done (by kernel_rfl) ?_ _
              clear hHeld9
              go_wp2_with fail
              go_roundw
              case rel => exact ⟨i + 1, by omega, by go_num, G.up hb79⟩
              case measure => simp [intOf]; omega
        · have i1 : ¬ (i : Int) < 2 := by omega
          have hbl := G.F.bl
          clear G
          go_wp2_with fail
          go_ret
          exact ⟨rfl, hbl⟩
    end Go.Proofs.YtdbpkoddfcdhdaaGreat
