/-
  lattice.reduce
-/
import Derived.Test.YtdbpkoddfcdhdaaGreatPH
import Derived.Test.YtdbpkoddfcdhdaaGreatPI
import Derived.Test.YtdbpkoddfcdhdaaGreatPG
set_option linter.unusedSimpArgs false
set_option linter.unusedVariables false

namespace Go.Proofs.YtdbpkoddfcdhdaaGreat
open Go.RowKit
attribute [local go_sem ↓] Go.wp_at_zero Go.wp_at_succ

theorem Rw.shape {w : World} {v : Value} {l : List Int} (h : Rw w v l) : ∃ a n c, v = .slice a n c := by
  obtain ⟨a, cap, h1, _⟩ := h
  exact ⟨_, _, _, h1⟩

/-- An integer of a row of a block of rows. -/
theorem Om.int {w : World} {g : Nat} {m : List (List Int)} (h : Om w g m) {R N i k : Nat} (hs : Shape R N m) (hi : i < R) (hk : k < N) :
    ∃ b off cap s c n q, w.cell? ⟨g, i, none⟩ = some (.slice (some ⟨b, off, none⟩) N cap) ∧ w.cell? ⟨b, off + k * 2, none⟩ = some (.bool s) ∧ w.cell? ⟨b, off + k * 2 + 1, none⟩ = some (.slice c n q) ∧ It w (.agg #[.bool s, .slice c n q]) ((m.getD i []).getD k 0) ∧ Rw w (.slice (some ⟨b, off, none⟩) N cap) (m.getD i []) := by
  obtain ⟨hl, hN⟩ := hs
  obtain ⟨c, cap, c0, c1⟩ := h.cells (i := i) (by omega)
  rw [hN i hi] at c0 c1
  have c1' := c1
  obtain ⟨a, cap', e, h1, h2⟩ := c1
  injection e with e1 e2 e3
  subst e1 e3
  obtain ⟨b, off, rfl, hb, hc⟩ := h2.at (i := k) (by rw [hN i hi]; exact hk)
  obtain ⟨s, c', n, q, d0, d1, d2⟩ := hc k (by rw [hN i hi]; exact hk)
  exact ⟨b, off, cap, s, c', n, q, c0, d0, d1, d2, c1'⟩

theorem div_nonpos' (x y : Int) (hx : x ≤ 0) (hy : 0 < y) : x / y ≤ 0 := by
  have h := Int.ediv_le_ediv hy hx
  simpa using h
theorem le_div' (x y : Int) (hx : x ≤ 0) (hy : 0 < y) : x ≤ x / y := by
  refine Int.le_ediv_of_mul_le hy ?_
  have h1 : x * y ≤ x * 1 := Int.mul_le_mul_of_nonpos_left hx (by omega)
  omega
theorem natAbs_div_le' (x y : Int) (h : 0 < y) : (x / y).natAbs ≤ x.natAbs := by
  rcases Int.le_total 0 x with hx | hx
  · have := Int.ediv_le_self y hx; have := Int.ediv_nonneg hx (show 0 ≤ y by omega); omega
  · have := le_div' x y hx h; have := div_nonpos' x y hx h; omega
theorem natAbs_div_le (x y : Int) : (x / y).natAbs ≤ x.natAbs := by
  rcases Int.lt_trichotomy y 0 with h | h | h
  · have e : x / y = -(x / -y) := by rw [Int.ediv_neg, Int.neg_neg]
    rw [e, Int.natAbs_neg]; exact natAbs_div_le' x _ (by omega)
  · subst h; simp
  · exact natAbs_div_le' x y h

set_option maxRecDepth 100000 in
set_option maxHeartbeats 4000000 in
theorem reduce_any {R N n : Nat} {P1 : Nat → Nat → List (List Int) → Prop} {P2 P3 : Nat → Nat → Nat → List (List Int) → Prop} (pl : Plan R N n P1 P2 P3) (g cap : Nat) (m0 : List (List Int)) (w : World)
    (hO : Om w g m0) (h0 : P1 0 0 m0) (hc : R ≤ cap) (hR : R ≤ 1099511627776) (hN : N ≤ 1099511627776) (hn : n ≤ N) :
    Calls Tryz.prog 68 #[.slice (some ⟨g, 0, none⟩) R cap, .int .i64 n] w fun e w' => ∃ (row col : Nat) (m : List (List Int)), e = .returned (.int .i64 (row : Int)) ∧ P1 row col m ∧ (col = n ∨ row = R) ∧ row ≤ R ∧ Om w' g m ∧ But g w w' := by
  have hg := hO.lt
  go_enter Tryz.func68, Tryz.ntmps68
  go_wp2_with fail
  go_loopw [5, 6] (fun s5 s6 wr => ∃ (row col : Nat) (m : List (List Int)), s5 = .int .i64 row ∧ s6 = .int .i64 col ∧ row ≤ R ∧ col ≤ n ∧ P1 row col m ∧ Om wr g m ∧ But g w wr)
    (fun _ s6 _ => n - (intOf s6).toNat)
  case atStart => exact ⟨0, 0, m0, rfl, rfl, Nat.zero_le _, Nat.zero_le _, h0, hO, But.refl _ _⟩
  case round =>
    obtain ⟨row, col, m, rfl, rfl, hrow, hcol, hP, hOm, hbut⟩ := hrel
    by_cases hcn : col < n
    · by_cases hrR : row < R
      · have i1 : (col : Int) < (n : Int) := by omega
        have i2 : (row : Int) < (R : Int) := by omega
        have hP2 := pl.start hP hcn hrR
        obtain ⟨wo, rfl⟩ : ∃ wo : World, wo = wr := ⟨_, rfl⟩
        go_wp2_with fail
        go_loopw [7] (fun s7 wq => ∃ (i : Nat) (m : List (List Int)), s7 = .int .i64 i ∧ row < i ∧ i ≤ R ∧ P2 row col i m ∧ Om wq g m ∧ But g w wq)
          (fun s7 _ => R - (intOf s7).toNat)
        case atStart => exact ⟨row + 1, m, by go_num, by omega, by omega, hP2, hOm, hbut⟩
        case round =>
          obtain ⟨i, m, rfl, hri, hiR, hP2, hOm, hbut⟩ := hrel
          by_cases hlt : i < R
          · have i3 : (i : Int) < (R : Int) := by omega
            have i0 : (0 : Int) ≤ (col : Int) := by omega
            have i00 : (0 : Int) ≤ (i : Int) := by omega
            have i000 : (0 : Int) ≤ (row : Int) := by omega
            have i4 : (col : Int) < (N : Int) := by omega
            --{
            obtain ⟨hsh, hsm⟩ := pl.s2 hP2
            obtain ⟨b1, o1, k1, s1, c1, n1, q1, p0, p1, p2, p3, p4⟩ := hOm.int hsh hrR (show col < N by omega)
            obtain ⟨b2, o2, k2, s2, c2, n2, q2, r0, r1, r2, r3, r4⟩ := hOm.int hsh hlt (show col < N by omega)
            obtain ⟨x, hx⟩ : ∃ x, x = (m.getD row []).getD col 0 := ⟨_, rfl⟩
            obtain ⟨y, hy⟩ : ∃ y, y = (m.getD i []).getD col 0 := ⟨_, rfl⟩
            rw [← hx] at p3
            rw [← hy] at r3
            have hsx : sz x ≤ 137438953472 := by rw [hx]; exact hsm row col
            have hsy : sz y ≤ 137438953472 := by rw [hy]; exact hsm i col
            replace hx := Lib.hid hx
            replace hy := Lib.hid hy
            go_upto_region 8 with fail
            go_cut [8, 9] (fun s8 s9 wc => ∃ B8 B9 : Nat, s8 = .pointer (some ⟨B8, 0, none⟩) ∧ s9 = .pointer (some ⟨B9, 0, none⟩) ∧ B8 ≠ B9 ∧ wr.heap.size ≤ B8 ∧ wr.heap.size ≤ B9 ∧ Below wr.heap.size wr wc ∧ Vx wc B8 x ∧ Vx wc B9 y)
            case first =>
              --[
              go_region_held3 (fun w' => w'.cell? ⟨g, row, none⟩ = some (.slice (some ⟨b1, o1, none⟩) N k1) ∧ w'.cell? ⟨g, i, none⟩ = some (.slice (some ⟨b2, o2, none⟩) N k2) ∧ w'.cell? ⟨b1, o1 + col * 2, none⟩ = some (.bool s1) ∧ w'.cell? ⟨b1, o1 + col * 2 + 1, none⟩ = some (.slice c1 n1 q1) ∧ w'.cell? ⟨b2, o2 + col * 2, none⟩ = some (.bool s2) ∧ w'.cell? ⟨b2, o2 + col * 2 + 1, none⟩ = some (.slice c2 n2 q2))
                ((repeat' (first | with_reducible assumption | (with_reducible refine And.intro ?_ ?_) | (with_reducible refine cellD ?_) | (with_reducible refine cellN ?_ _) | (with_reducible refine cellS ?_ (by omega)) | (with_reducible refine keepc (by with_reducible assumption) ?_))))
                (fail)
              all_goals go_wp2_with fail
              all_goals (go_meet; case rel => (refine ⟨_, _, rfl, rfl, by omega, by simp, by simp, ?_, ?_, ?_⟩ <;> exact srch))
              --]
            case rest =>
              obtain ⟨B8, B9, rfl, rfl, hne, hl8, hl9, hbc, v8, v9⟩ := hcut
              replace p0 := keepc hbc p0
              replace p1 := keepc hbc p1
              replace p2 := keepc hbc p2
              replace p4 := p4.up hbc
              replace r0 := keepc hbc r0
              replace r1 := keepc hbc r1
              replace r2 := keepc hbc r2
              replace r4 := r4.up hbc
              replace hOm := hOm.up hbc
              replace hbut := hbut.up hbc
              clear p3 r3 hbc
              obtain ⟨a9, m9, u0, u1, u2, u3, iu⟩ := v9.szs
              by_cases hy0 : y = 0
              · have hc0 : (cmpI y 0 == 0) = true := by rw [hy0]; rfl
                have hsk := pl.skip hP2 hlt (by rw [← hy.out]; exact hy0)
                clear hy0 p0 p1 p2 p4 r0 r1 r2 r4
                go_wp2_with (go_at_call 46; refine (sign_any _ y _ iu).mono ?_; rintro e w1 ⟨rfl, hb1⟩)
                go_roundw
                case rel => exact ⟨i + 1, m, by go_num, by omega, by omega, hsk, hOm.up hb1, hbut.up hb1⟩
                case measure => simp [intOf]; omega
              · have hc0 : (cmpI y 0 == 0) = false := by rw [beq_eq_false_iff_ne]; exact fun h => hy0 (cmpI_zero.1 h)
                obtain ⟨a8, m8, t0, t1, t2, t3, it⟩ := v8.szs
                go_upto_region 11 with (first | (go_at_call 46; refine (sign_any _ y _ iu).mono ?_; rintro e w1 ⟨rfl, hb1⟩; have t0' := keepc hb1 t0; have t1' := keepc hb1 t1; have u0' := keepc hb1 u0; have u1' := keepc hb1 u1) | (go_at_call 87; refine (bezout_any _ _ x y _ (it.up hb1) (iu.up hb1) hy0 (Nat.le_trans hsx (by decide)) (Nat.le_trans hsy (by decide))).mono ?_; rintro e w2 ⟨vg, vu, vv, u, v, rfl, hvg, hvu, hvv, hz, hb2⟩; obtain ⟨s3, a3, n3, k3, rfl⟩ := hvg.shape; obtain ⟨s4, a4, n4, k4, rfl⟩ := hvu.shape; obtain ⟨s5, a5, n5, k5, rfl⟩ := hvv.shape))
                obtain ⟨W3, hW3⟩ : ∃ W3, W3 = ((w2.alloc (.cells #[.bool s3, .slice a3 n3 k3] 56)).alloc (.cells #[.bool s4, .slice a4 n4 k4] 56)).alloc (.cells #[.bool s5, .slice a5 n5 k5] 56) := ⟨_, rfl⟩
                rw [← hW3]
                have hb3 : Below wc.heap.size wc W3 := by rw [hW3]; exact (((hb1.trans (hb2.mono hb1.size)).alloc (Nat.le_trans hb1.size hb2.size) _).alloc (by simp; have := hb1.size; have := hb2.size; omega) _).alloc (by simp; have := hb1.size; have := hb2.size; omega) _
                have e10 : Vx W3 w2.heap.size (Int.gcd x y) := by rw [hW3]; exact ((Vx.new rfl hvg).alloc _).alloc _
                have e11 : Vx W3 (w2.heap.size + 1) u := by rw [hW3]; exact (Vx.new (by simp) (hvu.alloc _)).alloc _
                have e12 : Vx W3 (w2.heap.size + 1 + 1) v := by rw [hW3]; exact Vx.new (by simp) ((hvv.alloc _).alloc _)
                have e8 := v8.up hb3
                have e9 := v9.up hb3
                replace p0 := keepc hb3 p0
                replace r0 := keepc hb3 r0
                replace p4 := p4.up hb3
                replace r4 := r4.up hb3
                replace hOm := hOm.up hb3
                replace hbut := hbut.up hb3
                have zz := e12.lt
                clear hW3 hb3 hb2 hb1 hvg hvu hvv v8 v9 t0 t1 t2 t3 it u0 u1 u2 u3 iu p1 p2 r1 r2
                have hg0 : (Int.gcd x y : Int) ≠ 0 := by
                  intro h; have h2 : Int.gcd x y = 0 := by omega
                  rw [Int.gcd_eq_zero_iff] at h2; exact hy0 h2.2
                have hsg : sz (Int.gcd x y : Int) ≤ 274877906944 := Nat.le_trans (sz_mono (by rw [Int.natAbs_natCast]; exact Int.gcd_le_natAbs_right _ hy0)) (Nat.le_trans hsy (by decide))
                have hsp : sz (x / (Int.gcd x y : Int)) ≤ 274877906944 := Nat.le_trans (sz_mono (natAbs_div_le x _)) (Nat.le_trans hsx (by decide))
                have hsq : sz (y / (Int.gcd x y : Int)) ≤ 274877906944 := Nat.le_trans (sz_mono (natAbs_div_le y _)) (Nat.le_trans hsy (by decide))
                obtain ⟨a8, m8, t0, t1, t2, t3, it⟩ := e8.szs
                obtain ⟨a9, m9, u0, u1, u2, u3, iu⟩ := e9.szs
                have l8 := e8.lt
                have l9 := e9.lt
                have l10 := e10.lt
                obtain ⟨a10, m10, x0, x1, x2, x3, ix⟩ := e10.szs
                generalize w2.heap.size = B10 at *
                generalize hgg : (Int.gcd x y : Int) = gg at *
                replace hgg := Lib.hid hgg
                go_cut [13, 14] (fun s13 s14 wd => ∃ B13 B14 : Nat, s13 = .pointer (some ⟨B13, 0, none⟩) ∧ s14 = .pointer (some ⟨B14, 0, none⟩) ∧ B13 ≠ B14 ∧ W3.heap.size ≤ B13 ∧ W3.heap.size ≤ B14 ∧ Below W3.heap.size W3 wd ∧ Vx wd B13 (x / gg) ∧ Vx wd B14 (y / gg))
                case first =>
                  --[
                  go_region_held3 (fun w' => w'.cell? ⟨B8, 0, none⟩ = some (.bool (decide (x < 0))) ∧ w'.cell? ⟨B8, 1, none⟩ = some (.slice a8 (sz x) m8) ∧ w'.cell? ⟨B9, 0, none⟩ = some (.bool (decide (y < 0))) ∧ w'.cell? ⟨B9, 1, none⟩ = some (.slice a9 (sz y) m9) ∧ w'.cell? ⟨B10, 0, none⟩ = some (.bool (decide (gg < 0))) ∧ w'.cell? ⟨B10, 1, none⟩ = some (.slice a10 (sz gg) m10))
                    ((repeat' (first | with_reducible assumption | (with_reducible refine And.intro ?_ ?_) | (with_reducible refine cellD ?_) | (with_reducible refine cellN ?_ _) | (with_reducible refine cellS ?_ (by omega)) | (with_reducible refine keepc (by with_reducible assumption) ?_))))
                    (first
                      | (go_at_call_of 35 a8; with_reducible (refine (exact_any _ _ x gg _ (by exact srch) (by exact srch) (by exact hg0) (by exact Nat.le_trans hsx (by decide)) (by exact Nat.le_trans hsg (by decide))).mono ?_); rintro e w2 ⟨r, rfl, hv2, hb2⟩; obtain ⟨hc2, hf2⟩ := bcell hb2; have z2 := hb2.size; (try simp only [World.size_alloc, World.size_drew, World.size_setCell] at z2); (try have y2 := Nat.lt_of_succ_le z2); (try have x2 := Nat.lt_of_succ_le (Nat.le_of_succ_le z2)); obtain ⟨s6, a6, n6, c6, rfl⟩ := hv2.shape)
                      | (go_at_call_of 35 a9; with_reducible (refine (exact_any _ _ y gg _ (by exact srch) (by exact srch) (by exact hg0) (by exact Nat.le_trans hsy (by decide)) (by exact Nat.le_trans hsg (by decide))).mono ?_); rintro e w3 ⟨r, rfl, hv3, hb3⟩; obtain ⟨hc3, hf3⟩ := bcell hb3; have z3 := hb3.size; (try simp only [World.size_alloc, World.size_drew, World.size_setCell] at z3); (try have y3 := Nat.lt_of_succ_le z3); (try have x3 := Nat.lt_of_succ_le (Nat.le_of_succ_le z3)); (try have y2_3 := Nat.lt_of_lt_of_le y2 z3); (try have x2_3 := Nat.lt_of_lt_of_le x2 z3); (try have y2_3 := Nat.lt_of_lt_of_le y2 (Nat.le_of_succ_le z3)); (try have x2_3 := Nat.lt_of_lt_of_le x2 (Nat.le_of_succ_le z3)); (try have y2_3 := Nat.lt_of_lt_of_le y2 (Nat.le_of_succ_le (Nat.le_of_succ_le z3))); (try have x2_3 := Nat.lt_of_lt_of_le x2 (Nat.le_of_succ_le (Nat.le_of_succ_le z3))); obtain ⟨s7, a7, n7, c7, rfl⟩ := hv3.shape))
                  all_goals go_wp2_with fail
                  all_goals (go_meet; case rel => (refine ⟨_, _, rfl, rfl, by omega, by omega, by omega, ?_, ?_, ?_⟩ <;> exact srch))
                  --]
                case rest =>
                  obtain ⟨B13, B14, rfl, rfl, hne', hl13, hl14, hbd, f13, f14⟩ := hcut
                  replace e11 := e11.up hbd
                  replace e12 := e12.up hbd
                  replace p0 := keepc hbd p0
                  replace r0 := keepc hbd r0
                  replace p4 := p4.up hbd
                  replace r4 := r4.up hbd
                  replace hOm := hOm.up hbd
                  replace hbut := hbut.up hbd
                  clear e8 e9 e10 t0 t1 t2 t3 it u0 u1 u2 u3 iu x0 x1 x2 x3 ix
                  go_upto_region 12 with fail
                  obtain ⟨fr1, fr2⟩ : wc.frozen? ⟨g, row, none⟩ = false ∧ wc.frozen? ⟨g, i, none⟩ = false := ⟨hOm.free _, hOm.free _⟩
                  have hlen : (m.getD row []).length ≤ (m.getD i []).length := by rw [hsh.2 row hrR, hsh.2 i hlt]; exact Nat.le_refl _
                  have hlN : (m.getD row []).length ≤ 1099511627776 := by rw [hsh.2 row hrR]; exact hN
                  have hsu : sz u ≤ 274877906944 := Nat.le_trans (sz_mono hz.u1) (Nat.le_trans hsy (by decide))
                  have hsv : sz v ≤ 274877906944 := Nat.le_trans (Nat.le_trans (words_mono hz.v1) (words_add x.natAbs 1)) (by have : words x.natAbs ≤ 137438953472 := hsx; have : words 1 = 1 := rfl; omega)
                  have hF1 : ∀ W, Below wc.heap.size wc W → Fn2 88 #[.pointer (some ⟨B10 + 1, 0, none⟩), .pointer (some ⟨B10 + 1 + 1, 0, none⟩)] W (m.getD row []) (m.getD i []) (fun k => u * (m.getD row []).getD k 0 + v * (m.getD i []).getD k 0) :=
                    fun W hW k hk W' uu vv hb hu hv => red1_any uu vv _ _ _ _ u v W' hu hv ((e11.up hW).up hb) ((e12.up hW).up hb) (Nat.le_trans (hsm row k) (by decide)) (Nat.le_trans (hsm i k) (by decide)) hsu hsv
                  have hF2 : ∀ W, Below wc.drew.heap.size wc.drew W → Fn2 89 #[.pointer (some ⟨B13, 0, none⟩), .pointer (some ⟨B14, 0, none⟩)] W (m.getD row []) (m.getD i []) (fun k => x / gg * (m.getD i []).getD k 0 - y / gg * (m.getD row []).getD k 0) :=
                    fun W hW k hk W' uu vv hb hu hv => red2_any uu vv _ _ _ _ (x / gg) (y / gg) W' hu hv ((f13.drew.up hW).up hb) ((f14.drew.up hW).up hb) (Nat.le_trans (hsm row k) (by decide)) (Nat.le_trans (hsm i k) (by decide)) hsp hsq
                  refine wp_region_T (by kernel_rfl) [25, 27] (S := fun w' => w'.cell? ⟨g, row, none⟩ = some (.slice (some ⟨b1, o1, none⟩) N k1) ∧ w'.cell? ⟨g, i, none⟩ = some (.slice (some ⟨b2, o2, none⟩) N k2)) ⟨p0, r0⟩ (fun hHeld => ?_)
                  (refine tK 0 rfl ?_; (try simp only [lay, List.getElem_toArray, List.getElem_cons_succ, List.getElem_cons_zero]))
                  (refine tK 1 rfl ?_; (try simp only [lay, List.getElem_toArray, List.getElem_cons_succ, List.getElem_cons_zero]))
                  (refine tP 2 rfl ?_; (try simp only [lay, List.getElem_toArray, List.getElem_cons_succ, List.getElem_cons_zero]))
                  (refine tP 3 rfl ?_; (try simp only [lay, List.getElem_toArray, List.getElem_cons_succ, List.getElem_cons_zero]))
                  (refine tK 4 rfl ?_; (try simp only [lay, List.getElem_toArray, List.getElem_cons_succ, List.getElem_cons_zero]))
                  (refine tK 5 rfl ?_; (try simp only [lay, List.getElem_toArray, List.getElem_cons_succ, List.getElem_cons_zero]))
                  (refine tK 6 rfl ?_; (try simp only [lay, List.getElem_toArray, List.getElem_cons_succ, List.getElem_cons_zero]))
                  (refine tK 7 rfl ?_; (try simp only [lay, List.getElem_toArray, List.getElem_cons_succ, List.getElem_cons_zero]))
                  (refine tK 8 rfl ?_; (try simp only [lay, List.getElem_toArray, List.getElem_cons_succ, List.getElem_cons_zero]))
                  (refine tK 9 rfl ?_; (try simp only [lay, List.getElem_toArray, List.getElem_cons_succ, List.getElem_cons_zero]))
                  (refine tK 10 rfl ?_; (try simp only [lay, List.getElem_toArray, List.getElem_cons_succ, List.getElem_cons_zero]))
                  (refine tK 11 rfl ?_; (try simp only [lay, List.getElem_toArray, List.getElem_cons_succ, List.getElem_cons_zero]))
                  (refine tK 12 rfl ?_; (try simp only [lay, List.getElem_toArray, List.getElem_cons_succ, List.getElem_cons_zero]))
                  (refine tK 14 rfl ?_; (try simp only [lay, List.getElem_toArray, List.getElem_cons_succ, List.getElem_cons_zero]))
                  (refine tK 15 rfl ?_; (try simp only [lay, List.getElem_toArray, List.getElem_cons_succ, List.getElem_cons_zero]))
                  (refine tK 16 rfl ?_; (try simp only [lay, List.getElem_toArray, List.getElem_cons_succ, List.getElem_cons_zero]))
                  (refine tK 17 rfl ?_; (try simp only [lay, List.getElem_toArray, List.getElem_cons_succ, List.getElem_cons_zero]))
                  (refine tK 18 rfl ?_; (try simp only [lay, List.getElem_toArray, List.getElem_cons_succ, List.getElem_cons_zero]))
                  (refine tK 19 rfl ?_; (try simp only [lay, List.getElem_toArray, List.getElem_cons_succ, List.getElem_cons_zero]))
                  (refine tK 20 rfl ?_; (try simp only [lay, List.getElem_toArray, List.getElem_cons_succ, List.getElem_cons_zero]))
                  (refine tK 21 rfl ?_; (try simp only [lay, List.getElem_toArray, List.getElem_cons_succ, List.getElem_cons_zero]))
                  (refine tK 22 rfl ?_; (try simp only [lay, List.getElem_toArray, List.getElem_cons_succ, List.getElem_cons_zero]))
                  (refine wpAnyT_one (i := 13) (by as_aux_lemma => kernel_rfl) rfl (fun K hK => ?_); (try simp only [lay, List.getElem_toArray, List.getElem_cons_succ, List.getElem_cons_zero]); go_simp)
                  refine (mix_any _ _ (m.getD row []) (m.getD i []) 88 _ _ _ (enters_of Tryz.func88 (by kernel_rfl) rfl) p4.drew r4.drew hlen hlN (hF1 _ (Below.drew (Below.refl _ _)))).mono ?_
                  rintro e w4 ⟨r1, rfl, hr1, hb4⟩
                  obtain ⟨a31, n31, c31, rfl⟩ := hr1.shape
                  replace p0 := keepc hb4 (cellD p0)
                  replace r0 := keepc hb4 (cellD r0)
                  go_wp2_with fail
                  refine hK.out _ _ (fun _ => ⟨p0, r0⟩) ?_
                  have hHeld4 : w4.cell? ⟨g, row, none⟩ = some (.slice (some ⟨b1, o1, none⟩) N k1) ∧ w4.cell? ⟨g, i, none⟩ = some (.slice (some ⟨b2, o2, none⟩) N k2) := ⟨p0, r0⟩
                  clear hK hHeld
                  (try simp only [lay, List.getElem_toArray, List.getElem_cons_succ, List.getElem_cons_zero])
                  (refine wpAnyT_one (i := 23) (by as_aux_lemma => kernel_rfl) rfl (fun K hK => ?_); (try simp only [lay, List.getElem_toArray, List.getElem_cons_succ, List.getElem_cons_zero]); go_simp)
                  refine (mix_any _ _ (m.getD row []) (m.getD i []) 89 _ _ _ (enters_of Tryz.func89 (by kernel_rfl) rfl) (p4.drew.up hb4) (r4.drew.up hb4) hlen hlN (hF2 _ hb4)).mono ?_
                  rintro e w5 ⟨r2, rfl, hr2, hb5⟩
                  obtain ⟨a32, n32, c32, rfl⟩ := hr2.shape
                  replace p0 := keepc hb5 p0
                  replace r0 := keepc hb5 r0
                  have hOm5 := (hOm.drew.up hb4).up hb5
                  have hbut5 := (hbut.drew.up hb4).up hb5
                  replace hr1 := hr1.up hb5
                  have fr1 := hOm5.free row
                  have fr2 := hOm5.free i
                  go_wp2_with fail
                  refine hK.out _ _ (fun _ => ⟨p0, r0⟩) ?_
                  have hHeld5 : w5.cell? ⟨g, row, none⟩ = some (.slice (some ⟨b1, o1, none⟩) N k1) ∧ w5.cell? ⟨g, i, none⟩ = some (.slice (some ⟨b2, o2, none⟩) N k2) := ⟨p0, r0⟩
                  clear hK hHeld4
                  (try simp only [lay, List.getElem_toArray, List.getElem_cons_succ, List.getElem_cons_zero])
                  (refine tK 24 rfl ?_; (try simp only [lay, List.getElem_toArray, List.getElem_cons_succ, List.getElem_cons_zero]))
                  (refine wpAnyT_one (i := 25) (by as_aux_lemma => kernel_rfl) rfl (fun K hK => ?_); (try simp only [lay, List.getElem_toArray, List.getElem_cons_succ, List.getElem_cons_zero]); go_simp)
                  go_wp2_with fail
                  refine hK.out _ _ (fun h => absurd h (by decide)) ?_
                  clear hK hHeld5
                  (try simp only [lay, List.getElem_toArray, List.getElem_cons_succ, List.getElem_cons_zero])
                  (refine tP 26 rfl ?_; (try simp only [lay, List.getElem_toArray, List.getElem_cons_succ, List.getElem_cons_zero]))
                  have s0 : (w5.setCell ⟨g, row, none⟩ (.slice a31 n31 c31)).cell? ⟨g, i, none⟩ = some (.slice (some ⟨b2, o2, none⟩) N k2) := by rw [World.cell?_setCell_other _ _ _ _ (by first | (simp; done) | (simp; omega))]; exact r0
                  (refine wpAnyT_one (i := 27) (by as_aux_lemma => kernel_rfl) rfl (fun K hK => ?_); (try simp only [lay, List.getElem_toArray, List.getElem_cons_succ, List.getElem_cons_zero]); go_simp)
                  go_wp2_with fail
                  refine hK.out _ _ (fun h => absurd h (by decide)) ?_
                  clear hK
                  (try simp only [lay, List.getElem_toArray, List.getElem_cons_succ, List.getElem_cons_zero])
                  refine wpAnyT_done (by kernel_rfl) ?_ _
                  have hmx := pl.mix hP2 hri hlt hcn (by rw [← hy.out]; exact hy0) (by rw [← hx.out, ← hy.out]; exact hz)
                  rw [← hx.out, ← hy.out, hgg.out] at hmx
                  have hOm6 := hOm5.put2 (i := row) (j := i) (by rw [hsh.1]; exact hrR) (by rw [hsh.1]; exact hlt) ((But.refl _ _).set row (.slice a31 n31 c31)) (PutAt.set hOm5.block rfl (.slice a31 n31 c31)) (hr1.set hOm5.sl row (.slice a31 n31 c31)) ((But.refl _ _).set i (.slice a32 n32 c32)) (PutAt.set (Om.block (hOm5.put (i := row) (by rw [hsh.1]; exact hrR) ((But.refl _ _).set row (.slice a31 n31 c31)) (PutAt.set hOm5.block rfl (.slice a31 n31 c31)) (hr1.set hOm5.sl row (.slice a31 n31 c31)))) rfl (.slice a32 n32 c32)) ((hr2.set hOm5.sl row (.slice a31 n31 c31)).set (Om.sl (hOm5.put (i := row) (by rw [hsh.1]; exact hrR) ((But.refl _ _).set row (.slice a31 n31 c31)) (PutAt.set hOm5.block rfl (.slice a31 n31 c31)) (hr1.set hOm5.sl row (.slice a31 n31 c31)))) i (.slice a32 n32 c32))
                  have hbut6 := (hbut5.set row (.slice a31 n31 c31)).set i (.slice a32 n32 c32)
                  clear hOm5 hr1 hr2 hOm hbut p0 r0 s0 fr1 fr2
                  go_wp2_with fail
                  go_roundw
                  case rel => exact ⟨i + 1, _, by go_num, by omega, by omega, hmx, hOm6, hbut6⟩
                  case measure => simp [intOf]; omega
            --}
          · have hiR' : i = R := by omega
            subst hiR'
            have i0 : (0 : Int) ≤ (col : Int) := by omega
            have i000 : (0 : Int) ≤ (row : Int) := by omega
            have i4 : (col : Int) < (N : Int) := by omega
            obtain ⟨hsh, hsm⟩ := pl.s2 hP2
            obtain ⟨b1, o1, k1, s1, c1, n1, q1, p0, p1, p2, p3, p4⟩ := hOm.int hsh hrR (show col < N by omega)
            obtain ⟨x, hx⟩ : ∃ x, x = (m.getD row []).getD col 0 := ⟨_, rfl⟩
            rw [← hx] at p3
            have hsx : sz x ≤ 137438953472 := by rw [hx]; exact hsm row col
            by_cases hx0 : x = 0
            · have hc0 : (cmpI x 0 == 0) = true := by rw [hx0]; rfl
              have hno := pl.none hP2 (by rw [← hx]; exact hx0)
              replace p3 := p3.alloc (.cells #[.bool s1, .slice c1 n1 q1] 56)
              clear hx hx0
              go_wp2_with (go_at_call 46; refine (sign_any _ x _ p3).mono ?_; rintro e w1 ⟨rfl, hb1⟩)
              go_roundw
              case rel => exact ⟨row, col + 1, m, rfl, by go_num, by omega, by omega, hno, (hOm.alloc _).up hb1, (hbut.alloc _).up hb1⟩
              case measure => simp [intOf]; omega
            · have hc0 : (cmpI x 0 == 0) = false := by rw [beq_eq_false_iff_ne]; exact fun h => hx0 (cmpI_zero.1 h)
              have p3' := p3.alloc (.cells #[.bool s1, .slice c1 n1 q1] 56)
              replace hx := Lib.hid hx
              have v0 := Vx.new (T := 56) rfl p3
              go_upto_if 103 with (go_at_call 46; refine (sign_any _ x _ p3').mono ?_; rintro e w1 ⟨rfl, hb1⟩; obtain ⟨sx, ax, nx, mx, u0, u1, u2, u3, iu⟩ := (v0.up hb1).cells)
              have es := iu.sgn
              replace p0 := keepc (Below.trans (below_new wr _) (hb1.mono (by simp))) p0
              replace p4 := (p4.alloc _).up hb1
              replace hOm := (hOm.alloc _).up hb1
              replace hbut := (hbut.alloc _).up hb1
              clear p1 p2 p3 p3' v0 hb1 u0 u1 u2 u3 iu
              go_cut [] (fun wd => ∃ m' : List (List Int), P3 row col 0 m' ∧ Om wd g m' ∧ But g w wd)
              case first =>
                by_cases hneg : x < 0
                · have hd : sx = true := by rw [es]; simpa using hneg
                  subst hd
                  have hng := pl.neg hP2 (by rw [← hx.out]; exact hneg)
                  clear hneg es
                  have hlN : (m.getD row []).length ≤ 1099511627776 := by rw [hsh.2 row hrR]; exact hN
                  go_upto_region 16 with fail
                  have fr1 := hOm.free row
                  refine wp_region_T (by kernel_rfl) [12] (S := fun w' => w'.cell? ⟨g, row, none⟩ = some (.slice (some ⟨b1, o1, none⟩) N k1)) p0 (fun hHeld => ?_)
                  (refine tK 0 rfl ?_; (try simp only [lay, List.getElem_toArray, List.getElem_cons_succ, List.getElem_cons_zero]))
                  (refine tK 1 rfl ?_; (try simp only [lay, List.getElem_toArray, List.getElem_cons_succ, List.getElem_cons_zero]))
                  (refine tK 2 rfl ?_; (try simp only [lay, List.getElem_toArray, List.getElem_cons_succ, List.getElem_cons_zero]))
                  (refine tK 3 rfl ?_; (try simp only [lay, List.getElem_toArray, List.getElem_cons_succ, List.getElem_cons_zero]))
                  (refine tK 4 rfl ?_; (try simp only [lay, List.getElem_toArray, List.getElem_cons_succ, List.getElem_cons_zero]))
                  (refine tK 5 rfl ?_; (try simp only [lay, List.getElem_toArray, List.getElem_cons_succ, List.getElem_cons_zero]))
                  (refine tK 6 rfl ?_; (try simp only [lay, List.getElem_toArray, List.getElem_cons_succ, List.getElem_cons_zero]))
                  (refine tK 7 rfl ?_; (try simp only [lay, List.getElem_toArray, List.getElem_cons_succ, List.getElem_cons_zero]))
                  (refine tK 8 rfl ?_; (try simp only [lay, List.getElem_toArray, List.getElem_cons_succ, List.getElem_cons_zero]))
                  (refine tK 9 rfl ?_; (try simp only [lay, List.getElem_toArray, List.getElem_cons_succ, List.getElem_cons_zero]))
                  (refine wpAnyT_one (i := 10) (by as_aux_lemma => kernel_rfl) rfl (fun K hK => ?_); (try simp only [lay, List.getElem_toArray, List.getElem_cons_succ, List.getElem_cons_zero]); go_simp)
                  refine (mix_any _ _ (m.getD row []) (m.getD row []) 90 #[] (fun k => - (m.getD row []).getD k 0) _ (enters_of Tryz.func90 (by kernel_rfl) rfl) p4.drew p4.drew (Nat.le_refl _) hlN (fun k hk W' uu vv hb hu hv => red3_any uu vv _ _ W' hu hv (Nat.le_trans (hsm row k) (by decide)))).mono ?_
                  rintro e w4 ⟨r1, rfl, hr1, hb4⟩
                  obtain ⟨a31, n31, c31, rfl⟩ := hr1.shape
                  replace p0 := keepc hb4 (cellD p0)
                  have hOm5 := hOm.drew.up hb4
                  have hbut5 := hbut.drew.up hb4
                  replace fr1 := hOm5.free row
                  go_wp2_with fail
                  refine hK.out _ _ (fun _ => p0) ?_
                  have hHeld4 : w4.cell? ⟨g, row, none⟩ = some (.slice (some ⟨b1, o1, none⟩) N k1) := p0
                  clear hK hHeld
                  (try simp only [lay, List.getElem_toArray, List.getElem_cons_succ, List.getElem_cons_zero])
                  (refine tK 11 rfl ?_; (try simp only [lay, List.getElem_toArray, List.getElem_cons_succ, List.getElem_cons_zero]))
                  (refine wpAnyT_one (i := 12) (by as_aux_lemma => kernel_rfl) rfl (fun K hK => ?_); (try simp only [lay, List.getElem_toArray, List.getElem_cons_succ, List.getElem_cons_zero]); go_simp)
                  go_wp2_with fail
                  refine hK.out _ _ (fun h => absurd h (by decide)) ?_
                  clear hK
                  (try simp only [lay, List.getElem_toArray, List.getElem_cons_succ, List.getElem_cons_zero])
                  refine wpAnyT_done (by kernel_rfl) ?_ _
                  have hOm6 := hOm5.put (i := row) (by rw [hsh.1]; exact hrR) ((But.refl _ _).set row (.slice a31 n31 c31)) (PutAt.set hOm5.block rfl (.slice a31 n31 c31)) (hr1.set hOm5.sl row (.slice a31 n31 c31))
                  have hbut6 := hbut5.set row (.slice a31 n31 c31)
                  clear hOm5 hr1 hOm hbut p0 fr1
                  go_wp2_with fail
                  go_meet
                  case rel => exact ⟨_, hng, hOm6, hbut6⟩
                · have hd : sx = false := by rw [es]; simpa using hneg
                  subst hd
                  have hps := pl.pos hP2 (by rw [← hx.out]; omega)
                  clear hneg es
                  go_wp2_with fail
                  go_meet
                  case rel => exact ⟨_, hps, hOm, hbut⟩
              case rest =>
                obtain ⟨m', hP3, hOm', hbut'⟩ := hcut
                clear es
                clear p0 p4 hOm hbut hP2 hsh hsm
                go_wp2_with fail
                go_loopw [117] (fun s wq => ∃ (j : Nat) (m : List (List Int)), s = .int .i64 j ∧ j ≤ row ∧ P3 row col j m ∧ Om wq g m ∧ But g w wq)
                  (fun s _ => row - (intOf s).toNat)
                case atStart => exact ⟨0, m', rfl, Nat.zero_le _, hP3, hOm', hbut'⟩
                case round =>
                  obtain ⟨j, m2, rfl, hjr, hP3, hOm, hbut⟩ := hrel
                  by_cases hlt2 : j < row
                  · have hjR : j < i := by omega
                    have j0 : (0 : Int) ≤ (j : Int) := by omega
                    have j1 : (j : Int) < (row : Int) := by omega
                    have j2 : (j : Int) < (i : Int) := by omega
                    obtain ⟨hsh, hsm, hpv⟩ := pl.s3 hP3
                    obtain ⟨b1, o1, k1, s1, c1, n1, q1, p0, p1, p2, p3, p4⟩ := hOm.int hsh hrR (show col < N by omega)
                    obtain ⟨b2, o2, k2, s2, c2, n2, q2, r0, r1, r2, r3, r4⟩ := hOm.int hsh hjR (show col < N by omega)
                    have hrd := pl.red hP3 hrR hlt2
                    obtain ⟨z, hz⟩ : ∃ z, z = (m2.getD j []).getD col 0 := ⟨_, rfl⟩
                    obtain ⟨y, hy⟩ : ∃ y, y = (m2.getD row []).getD col 0 := ⟨_, rfl⟩
                    rw [← hz] at r3 hrd
                    rw [← hy] at p3 hpv hrd
                    have hsz : sz z ≤ 137438953472 := by rw [hz]; exact hsm j col
                    have hsy : sz y ≤ 137438953472 := by rw [hy]; exact hsm row col
                    clear hz hy
                    have hlen : (m2.getD j []).length ≤ (m2.getD row []).length := by rw [hsh.2 row hrR, hsh.2 j hjR]; exact Nat.le_refl _
                    have hlN : (m2.getD j []).length ≤ 1099511627776 := by rw [hsh.2 j hjR]; exact hN
                    have hsq : sz (z / y) ≤ 274877906944 := Nat.le_trans (sz_mono (natAbs_div_le z _)) (Nat.le_trans hsz (by decide))
                    go_upto_region 20 with fail
                    have fr1 := hOm.free j
                    refine wp_region_T (by kernel_rfl) [27] (S := fun w' => w'.cell? ⟨g, row, none⟩ = some (.slice (some ⟨b1, o1, none⟩) N k1) ∧ w'.cell? ⟨g, j, none⟩ = some (.slice (some ⟨b2, o2, none⟩) N k2) ∧ w'.cell? ⟨b1, o1 + col * 2, none⟩ = some (.bool s1) ∧ w'.cell? ⟨b1, o1 + col * 2 + 1, none⟩ = some (.slice c1 n1 q1) ∧ w'.cell? ⟨b2, o2 + col * 2, none⟩ = some (.bool s2) ∧ w'.cell? ⟨b2, o2 + col * 2 + 1, none⟩ = some (.slice c2 n2 q2)) ⟨p0, r0, p1, p2, r1, r2⟩ (fun hHeld => ?_)
                    (refine tK 0 rfl ?_; (try simp only [lay, List.getElem_toArray, List.getElem_cons_succ, List.getElem_cons_zero]))
                    (refine tK 1 rfl ?_; (try simp only [lay, List.getElem_toArray, List.getElem_cons_succ, List.getElem_cons_zero]))
                    (refine tK 2 rfl ?_; (try simp only [lay, List.getElem_toArray, List.getElem_cons_succ, List.getElem_cons_zero]))
                    (refine tK 3 rfl ?_; (try simp only [lay, List.getElem_toArray, List.getElem_cons_succ, List.getElem_cons_zero]))
                    (refine tK 4 rfl ?_; (try simp only [lay, List.getElem_toArray, List.getElem_cons_succ, List.getElem_cons_zero]))
                    (refine tK 5 rfl ?_; (try simp only [lay, List.getElem_toArray, List.getElem_cons_succ, List.getElem_cons_zero]))
                    (refine tK 6 rfl ?_; (try simp only [lay, List.getElem_toArray, List.getElem_cons_succ, List.getElem_cons_zero]))
                    (refine tK 7 rfl ?_; (try simp only [lay, List.getElem_toArray, List.getElem_cons_succ, List.getElem_cons_zero]))
                    (refine tK 8 rfl ?_; (try simp only [lay, List.getElem_toArray, List.getElem_cons_succ, List.getElem_cons_zero]))
                    (refine tK 9 rfl ?_; (try simp only [lay, List.getElem_toArray, List.getElem_cons_succ, List.getElem_cons_zero]))
                    (refine tK 10 rfl ?_; (try simp only [lay, List.getElem_toArray, List.getElem_cons_succ, List.getElem_cons_zero]))
                    (refine tK 11 rfl ?_; (try simp only [lay, List.getElem_toArray, List.getElem_cons_succ, List.getElem_cons_zero]))
                    (refine tK 12 rfl ?_; (try simp only [lay, List.getElem_toArray, List.getElem_cons_succ, List.getElem_cons_zero]))
                    (refine tK 13 rfl ?_; (try simp only [lay, List.getElem_toArray, List.getElem_cons_succ, List.getElem_cons_zero]))
                    (refine tK 14 rfl ?_; (try simp only [lay, List.getElem_toArray, List.getElem_cons_succ, List.getElem_cons_zero]))
                    (refine tK 15 rfl ?_; (try simp only [lay, List.getElem_toArray, List.getElem_cons_succ, List.getElem_cons_zero]))
                    (refine tK 16 rfl ?_; (try simp only [lay, List.getElem_toArray, List.getElem_cons_succ, List.getElem_cons_zero]))
                    (refine tK 17 rfl ?_; (try simp only [lay, List.getElem_toArray, List.getElem_cons_succ, List.getElem_cons_zero]))
                    (refine tK 18 rfl ?_; (try simp only [lay, List.getElem_toArray, List.getElem_cons_succ, List.getElem_cons_zero]))
                    (refine tK 19 rfl ?_; (try simp only [lay, List.getElem_toArray, List.getElem_cons_succ, List.getElem_cons_zero]))
                    (refine tK 21 rfl ?_; (try simp only [lay, List.getElem_toArray, List.getElem_cons_succ, List.getElem_cons_zero]))
                    (refine tK 22 rfl ?_; (try simp only [lay, List.getElem_toArray, List.getElem_cons_succ, List.getElem_cons_zero]))
                    (refine tK 23 rfl ?_; (try simp only [lay, List.getElem_toArray, List.getElem_cons_succ, List.getElem_cons_zero]))
                    (refine tK 24 rfl ?_; (try simp only [lay, List.getElem_toArray, List.getElem_cons_succ, List.getElem_cons_zero]))
                    (refine wpAnyT_one (i := 20) (by as_aux_lemma => kernel_rfl) rfl (fun K hK => ?_); (try simp only [lay, List.getElem_toArray, List.getElem_cons_succ, List.getElem_cons_zero]); go_simp)
                    refine (floor_any _ _ z y _ r3.drew p3.drew hpv (Nat.le_trans hsz (by decide)) (Nat.le_trans hsy (by decide))).mono ?_
                    rintro e w4 ⟨vq, rfl, hq, hb4⟩
                    obtain ⟨s6, a6, n6, c6, rfl⟩ := hq.shape
                    replace p0 := keepc hb4 (cellD p0)
                    replace p1 := keepc hb4 (cellD p1)
                    replace p2 := keepc hb4 (cellD p2)
                    replace r0 := keepc hb4 (cellD r0)
                    replace r1 := keepc hb4 (cellD r1)
                    replace r2 := keepc hb4 (cellD r2)
                    go_wp2_with fail
                    refine hK.out _ _ (fun _ => ⟨p0, r0, p1, p2, r1, r2⟩) ?_
                    clear hK hHeld
                    (try simp only [lay, List.getElem_toArray, List.getElem_cons_succ, List.getElem_cons_zero])
                    (refine wpAnyT_one (i := 25) (by as_aux_lemma => kernel_rfl) rfl (fun K hK => ?_); (try simp only [lay, List.getElem_toArray, List.getElem_cons_succ, List.getElem_cons_zero]); go_simp)
                    refine (less_any _ _ _ (m2.getD j []) (m2.getD row []) (z / y) _ (r4.drew.up hb4) (p4.drew.up hb4) hq hlen hlN (fun k _ => Nat.le_trans (hsm j k) (by decide)) (fun k _ => Nat.le_trans (hsm row k) (by decide)) hsq).mono ?_
                    rintro e w5 ⟨vl, rfl, hl, hb5⟩
                    obtain ⟨a31, n31, c31, rfl⟩ := hl.shape
                    replace p0 := keepc hb5 p0
                    replace r0 := keepc hb5 r0
                    replace p1 := keepc hb5 p1
                    replace p2 := keepc hb5 p2
                    replace r1 := keepc hb5 r1
                    replace r2 := keepc hb5 r2
                    have hOm5 := (hOm.drew.up hb4).up hb5
                    have hbut5 := (hbut.drew.up hb4).up hb5
                    replace fr1 := hOm5.free j
                    go_wp2_with fail
                    refine hK.out _ _ (fun _ => ⟨p0, r0, p1, p2, r1, r2⟩) ?_
                    have hHeld5 : w5.cell? ⟨g, row, none⟩ = some (.slice (some ⟨b1, o1, none⟩) N k1) ∧ w5.cell? ⟨g, j, none⟩ = some (.slice (some ⟨b2, o2, none⟩) N k2) ∧ w5.cell? ⟨b1, o1 + col * 2, none⟩ = some (.bool s1) ∧ w5.cell? ⟨b1, o1 + col * 2 + 1, none⟩ = some (.slice c1 n1 q1) ∧ w5.cell? ⟨b2, o2 + col * 2, none⟩ = some (.bool s2) ∧ w5.cell? ⟨b2, o2 + col * 2 + 1, none⟩ = some (.slice c2 n2 q2) := ⟨p0, r0, p1, p2, r1, r2⟩
                    clear hK
                    (try simp only [lay, List.getElem_toArray, List.getElem_cons_succ, List.getElem_cons_zero])
                    (refine tK 26 rfl ?_; (try simp only [lay, List.getElem_toArray, List.getElem_cons_succ, List.getElem_cons_zero]))
                    (refine wpAnyT_one (i := 27) (by as_aux_lemma => kernel_rfl) rfl (fun K hK => ?_); (try simp only [lay, List.getElem_toArray, List.getElem_cons_succ, List.getElem_cons_zero]); go_simp)
                    go_wp2_with fail
                    refine hK.out _ _ (fun h => absurd h (by decide)) ?_
                    clear hK hHeld5 p0 p1 p2 r1 r2
                    (try simp only [lay, List.getElem_toArray, List.getElem_cons_succ, List.getElem_cons_zero])
                    refine wpAnyT_done (by kernel_rfl) ?_ _
                    have hOm6 := hOm5.put (i := j) (by rw [hsh.1]; exact hjR) ((But.refl _ _).set j (.slice a31 n31 c31)) (PutAt.set hOm5.block rfl (.slice a31 n31 c31)) (hl.set hOm5.sl j (.slice a31 n31 c31))
                    have hbut6 := hbut5.set j (.slice a31 n31 c31)
                    clear hOm5 hl hOm hbut r0 fr1
                    go_wp2_with fail
                    go_roundw
                    case rel => exact ⟨j + 1, _, by go_num, by omega, hrd, hOm6, hbut6⟩
                    case measure => simp [intOf]; omega
                  · have hjr' : j = row := by omega
                    subst hjr'
                    have hnx := pl.next hP3
                    go_wp2_with fail
                    go_roundw
                    case rel => exact ⟨j + 1, col + 1, m2, by go_num, by go_num, by omega, by omega, hnx, hOm, hbut⟩
                    case measure => simp [intOf]; omega
      · have hrR' : row = R := by omega
        subst hrR'
        have i1 : (col : Int) < (n : Int) := by omega
        go_wp2_with fail
        go_ret
        exact ⟨row, col, m, rfl, hP, .inr rfl, Nat.le_refl _, hOm, hbut⟩
    · have hcn' : col = n := by omega
      subst hcn'
      go_wp2_with fail
      go_ret
      exact ⟨row, col, m, rfl, hP, .inl rfl, hrow, hOm, hbut⟩
end Go.Proofs.YtdbpkoddfcdhdaaGreat
