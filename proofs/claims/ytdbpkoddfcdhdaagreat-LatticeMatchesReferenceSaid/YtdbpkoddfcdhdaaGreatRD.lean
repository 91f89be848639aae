/-
  The reference: least.
-/
import Derived.Test.YtdbpkoddfcdhdaaGreatPH
import Derived.Test.YtdbpkoddfcdhdaaGreatRC
set_option linter.unusedSimpArgs false
set_option linter.unusedVariables false

namespace Go.Proofs.YtdbpkoddfcdhdaaGreat
open Go.RowKit
attribute [local go_sem ↓] Go.wp_at_zero Go.wp_at_succ

/-- b is the place of the least element other than 0 in a column, among the rows from f to R, or -1. -/
def Least (m : List (List Int)) (R f col : Nat) (b : Int) : Prop :=
  (b = -1 ∧ ∀ j, f ≤ j → j < R → en m j col = 0) ∨ ∃ k : Nat, b = k ∧ f ≤ k ∧ k < R ∧ en m k col ≠ 0 ∧ ∀ j, f ≤ j → j < R → en m j col ≠ 0 → (en m k col).natAbs ≤ (en m j col).natAbs

theorem Least.start (m : List (List Int)) (f col : Nat) : Least m f f col (-1) := .inl ⟨rfl, fun j h1 h2 => by omega⟩
theorem Least.skip {m : List (List Int)} {i f col : Nat} {b : Int} (h : Least m i f col b) (h0 : en m i col = 0) : Least m (i + 1) f col b := by
  rcases h with ⟨e, h1⟩ | ⟨k, e, h1, h2, h3, h4⟩
  · refine .inl ⟨e, fun j g1 g2 => ?_⟩
    rcases Nat.lt_or_ge j i with c | c
    · exact h1 j g1 c
    · obtain rfl : j = i := by omega
      exact h0
  · refine .inr ⟨k, e, h1, by omega, h3, fun j g1 g2 g3 => ?_⟩
    rcases Nat.lt_or_ge j i with c | c
    · exact h4 j g1 c g3
    · obtain rfl : j = i := by omega
      exact absurd h0 g3
theorem Least.first {m : List (List Int)} {i f col : Nat} {b : Int} (h : Least m i f col b) (hb : b = -1) (hf : f ≤ i) (h0 : en m i col ≠ 0) : Least m (i + 1) f col (i : Int) := by
  rcases h with ⟨e, h1⟩ | ⟨k, e, -⟩
  · refine .inr ⟨i, rfl, hf, Nat.lt_succ_self _, h0, fun j g1 g2 g3 => ?_⟩
    rcases Nat.lt_or_ge j i with c | c
    · exact absurd (h1 j g1 c) g3
    · obtain rfl : j = i := by omega
      exact Nat.le_refl _
  · omega
theorem Least.less {m : List (List Int)} {i f col k : Nat} (h : Least m i f col (k : Int)) (hf : f ≤ i) (h0 : en m i col ≠ 0) (hl : (en m i col).natAbs < (en m k col).natAbs) : Least m (i + 1) f col (i : Int) := by
  rcases h with ⟨e, h1⟩ | ⟨k', e, h1, h2, h3, h4⟩
  · omega
  · obtain rfl : k = k' := by omega
    refine .inr ⟨i, rfl, hf, Nat.lt_succ_self _, h0, fun j g1 g2 g3 => ?_⟩
    rcases Nat.lt_or_ge j i with c | c
    · have := h4 j g1 c g3; omega
    · obtain rfl : j = i := by omega
      exact Nat.le_refl _
theorem Least.keep {m : List (List Int)} {i f col k : Nat} (h : Least m i f col (k : Int)) (hl : ¬ (en m i col).natAbs < (en m k col).natAbs) : Least m (i + 1) f col (k : Int) := by
  rcases h with ⟨e, h1⟩ | ⟨k', e, h1, h2, h3, h4⟩
  · omega
  · obtain rfl : k = k' := by omega
    refine .inr ⟨k, rfl, h1, by omega, h3, fun j g1 g2 g3 => ?_⟩
    rcases Nat.lt_or_ge j i with c | c
    · exact h4 j g1 c g3
    · obtain rfl : j = i := by omega
      omega
theorem Least.range {m : List (List Int)} {R f col : Nat} {b : Int} (h : Least m R f col b) : b = -1 ∨ ∃ k : Nat, b = k ∧ f ≤ k ∧ k < R := by
  rcases h with ⟨e, -⟩ | ⟨k, e, h1, h2, -⟩
  · exact .inl e
  · exact .inr ⟨k, e, h1, h2⟩

theorem cmpI_neg (x y : Int) : decide (cmpI x y < 0) = decide (x < y) := by
  unfold cmpI
  split
  · rename_i h; simp [h]
  · rename_i h
    split
    · simp [h]
    · simp [h]

set_option maxRecDepth 100000 in
set_option maxHeartbeats 4000000 in
theorem rleast_any (v : Value) (m : List (List Int)) (R N f col : Nat) (w : World) (h : Mx w v m) (hs : Shape R N m) (hcol : col < N) (hf : f ≤ R) (hN : N ≤ 1000) (hR : R ≤ 1000) (hsm : ∀ i k, sz (en m i k) ≤ 1099511627776) :
    Calls Tryz.prog 63 #[v, .int .i64 (f : Int), .int .i64 (col : Int)] w fun e w' => ∃ b : Int, e = .returned (.int .i64 b) ∧ Least m R f col b ∧ Below w.heap.size w w' := by
  obtain ⟨a, ca, rfl, -, -⟩ := id h
  rw [hs.1] at h ⊢
  have l0 : (0 : Int) ≤ (col : Int) := by omega
  have l1 : (col : Int) < (N : Int) := by omega
  go_enter Tryz.func63, Tryz.ntmps63
  go_wp2_with fail
  go_loopw [7, 8] (fun s7 s8 wq => ∃ (i : Nat) (b : Int), f ≤ i ∧ i ≤ R ∧ s8 = .int .i64 i ∧ s7 = .int .i64 b ∧ Least m i f col b ∧ Below w.heap.size w wq)
    (fun _ s8 _ => R - (intOf s8).toNat)
  case atStart => exact ⟨f, -1, Nat.le_refl _, hf, rfl, rfl, Least.start m f col, Below.refl _ _⟩
  case round =>
    obtain ⟨i, b, hfi, hi, rfl, rfl, hL, hbl⟩ := hrel
    have HL := Lib.hid hL
    have hLr := hL.range
    clear hL
    have i0 : (0 : Int) ≤ (i : Int) := by omega
    by_cases hlt : i < R
    · have i1 : (i : Int) < (R : Int) := by omega
      obtain ⟨ba, offa, ar, k1, rfl, hba, p0, hk1, hrw⟩ := h.row hs hlt
      obtain ⟨bb, offb, s, c, nn, q, rfl, hbb, q0, q1, q2⟩ := hrw.get hcol
      replace p0 := keepc hbl p0
      replace q0 := keepc hbl q0
      replace q1 := keepc hbl q1
      replace q2 := q2.up hbl
      change It wr _ (en m i col) at q2
      have hsx := hsm i col
      clear hrw
      by_cases hx0 : en m i col = 0
      · have HS := Lib.hid (HL.out.skip hx0)
        have hnz : cmpI (en m i col) 0 = 0 := cmpI_eq hx0
        have HNZ := Lib.hid hnz
        clear HL hx0 hnz
        generalize en m i col = x at *
        go_upto_region 5 with fail
        refine wp_region_T (by kernel_rfl) [] (S := fun w' => w'.cell? ⟨ba, offa + i, none⟩ = some (.slice (some ⟨bb, offb, none⟩) N k1) ∧ w'.cell? ⟨bb, offb + col * 2, none⟩ = some (.bool s) ∧ w'.cell? ⟨bb, offb + col * 2 + 1, none⟩ = some (.slice c nn q)) ⟨p0, q0, q1⟩ (fun hHeld => ?_)
        (refine tP 0 rfl ?_; (try simp only [lay, List.getElem_toArray, List.getElem_cons_succ, List.getElem_cons_zero]))
        (refine tP 1 rfl ?_; (try simp only [lay, List.getElem_toArray, List.getElem_cons_succ, List.getElem_cons_zero]))
        (refine tP 2 rfl ?_; (try simp only [lay, List.getElem_toArray, List.getElem_cons_succ, List.getElem_cons_zero]))
        (refine tK 3 rfl ?_; (try simp only [lay, List.getElem_toArray, List.getElem_cons_succ, List.getElem_cons_zero]))
        (refine tP 4 rfl ?_; (try simp only [lay, List.getElem_toArray, List.getElem_cons_succ, List.getElem_cons_zero]))
        (refine tP 5 rfl ?_; (try simp only [lay, List.getElem_toArray, List.getElem_cons_succ, List.getElem_cons_zero]))
        (refine tK 6 rfl ?_; (try simp only [lay, List.getElem_toArray, List.getElem_cons_succ, List.getElem_cons_zero]))
        (refine wpAnyT_one (i := 7) (by as_aux_lemma => kernel_rfl) rfl (fun K hK => ?_); (try simp only [lay, List.getElem_toArray, List.getElem_cons_succ, List.getElem_cons_zero]); go_simp)
        refine (rsign_any _ x _ q2.drew).mono ?_
        rintro e w2 ⟨rfl, hb2⟩
        rw [HNZ.out]
        replace p0 := keepc hb2 (cellD p0)
        replace q0 := keepc hb2 (cellD q0)
        replace q1 := keepc hb2 (cellD q1)
        replace q2 := q2.drew.up hb2
        replace hbl := Bl.up (Bl.drew hbl) hb2
        go_wp2_with fail
        refine hK.out _ _ (fun _ => ⟨p0, q0, q1⟩) ?_
        have hHeld2 : w2.cell? ⟨ba, offa + i, none⟩ = some (.slice (some ⟨bb, offb, none⟩) N k1) ∧ w2.cell? ⟨bb, offb + col * 2, none⟩ = some (.bool s) ∧ w2.cell? ⟨bb, offb + col * 2 + 1, none⟩ = some (.slice c nn q) := ⟨p0, q0, q1⟩
        clear hK hHeld hb2
        (try simp only [lay, List.getElem_toArray, List.getElem_cons_succ, List.getElem_cons_zero])
        (refine tP 8 rfl ?_; (try simp only [lay, List.getElem_toArray, List.getElem_cons_succ, List.getElem_cons_zero]))
        (refine tP 9 rfl ?_; (try simp only [lay, List.getElem_toArray, List.getElem_cons_succ, List.getElem_cons_zero]))
        (refine tU 10 rfl ?_; (try simp only [lay, List.getElem_toArray, List.getElem_cons_succ, List.getElem_cons_zero]))
        (refine tU 11 rfl ?_; (try simp only [lay, List.getElem_toArray, List.getElem_cons_succ, List.getElem_cons_zero]))
        (refine tU 12 rfl ?_; (try simp only [lay, List.getElem_toArray, List.getElem_cons_succ, List.getElem_cons_zero]))
        (refine tU 13 rfl ?_; (try simp only [lay, List.getElem_toArray, List.getElem_cons_succ, List.getElem_cons_zero]))
        (refine tU 14 rfl ?_; (try simp only [lay, List.getElem_toArray, List.getElem_cons_succ, List.getElem_cons_zero]))
        (refine tU 15 rfl ?_; (try simp only [lay, List.getElem_toArray, List.getElem_cons_succ, List.getElem_cons_zero]))
        (refine tU 16 rfl ?_; (try simp only [lay, List.getElem_toArray, List.getElem_cons_succ, List.getElem_cons_zero]))
        (refine tU 17 rfl ?_; (try simp only [lay, List.getElem_toArray, List.getElem_cons_succ, List.getElem_cons_zero]))
        (refine tU 18 rfl ?_; (try simp only [lay, List.getElem_toArray, List.getElem_cons_succ, List.getElem_cons_zero]))
        (refine tU 19 rfl ?_; (try simp only [lay, List.getElem_toArray, List.getElem_cons_succ, List.getElem_cons_zero]))
        (refine tU 20 rfl ?_; (try simp only [lay, List.getElem_toArray, List.getElem_cons_succ, List.getElem_cons_zero]))
        (refine tU 21 rfl ?_; (try simp only [lay, List.getElem_toArray, List.getElem_cons_succ, List.getElem_cons_zero]))
        (refine tU 22 rfl ?_; (try simp only [lay, List.getElem_toArray, List.getElem_cons_succ, List.getElem_cons_zero]))
        (refine tU 23 rfl ?_; (try simp only [lay, List.getElem_toArray, List.getElem_cons_succ, List.getElem_cons_zero]))
        (refine tU 24 rfl ?_; (try simp only [lay, List.getElem_toArray, List.getElem_cons_succ, List.getElem_cons_zero]))
        (refine tU 25 rfl ?_; (try simp only [lay, List.getElem_toArray, List.getElem_cons_succ, List.getElem_cons_zero]))
        (refine tU 26 rfl ?_; (try simp only [lay, List.getElem_toArray, List.getElem_cons_succ, List.getElem_cons_zero]))
        (refine tU 27 rfl ?_; (try simp only [lay, List.getElem_toArray, List.getElem_cons_succ, List.getElem_cons_zero]))
        (refine tU 28 rfl ?_; (try simp only [lay, List.getElem_toArray, List.getElem_cons_succ, List.getElem_cons_zero]))
        (refine tU 29 rfl ?_; (try simp only [lay, List.getElem_toArray, List.getElem_cons_succ, List.getElem_cons_zero]))
        (refine tU 30 rfl ?_; (try simp only [lay, List.getElem_toArray, List.getElem_cons_succ, List.getElem_cons_zero]))
        (refine tU 31 rfl ?_; (try simp only [lay, List.getElem_toArray, List.getElem_cons_succ, List.getElem_cons_zero]))
        (refine tP 32 rfl ?_; (try simp only [lay, List.getElem_toArray, List.getElem_cons_succ, List.getElem_cons_zero]))
        refine wpAnyT_done (by kernel_rfl) ?_ _
        go_wp2_with fail
        go_roundw
        case rel => exact ⟨i + 1, b, by omega, by omega, by go_num, rfl, HS.out, hbl⟩
        case measure => simp [intOf]; omega
      · have hnz : cmpI (en m i col) 0 = 1 ∨ cmpI (en m i col) 0 = -1 := by
          rcases Int.lt_trichotomy (en m i col) 0 with c | c | c
          · exact .inr (cmpI_lt c)
          · exact absurd c hx0
          · exact .inl (cmpI_gt c)
        rcases hLr with rfl | ⟨k, rfl, hk1', hk2'⟩
        · have HS := Lib.hid (HL.out.first rfl hfi hx0)
          clear HL hx0
          generalize en m i col = x at *
          rcases hnz with hnz | hnz
          all_goals
           have HNZ := Lib.hid hnz
           clear hnz
           go_upto_region 5 with fail
           refine wp_region_T (by kernel_rfl) [] (S := fun w' => w'.cell? ⟨ba, offa + i, none⟩ = some (.slice (some ⟨bb, offb, none⟩) N k1) ∧ w'.cell? ⟨bb, offb + col * 2, none⟩ = some (.bool s) ∧ w'.cell? ⟨bb, offb + col * 2 + 1, none⟩ = some (.slice c nn q)) ⟨p0, q0, q1⟩ (fun hHeld => ?_)
           (refine tP 0 rfl ?_; (try simp only [lay, List.getElem_toArray, List.getElem_cons_succ, List.getElem_cons_zero]))
           (refine tP 1 rfl ?_; (try simp only [lay, List.getElem_toArray, List.getElem_cons_succ, List.getElem_cons_zero]))
           (refine tP 2 rfl ?_; (try simp only [lay, List.getElem_toArray, List.getElem_cons_succ, List.getElem_cons_zero]))
           (refine tK 3 rfl ?_; (try simp only [lay, List.getElem_toArray, List.getElem_cons_succ, List.getElem_cons_zero]))
           (refine tP 4 rfl ?_; (try simp only [lay, List.getElem_toArray, List.getElem_cons_succ, List.getElem_cons_zero]))
           (refine tP 5 rfl ?_; (try simp only [lay, List.getElem_toArray, List.getElem_cons_succ, List.getElem_cons_zero]))
           (refine tK 6 rfl ?_; (try simp only [lay, List.getElem_toArray, List.getElem_cons_succ, List.getElem_cons_zero]))
           (refine wpAnyT_one (i := 7) (by as_aux_lemma => kernel_rfl) rfl (fun K hK => ?_); (try simp only [lay, List.getElem_toArray, List.getElem_cons_succ, List.getElem_cons_zero]); go_simp)
           refine (rsign_any _ x _ q2.drew).mono ?_
           rintro e w2 ⟨rfl, hb2⟩
           rw [HNZ.out]
           replace p0 := keepc hb2 (cellD p0)
           replace q0 := keepc hb2 (cellD q0)
           replace q1 := keepc hb2 (cellD q1)
           replace q2 := q2.drew.up hb2
           replace hbl := Bl.up (Bl.drew hbl) hb2
           go_wp2_with fail
           refine hK.out _ _ (fun _ => ⟨p0, q0, q1⟩) ?_
           have hHeld2 : w2.cell? ⟨ba, offa + i, none⟩ = some (.slice (some ⟨bb, offb, none⟩) N k1) ∧ w2.cell? ⟨bb, offb + col * 2, none⟩ = some (.bool s) ∧ w2.cell? ⟨bb, offb + col * 2 + 1, none⟩ = some (.slice c nn q) := ⟨p0, q0, q1⟩
           clear hK hHeld hb2
           (try simp only [lay, List.getElem_toArray, List.getElem_cons_succ, List.getElem_cons_zero])
           (refine tP 8 rfl ?_; (try simp only [lay, List.getElem_toArray, List.getElem_cons_succ, List.getElem_cons_zero]))
           (refine tP 9 rfl ?_; (try simp only [lay, List.getElem_toArray, List.getElem_cons_succ, List.getElem_cons_zero]))
           (refine tP 10 rfl ?_; (try simp only [lay, List.getElem_toArray, List.getElem_cons_succ, List.getElem_cons_zero]))
           (refine tP 11 rfl ?_; (try simp only [lay, List.getElem_toArray, List.getElem_cons_succ, List.getElem_cons_zero]))
           (refine tP 12 rfl ?_; (try simp only [lay, List.getElem_toArray, List.getElem_cons_succ, List.getElem_cons_zero]))
           (refine tU 13 rfl ?_; (try simp only [lay, List.getElem_toArray, List.getElem_cons_succ, List.getElem_cons_zero]))
           (refine tU 14 rfl ?_; (try simp only [lay, List.getElem_toArray, List.getElem_cons_succ, List.getElem_cons_zero]))
           (refine tU 15 rfl ?_; (try simp only [lay, List.getElem_toArray, List.getElem_cons_succ, List.getElem_cons_zero]))
           (refine tU 16 rfl ?_; (try simp only [lay, List.getElem_toArray, List.getElem_cons_succ, List.getElem_cons_zero]))
           (refine tU 17 rfl ?_; (try simp only [lay, List.getElem_toArray, List.getElem_cons_succ, List.getElem_cons_zero]))
           (refine tU 18 rfl ?_; (try simp only [lay, List.getElem_toArray, List.getElem_cons_succ, List.getElem_cons_zero]))
           (refine tU 19 rfl ?_; (try simp only [lay, List.getElem_toArray, List.getElem_cons_succ, List.getElem_cons_zero]))
           (refine tU 20 rfl ?_; (try simp only [lay, List.getElem_toArray, List.getElem_cons_succ, List.getElem_cons_zero]))
           (refine tU 21 rfl ?_; (try simp only [lay, List.getElem_toArray, List.getElem_cons_succ, List.getElem_cons_zero]))
           (refine tU 22 rfl ?_; (try simp only [lay, List.getElem_toArray, List.getElem_cons_succ, List.getElem_cons_zero]))
           (refine tU 23 rfl ?_; (try simp only [lay, List.getElem_toArray, List.getElem_cons_succ, List.getElem_cons_zero]))
           (refine tU 24 rfl ?_; (try simp only [lay, List.getElem_toArray, List.getElem_cons_succ, List.getElem_cons_zero]))
           (refine tU 25 rfl ?_; (try simp only [lay, List.getElem_toArray, List.getElem_cons_succ, List.getElem_cons_zero]))
           (refine tU 26 rfl ?_; (try simp only [lay, List.getElem_toArray, List.getElem_cons_succ, List.getElem_cons_zero]))
           (refine tU 27 rfl ?_; (try simp only [lay, List.getElem_toArray, List.getElem_cons_succ, List.getElem_cons_zero]))
           (refine tU 28 rfl ?_; (try simp only [lay, List.getElem_toArray, List.getElem_cons_succ, List.getElem_cons_zero]))
           (refine tU 29 rfl ?_; (try simp only [lay, List.getElem_toArray, List.getElem_cons_succ, List.getElem_cons_zero]))
           (refine tU 30 rfl ?_; (try simp only [lay, List.getElem_toArray, List.getElem_cons_succ, List.getElem_cons_zero]))
           (refine tP 31 rfl ?_; (try simp only [lay, List.getElem_toArray, List.getElem_cons_succ, List.getElem_cons_zero]))
           (refine tP 32 rfl ?_; (try simp only [lay, List.getElem_toArray, List.getElem_cons_succ, List.getElem_cons_zero]))
           refine wpAnyT_done (by kernel_rfl) ?_ _
           go_wp2_with fail
           go_roundw
           case rel => exact ⟨i + 1, i, by omega, by omega, by go_num, rfl, HS.out, hbl⟩
           case measure => simp [intOf]; omega
        · obtain ⟨ba', offa', ar', k1', e0, -, p0', -, hrw'⟩ := h.row hs (show k < R by omega)
          injection e0 with e0
          injection e0 with e1 e2
          subst e1 e2
          obtain ⟨bc, offc, s', c', nn', q', rfl, hbc, r0, r1, r2⟩ := hrw'.get hcol
          replace p0' := keepc hbl p0'
          replace r0 := keepc hbl r0
          replace r1 := keepc hbl r1
          replace r2 := r2.up hbl
          change It wr _ (en m k col) at r2
          have hsy := hsm k col
          clear hrw'
          have j0 : (0 : Int) ≤ (k : Int) := by omega
          have j1 : (k : Int) < (R : Int) := by omega
          have j2 : ¬ (k : Int) < 0 := by omega
          by_cases hl : (en m i col).natAbs < (en m k col).natAbs
          case' pos =>
            have HS := Lib.hid (HL.out.less hfi hx0 hl)
            have hc : decide (cmpI ((en m i col).natAbs : Int) ((en m k col).natAbs : Int) < 0) = true := by rw [cmpI_neg]; exact decide_eq_true (by omega)
          case' neg =>
            have HS := Lib.hid (HL.out.keep hl)
            have hc : decide (cmpI ((en m i col).natAbs : Int) ((en m k col).natAbs : Int) < 0) = false := by rw [cmpI_neg]; exact decide_eq_false (by omega)
          all_goals
            have HC := Lib.hid hc
            have hax : sz ((en m i col).natAbs : Int) ≤ 1099511627776 := by rw [sz_abs]; exact hsx
            have hay : sz ((en m k col).natAbs : Int) ≤ 1099511627776 := by rw [sz_abs]; exact hsy
            clear HL hx0 hl hc
            generalize en m i col = x at *
            generalize en m k col = y at *
            rcases hnz with hnz | hnz
            all_goals
             have HNZ := Lib.hid hnz
             clear hnz
             go_upto_region 5 with fail
             refine wp_region_T (by kernel_rfl) [] (S := fun w' => w'.cell? ⟨ba, offa + i, none⟩ = some (.slice (some ⟨bb, offb, none⟩) N k1) ∧ w'.cell? ⟨bb, offb + col * 2, none⟩ = some (.bool s) ∧ w'.cell? ⟨bb, offb + col * 2 + 1, none⟩ = some (.slice c nn q) ∧ w'.cell? ⟨ba, offa + k, none⟩ = some (.slice (some ⟨bc, offc, none⟩) N k1') ∧ w'.cell? ⟨bc, offc + col * 2, none⟩ = some (.bool s') ∧ w'.cell? ⟨bc, offc + col * 2 + 1, none⟩ = some (.slice c' nn' q')) ⟨p0, q0, q1, p0', r0, r1⟩ (fun hHeld => ?_)
             (refine tP 0 rfl ?_; (try simp only [lay, List.getElem_toArray, List.getElem_cons_succ, List.getElem_cons_zero]))
             (refine tP 1 rfl ?_; (try simp only [lay, List.getElem_toArray, List.getElem_cons_succ, List.getElem_cons_zero]))
             (refine tP 2 rfl ?_; (try simp only [lay, List.getElem_toArray, List.getElem_cons_succ, List.getElem_cons_zero]))
             (refine tK 3 rfl ?_; (try simp only [lay, List.getElem_toArray, List.getElem_cons_succ, List.getElem_cons_zero]))
             (refine tP 4 rfl ?_; (try simp only [lay, List.getElem_toArray, List.getElem_cons_succ, List.getElem_cons_zero]))
             (refine tP 5 rfl ?_; (try simp only [lay, List.getElem_toArray, List.getElem_cons_succ, List.getElem_cons_zero]))
             (refine tK 6 rfl ?_; (try simp only [lay, List.getElem_toArray, List.getElem_cons_succ, List.getElem_cons_zero]))
             (refine wpAnyT_one (i := 7) (by as_aux_lemma => kernel_rfl) rfl (fun K hK => ?_); (try simp only [lay, List.getElem_toArray, List.getElem_cons_succ, List.getElem_cons_zero]); go_simp)
             refine (rsign_any _ x _ q2.drew).mono ?_
             rintro e w2 ⟨rfl, hb2⟩
             rw [HNZ.out]
             replace p0 := keepc hb2 (cellD p0)
             replace q0 := keepc hb2 (cellD q0)
             replace q1 := keepc hb2 (cellD q1)
             replace p0' := keepc hb2 (cellD p0')
             replace r0 := keepc hb2 (cellD r0)
             replace r1 := keepc hb2 (cellD r1)
             replace q2 := q2.drew.up hb2
             replace hbl := Bl.up (Bl.drew hbl) hb2
             replace r2 := r2.drew.up hb2
             go_wp2_with fail
             refine hK.out _ _ (fun _ => ⟨p0, q0, q1, p0', r0, r1⟩) ?_
             have hHeld2 : w2.cell? ⟨ba, offa + i, none⟩ = some (.slice (some ⟨bb, offb, none⟩) N k1) ∧ w2.cell? ⟨bb, offb + col * 2, none⟩ = some (.bool s) ∧ w2.cell? ⟨bb, offb + col * 2 + 1, none⟩ = some (.slice c nn q) ∧ w2.cell? ⟨ba, offa + k, none⟩ = some (.slice (some ⟨bc, offc, none⟩) N k1') ∧ w2.cell? ⟨bc, offc + col * 2, none⟩ = some (.bool s') ∧ w2.cell? ⟨bc, offc + col * 2 + 1, none⟩ = some (.slice c' nn' q') := ⟨p0, q0, q1, p0', r0, r1⟩
             clear hK hHeld hb2
             (try simp only [lay, List.getElem_toArray, List.getElem_cons_succ, List.getElem_cons_zero])
             (refine tP 8 rfl ?_; (try simp only [lay, List.getElem_toArray, List.getElem_cons_succ, List.getElem_cons_zero]))
             (refine tP 9 rfl ?_; (try simp only [lay, List.getElem_toArray, List.getElem_cons_succ, List.getElem_cons_zero]))
             (refine tP 10 rfl ?_; (try simp only [lay, List.getElem_toArray, List.getElem_cons_succ, List.getElem_cons_zero]))
             (refine tP 11 rfl ?_; (try simp only [lay, List.getElem_toArray, List.getElem_cons_succ, List.getElem_cons_zero]))
             (refine tP 12 rfl ?_; (try simp only [lay, List.getElem_toArray, List.getElem_cons_succ, List.getElem_cons_zero]))
             (refine tP 13 rfl ?_; (try simp only [lay, List.getElem_toArray, List.getElem_cons_succ, List.getElem_cons_zero]))
             (refine tP 14 rfl ?_; (try simp only [lay, List.getElem_toArray, List.getElem_cons_succ, List.getElem_cons_zero]))
             (refine tP 15 rfl ?_; (try simp only [lay, List.getElem_toArray, List.getElem_cons_succ, List.getElem_cons_zero]))
             (refine tK 16 rfl ?_; (try simp only [lay, List.getElem_toArray, List.getElem_cons_succ, List.getElem_cons_zero]))
             (refine tP 17 rfl ?_; (try simp only [lay, List.getElem_toArray, List.getElem_cons_succ, List.getElem_cons_zero]))
             (refine tP 18 rfl ?_; (try simp only [lay, List.getElem_toArray, List.getElem_cons_succ, List.getElem_cons_zero]))
             (refine tK 19 rfl ?_; (try simp only [lay, List.getElem_toArray, List.getElem_cons_succ, List.getElem_cons_zero]))
             (refine tP 21 rfl ?_; (try simp only [lay, List.getElem_toArray, List.getElem_cons_succ, List.getElem_cons_zero]))
             (refine tP 22 rfl ?_; (try simp only [lay, List.getElem_toArray, List.getElem_cons_succ, List.getElem_cons_zero]))
             (refine tP 23 rfl ?_; (try simp only [lay, List.getElem_toArray, List.getElem_cons_succ, List.getElem_cons_zero]))
             (refine tK 24 rfl ?_; (try simp only [lay, List.getElem_toArray, List.getElem_cons_succ, List.getElem_cons_zero]))
             (refine tP 25 rfl ?_; (try simp only [lay, List.getElem_toArray, List.getElem_cons_succ, List.getElem_cons_zero]))
             (refine tP 26 rfl ?_; (try simp only [lay, List.getElem_toArray, List.getElem_cons_succ, List.getElem_cons_zero]))
             (refine tK 27 rfl ?_; (try simp only [lay, List.getElem_toArray, List.getElem_cons_succ, List.getElem_cons_zero]))
             (refine wpAnyT_one (i := 20) (by as_aux_lemma => kernel_rfl) rfl (fun K hK => ?_); (try simp only [lay, List.getElem_toArray, List.getElem_cons_succ, List.getElem_cons_zero]); go_simp)
             refine (rabs_any _ x _ q2 (Nat.le_trans hsx (by decide))).mono ?_
             rintro e w3 ⟨v3, rfl, hv3, hb3⟩
             obtain ⟨s3, a3, n3, c3, rfl⟩ := hv3.shape
             replace p0 := keepc hb3 p0
             replace q0 := keepc hb3 q0
             replace q1 := keepc hb3 q1
             replace p0' := keepc hb3 p0'
             replace r0 := keepc hb3 r0
             replace r1 := keepc hb3 r1
             replace q2 := q2.up hb3
             replace r2 := r2.up hb3
             replace hbl := Bl.up hbl hb3
             go_wp2_with fail
             refine hK.out _ _ (fun _ => ⟨p0, q0, q1, p0', r0, r1⟩) ?_
             clear hK hHeld2 hb3
             (try simp only [lay, List.getElem_toArray, List.getElem_cons_succ, List.getElem_cons_zero])
             (refine wpAnyT_one (i := 28) (by as_aux_lemma => kernel_rfl) rfl (fun K hK => ?_); (try simp only [lay, List.getElem_toArray, List.getElem_cons_succ, List.getElem_cons_zero]); go_simp)
             refine (rabs_any _ y _ r2 (Nat.le_trans hsy (by decide))).mono ?_
             rintro e w4 ⟨v4, rfl, hv4, hb4⟩
             obtain ⟨s4, a4, n4, c4, rfl⟩ := hv4.shape
             replace hv3 := hv3.up hb4
             replace p0 := keepc hb4 p0
             replace q0 := keepc hb4 q0
             replace q1 := keepc hb4 q1
             replace p0' := keepc hb4 p0'
             replace r0 := keepc hb4 r0
             replace r1 := keepc hb4 r1
             replace q2 := q2.up hb4
             replace r2 := r2.up hb4
             replace hbl := Bl.up hbl hb4
             go_wp2_with fail
             refine hK.out _ _ (fun _ => ⟨p0, q0, q1, p0', r0, r1⟩) ?_
             clear hK hb4
             (try simp only [lay, List.getElem_toArray, List.getElem_cons_succ, List.getElem_cons_zero])
             (refine wpAnyT_one (i := 29) (by as_aux_lemma => kernel_rfl) rfl (fun K hK => ?_); (try simp only [lay, List.getElem_toArray, List.getElem_cons_succ, List.getElem_cons_zero]); go_simp)
             refine (rcmp_any _ _ (x.natAbs : Int) (y.natAbs : Int) _ hv3 hv4 (Nat.le_trans hax (by decide)) (Nat.le_trans hay (by decide))).mono ?_
             rintro e w5 ⟨rfl, hb5⟩
             replace p0 := keepc hb5 p0
             replace q0 := keepc hb5 q0
             replace q1 := keepc hb5 q1
             replace p0' := keepc hb5 p0'
             replace r0 := keepc hb5 r0
             replace r1 := keepc hb5 r1
             replace q2 := q2.up hb5
             replace r2 := r2.up hb5
             replace hbl := Bl.up hbl hb5
             go_wp2_with fail
             refine hK.out _ _ (fun _ => ⟨p0, q0, q1, p0', r0, r1⟩) ?_
             clear hK hb5 hv3 hv4
             (try simp only [lay, List.getElem_toArray, List.getElem_cons_succ, List.getElem_cons_zero])
             (refine wpAnyT_one (i := 30) (by as_aux_lemma => kernel_rfl) rfl (fun K hK => ?_); (try simp only [lay, List.getElem_toArray, List.getElem_cons_succ, List.getElem_cons_zero]); go_simp)
             rw [HC.out]
             refine hK.out _ _ (fun _ => ⟨p0, q0, q1, p0', r0, r1⟩) ?_
             clear hK
             (try simp only [lay, List.getElem_toArray, List.getElem_cons_succ, List.getElem_cons_zero])
             (refine wpAnyT_one (i := 31) (by as_aux_lemma => kernel_rfl) rfl (fun K hK => ?_); (try simp only [lay, List.getElem_toArray, List.getElem_cons_succ, List.getElem_cons_zero]); go_simp)
             refine hK.out _ _ (fun _ => ⟨p0, q0, q1, p0', r0, r1⟩) ?_
             clear hK
             (try simp only [lay, List.getElem_toArray, List.getElem_cons_succ, List.getElem_cons_zero])
             (refine wpAnyT_one (i := 32) (by as_aux_lemma => kernel_rfl) rfl (fun K hK => ?_); (try simp only [lay, List.getElem_toArray, List.getElem_cons_succ, List.getElem_cons_zero]); go_simp)
             refine hK.out _ _ (fun _ => ⟨p0, q0, q1, p0', r0, r1⟩) ?_
             clear hK
             (try simp only [lay, List.getElem_toArray, List.getElem_cons_succ, List.getElem_cons_zero])
             refine wpAnyT_done (by kernel_rfl) ?_ _
             go_wp2_with fail
             go_roundw
             case rel => exact ⟨i + 1, _, by omega, by omega, by go_num, rfl, HS.out, hbl⟩
             case measure => simp [intOf]; omega
    · have i1 : ¬ (i : Int) < (R : Int) := by omega
      have hiR : i = R := by omega
      subst hiR
      go_wp2_with fail
      go_ret
      exact ⟨b, rfl, HL.out, hbl⟩
end Go.Proofs.YtdbpkoddfcdhdaaGreat
