/-
  Minors of a leading block and one more row and column; bits of determinants. No program.
  A matrix's row and one of its elements, where they lie. No program.
  The reference: Neg, Sign.
  The reference: Det.
-/
import Derived.Test.YtdbpkoddfcdhdaaGreatPS
import Derived.Test.YtdbpkoddfcdhdaaGreatPU
import Derived.Test.YtdbpkoddfcdhdaaGreatPH
import Derived.Test.YtdbpkoddfcdhdaaGreatPI
import Derived.Test.YtdbpkoddfcdhdaaGreatPN
set_option linter.unusedSimpArgs false
set_option linter.unusedVariables false

namespace Go.Proofs.YtdbpkoddfcdhdaaGreat

theorem det_one (M : Nat → Nat → Int) : det 1 M = M 0 0 := by simp [det, sumN, sgn]
theorem det_two (M : Nat → Nat → Int) : det 2 M = M 0 0 * M 1 1 - M 1 0 * M 0 1 := by
  rw [det]; simp only [det_one]; simp [sumN, sgn, skip]; omega
theorem det_three (M : Nat → Nat → Int) : det 3 M = M 0 0 * (M 1 1 * M 2 2 - M 2 1 * M 1 2) - M 1 0 * (M 0 1 * M 2 2 - M 2 1 * M 0 2) + M 2 0 * (M 0 1 * M 1 2 - M 1 1 * M 0 2) := by
  rw [det]; simp only [det_two]; simp [sumN, sgn, skip]; omega
theorem det_four (M : Nat → Nat → Int) : det 4 M =
    M 0 0 * (M 1 1 * (M 2 2 * M 3 3 - M 3 2 * M 2 3) - M 2 1 * (M 1 2 * M 3 3 - M 3 2 * M 1 3) + M 3 1 * (M 1 2 * M 2 3 - M 2 2 * M 1 3)) -
    M 1 0 * (M 0 1 * (M 2 2 * M 3 3 - M 3 2 * M 2 3) - M 2 1 * (M 0 2 * M 3 3 - M 3 2 * M 0 3) + M 3 1 * (M 0 2 * M 2 3 - M 2 2 * M 0 3)) +
    M 2 0 * (M 0 1 * (M 1 2 * M 3 3 - M 3 2 * M 1 3) - M 1 1 * (M 0 2 * M 3 3 - M 3 2 * M 0 3) + M 3 1 * (M 0 2 * M 1 3 - M 1 2 * M 0 3)) -
    M 3 0 * (M 0 1 * (M 1 2 * M 2 3 - M 2 2 * M 1 3) - M 1 1 * (M 0 2 * M 2 3 - M 2 2 * M 0 3) + M 2 1 * (M 0 2 * M 1 3 - M 1 2 * M 0 3)) := by
  rw [det]; simp only [det_three]; simp [sumN, sgn, skip]; omega

/-- The first k rows and row i, at the first k columns and column j. -/
def bor (k i j : Nat) (A : Nat → Nat → Int) : Nat → Nat → Int := fun x y => A (if x < k then x else i) (if y < k then y else j)
def mnr (k : Nat) (A : Nat → Nat → Int) (i j : Nat) : Int := det (k + 1) (bor k i j A)

section
variable {R E k : Nat} {A : Nat → Nat → Int}

theorem mnr_0 (i j : Nat) : mnr 0 A i j = A i j := by unfold mnr; rw [det_one]; simp [bor]
theorem mnr_1 (i j : Nat) : mnr 1 A i j = A 0 0 * A i j - A i 0 * A 0 j := by unfold mnr; rw [det_two]; simp [bor]
theorem mnr_2 (i j : Nat) : mnr 2 A i j = A 0 0 * (A 1 1 * A i j - A i 1 * A 1 j) - A 1 0 * (A 0 1 * A i j - A i 1 * A 0 j) + A i 0 * (A 0 1 * A 1 j - A 1 1 * A 0 j) := by
  unfold mnr; rw [det_three]; simp [bor]
theorem mnr_3 (i j : Nat) : mnr 3 A i j =
    A 0 0 * (A 1 1 * (A 2 2 * A i j - A i 2 * A 2 j) - A 2 1 * (A 1 2 * A i j - A i 2 * A 1 j) + A i 1 * (A 1 2 * A 2 j - A 2 2 * A 1 j)) -
    A 1 0 * (A 0 1 * (A 2 2 * A i j - A i 2 * A 2 j) - A 2 1 * (A 0 2 * A i j - A i 2 * A 0 j) + A i 1 * (A 0 2 * A 2 j - A 2 2 * A 0 j)) +
    A 2 0 * (A 0 1 * (A 1 2 * A i j - A i 2 * A 1 j) - A 1 1 * (A 0 2 * A i j - A i 2 * A 0 j) + A i 1 * (A 0 2 * A 1 j - A 1 2 * A 0 j)) -
    A i 0 * (A 0 1 * (A 1 2 * A 2 j - A 2 2 * A 1 j) - A 1 1 * (A 0 2 * A 2 j - A 2 2 * A 0 j) + A 2 1 * (A 0 2 * A 1 j - A 1 2 * A 0 j)) := by
  unfold mnr; rw [det_four]; simp [bor]

theorem mnr_self (k : Nat) : mnr k A k k = det (k + 1) A := det_congr _ fun x y hx hy => by
  unfold bor
  congr 1 <;> split <;> omega

theorem syl (hk : k ≤ 2) (i j : Nat) : mnr k A i j * mnr k A k k - mnr k A i k * mnr k A k j = det k A * mnr (k + 1) A i j := by
  match k, hk with
  | 0, _ => rw [mnr_0, mnr_0, mnr_0, mnr_0, mnr_1, show det 0 A = 1 from rfl]; grind
  | 1, _ => rw [mnr_1, mnr_1, mnr_1, mnr_1, mnr_2, det_one]; grind
  | 2, _ =>
    rw [mnr_2, mnr_2, mnr_2, mnr_2, mnr_3, det_two]
    generalize A 0 0 = a00; generalize A 0 1 = a01; generalize A 0 2 = a02; generalize A 0 j = a03
    generalize A 1 0 = a10; generalize A 1 1 = a11; generalize A 1 2 = a12; generalize A 1 j = a13
    generalize A 2 0 = a20; generalize A 2 1 = a21; generalize A 2 2 = a22; generalize A 2 j = a23
    generalize A i 0 = a30; generalize A i 1 = a31; generalize A i 2 = a32; generalize A i j = a33
    grind

/-- A column that is a combination of those before it. -/
theorem col_zero {t : Nat} (cof : Nat → Int) (ht : t < R) (h0 : cof t ≠ 0) (hz : ∀ i, i < R → sumN (t + 1) (fun c => cof c * A i c) = 0) : det R A = 0 := by
  have hd := det_am R
  rw [← det_trn]
  have h1 := hd.sum (M := trn A) (r := t) ht cof (trn A) (t + 1)
  rw [hd.zrow ht (fun k hk => by unfold upd2; rw [if_pos rfl]; exact hz k hk)] at h1
  have h2 : (sumN t fun j => cof j * det R (upd2 (trn A) t (trn A j))) = 0 := by
    rw [sumN_congr (n := t) (g := fun _ => 0) (fun j hj => by
      rw [hd.same (M := upd2 (trn A) t (trn A j)) (i := j) (j := t) (by omega) ht (by omega) (fun k _ => by unfold upd2; rw [if_neg (by omega), if_pos rfl]), Int.mul_zero])]
    clear h1 hz
    induction t with
    | zero => rfl
    | succ t ih => simp only [sumN]; rw [show sumN t (fun _ => 0) = 0 from sumN_zero (fun _ _ => rfl)]; rfl
  simp only [sumN] at h1
  rw [h2, upd2_self] at h1
  rcases Int.mul_eq_zero.1 (show cof t * det R (trn A) = 0 by omega) with h | h
  · exact absurd h h0
  · exact h

theorem det_none (hk : k < R) (hR : R ≤ 4) (h0 : det k A ≠ 0) (hz : ∀ i, k ≤ i → i < R → mnr k A i k = 0) : det R A = 0 := by
  by_cases e : k + 1 = R
  · subst e; rw [← mnr_self]; exact hz k (Nat.le_refl _) hk
  · have hk2 : k ≤ 2 := by omega
    match k, hk2 with
    | 0, _ =>
      exact col_zero (t := 0) (fun _ => 1) hk (by decide) fun i hi => by
        have := hz i (Nat.zero_le _) hi
        rw [mnr_0] at this
        simp [sumN, this]
    | 1, _ =>
      rw [det_one] at h0
      refine col_zero (t := 1) (fun c => if c = 0 then - A 0 1 else A 0 0) hk (by simpa using h0) fun i hi => ?_
      have h1 : mnr 1 A i 1 = 0 := by
        rcases Nat.lt_or_ge i 1 with h | h
        · obtain rfl : i = 0 := by omega
          rw [mnr_1]; grind
        · exact hz i h hi
      rw [mnr_1] at h1
      simp [sumN]
      grind
    | 2, _ =>
      rw [det_two] at h0
      refine col_zero (t := 2) (fun c => if c = 0 then A 0 1 * A 1 2 - A 1 1 * A 0 2 else if c = 1 then - (A 0 0 * A 1 2 - A 1 0 * A 0 2) else A 0 0 * A 1 1 - A 1 0 * A 0 1) hk (by simpa using h0) fun i hi => ?_
      have h1 : mnr 2 A i 2 = 0 := by
        rcases Nat.lt_or_ge i 2 with h | h
        · rw [mnr_2]
          have : i = 0 ∨ i = 1 := by omega
          rcases this with rfl | rfl <;> grind
        · exact hz i h hi
      rw [mnr_2] at h1
      simp [sumN]
      grind

theorem AM.swapN {n N : Nat} {F : (Nat → Nat → Int) → Int} (h : AM n N F) (M : Nat → Nat → Int) {r s : Nat} (hr : r < n) (hs : s < n) (hne : r ≠ s) : F (swp M r s) = - F M := by
  have z : ∀ v, F (upd2 (upd2 M r v) s v) = 0 := fun v => h.same hr hs hne fun k _ => by unfold upd2; simp
  have hne' : s ≠ r := fun e => hne e.symm
  have e1 : F (upd2 (upd2 M r (fun k => M r k + M s k)) s (fun k => M r k + M s k)) =
      F (upd2 (upd2 M r (M r)) s (M r)) + F (upd2 (upd2 M r (M r)) s (M s)) + (F (upd2 (upd2 M r (M s)) s (M r)) + F (upd2 (upd2 M r (M s)) s (M s))) := by
    rw [h.add hs]
    rw [upd2_comm M hne, h.add hr, upd2_comm M hne, h.add hr]
    rw [upd2_comm _ hne', upd2_comm _ hne', upd2_comm _ hne', upd2_comm _ hne']
    omega
  rw [z, z, z, upd2_self, upd2_self] at e1
  rw [swp_upd M hne]
  omega

theorem mnr_swp {s : Nat} (hs : k < s) {i : Nat} (hi : k ≤ i) (j : Nat) : mnr k (swp A k s) i j = mnr k A (if i = k then s else if i = s then k else i) j := by
  unfold mnr
  congr 1
  funext x y
  unfold bor swp
  by_cases hx : x < k
  · rw [if_pos hx, if_neg (by omega), if_neg (by omega), if_pos hx]
  · rw [if_neg hx, if_neg hx]
    by_cases h1 : i = k
    · rw [if_pos h1, if_pos h1]
    · by_cases h2 : i = s
      · rw [if_neg h1, if_pos h2, if_neg h1, if_pos h2]
      · rw [if_neg h1, if_neg h2, if_neg h1, if_neg h2]

/-- Bits of determinants. -/
def dB (E : Nat) : Nat → Nat
  | 0 => 2
  | n + 1 => E + dB E n + (n + 1)
theorem dB_mono {n m : Nat} (h : n ≤ m) : dB E n ≤ dB E m := by
  induction m with
  | zero => obtain rfl : n = 0 := by omega
            exact Nat.le_refl _
  | succ m ih =>
    rcases Nat.eq_or_lt_of_le h with e | e
    · rw [e]; exact Nat.le_refl _
    · have := ih (by omega)
      show _ ≤ E + dB E m + (m + 1)
      omega
theorem Bt.sum {n E : Nat} {f : Nat → Int} (h : ∀ i, i < n → Bt (f i) E) : Bt (sumN n f) (E + n) := by
  induction n with
  | zero => exact Bt.zero
  | succ n ih =>
    have h1 := ih fun i hi => h i (by omega)
    have h2 := (h n (by omega)).mono (Nat.le_add_right E n)
    unfold Bt at *
    simp only [sumN]
    rw [show E + (n + 1) = (E + n) + 1 by omega, Nat.pow_succ]
    have := Int.natAbs_add_le (sumN n f) (f n)
    omega
theorem Bt.mul2 {a b : Int} {E F : Nat} (ha : Bt a E) (hb : Bt b F) : Bt (a * b) (E + F) := by
  unfold Bt at *
  rw [Int.natAbs_mul]
  have := quarter ha (Nat.le_of_lt hb)
  omega
theorem Bt.sgn {x : Int} {E i : Nat} (h : Bt x E) : Bt (sgn i * x) E := by
  unfold Go.Proofs.YtdbpkoddfcdhdaaGreat.sgn
  split
  · rw [Int.one_mul]; exact h
  · rw [Int.neg_mul, Int.one_mul]; exact h.neg
theorem det_bt : ∀ (n : Nat) {M : Nat → Nat → Int}, (∀ i j, Bt (M i j) E) → Bt (det n M) (dB E n)
  | 0, M, _ => by unfold det dB Bt; decide
  | n + 1, M, h => by
    rw [det]
    show Bt _ (E + dB E n + (n + 1))
    exact Bt.sum fun i hi => Bt.sgn ((h i 0).mul2 (det_bt n fun a b => h _ _))
theorem mnr_bt (h : ∀ i j, Bt (A i j) E) (i j : Nat) : Bt (mnr k A i j) (dB E (k + 1)) := det_bt _ fun _ _ => h _ _
end

end Go.Proofs.YtdbpkoddfcdhdaaGreat

namespace Go.Proofs.YtdbpkoddfcdhdaaGreat
open Go.RowKit

/-- Row i of a matrix. -/
theorem Mx.row {w : World} {a : Option Addr} {R N ca : Nat} {m : List (List Int)} (h : Mx w (.slice a R ca) m) (hs : Shape R N m) {i : Nat} (hi : i < R) :
    ∃ ba offa ar k1, a = some ⟨ba, offa, none⟩ ∧ ba < w.heap.size ∧ w.cell? ⟨ba, offa + i, none⟩ = some (.slice ar N k1) ∧ N ≤ k1 ∧ Rw w (.slice ar N k1) (m.getD i []) := by
  obtain ⟨_, _, e, h1, h2⟩ := h
  injection e with e1 e2 e3
  subst e1 e3
  obtain ⟨ba, offa, rfl, hb, hc⟩ := h2.at (i := i) (by rw [hs.1]; exact hi)
  obtain ⟨c, k, c0, c1⟩ := hc i (by rw [hs.1]; exact hi)
  have hl := hs.2 i hi
  rw [hl] at c0 c1
  have hk : N ≤ k := by
    obtain ⟨_, _, e, h3, -⟩ := c1
    injection e with e1 e2 e3
    omega
  exact ⟨ba, offa, c, k, rfl, hb, c0, hk, c1⟩

/-- Element k of a row. -/
theorem Rw.get {w : World} {a : Option Addr} {N cap : Nat} {l : List Int} (h : Rw w (.slice a N cap) l) {k : Nat} (hk : k < N) :
    ∃ b off s c n q, a = Option.some ⟨b, off, none⟩ ∧ b < w.heap.size ∧ w.cell? ⟨b, off + k * 2, none⟩ = Option.some (.bool s) ∧ w.cell? ⟨b, off + k * 2 + 1, none⟩ = Option.some (.slice c n q) ∧ It w (.agg #[.bool s, .slice c n q]) (l.getD k 0) := by
  obtain ⟨_, _, e, h1, h2⟩ := h
  injection e with e1 e2 e3
  subst e1 e3
  obtain ⟨b, off, rfl, hb, hc⟩ := h2.at (i := k) (by omega)
  obtain ⟨s, c, n, q, c0, c1, c2⟩ := hc k (by omega)
  exact ⟨b, off, s, c, n, q, rfl, hb, c0, c1, c2⟩
theorem Rw.get0 {w : World} {a : Option Addr} {N cap : Nat} {l : List Int} (h : Rw w (.slice a N cap) l) (hN : 0 < N) :
    ∃ b off s c n q, a = Option.some ⟨b, off, none⟩ ∧ b < w.heap.size ∧ w.cell? ⟨b, off, none⟩ = Option.some (.bool s) ∧ w.cell? ⟨b, off + 1, none⟩ = Option.some (.slice c n q) ∧ It w (.agg #[.bool s, .slice c n q]) (l.getD 0 0) := by
  obtain ⟨b, off, s, c, n, q, h1, h2, h3, h4, h5⟩ := h.get hN
  rw [Nat.zero_mul, Nat.add_zero] at h3 h4
  exact ⟨b, off, s, c, n, q, h1, h2, h3, h4, h5⟩
theorem Rw.len {w : World} {a : Option Addr} {N cap : Nat} {l : List Int} (h : Rw w (.slice a N cap) l) : l.length = N := by
  obtain ⟨_, _, e, -⟩ := h
  injection e with e1 e2 e3
  exact e2.symm
theorem Rw.suf2 {w : World} {b off N cap n : Nat} {r : List Int} (h : Rw w (.slice (Option.some ⟨b, off, none⟩) N cap) r) (hn : n < N) : Rw w (.slice (Option.some ⟨b, off + n * 2, none⟩) (N - n) (cap - n)) (r.drop n) := by
  obtain ⟨_, _, e, h1, h2⟩ := h
  injection e with e1 e2 e3
  subst e1 e3
  refine ⟨_, _, by rw [List.length_drop, ← e2], by rw [List.length_drop]; omega, ?_⟩
  rcases h2 with rfl | ⟨b', off', e1, hb, hc⟩
  · simp at e2; omega
  · injection e1 with e1
    injection e1 with e1 e4
    subst e1 e4
    refine .inr ⟨b, off + n * 2, rfl, hb, fun i hi => ?_⟩
    rw [List.length_drop] at hi
    obtain ⟨s, c, n', k, c0, c1, c2⟩ := hc (n + i) (by omega)
    refine ⟨s, c, n', k, ?_, ?_, ?_⟩
    · rw [← c0]; congr 2; omega
    · rw [← c1]; congr 2; omega
    · simp only [List.getD_eq_getElem?_getD, List.getElem?_drop] at c2 ⊢; exact c2
end Go.Proofs.YtdbpkoddfcdhdaaGreat

namespace Go.Proofs.YtdbpkoddfcdhdaaGreat
open Go.RowKit
attribute [local go_sem ↓] Go.wp_at_zero Go.wp_at_succ

set_option maxHeartbeats 1000000 in
theorem rneg_any (va : Value) (x : Int) (w : World) (hx : It w va x) (hs : sz x ≤ 4398046511104) :
    Calls Tryz.prog 53 #[va] w fun e w' => ∃ v, e = .returned v ∧ It w' v (-x) ∧ Below w.heap.size w w' := by
  obtain ⟨a, cap, f, rfl, h1, h2, h3, h4, h5⟩ := hx.parts
  have H5 := Lib.hid h5
  clear h5
  go_enter Tryz.func53, Tryz.ntmps53
  go_wp2_with fail
  refine (made_any _ a (sz x) cap f _ h1 (by omega) (h2.up ((below_new _ _).alloc (by simp) _)) h3).mono ?_
  rintro e w1 ⟨v, rfl, hv, hb⟩
  rw [H5.out, sg_neg] at hv
  have hB := (Bx.new (w.alloc (.cells #[.bool (decide (x < 0)), .slice a (sz x) cap] 56)) (.bool false) (.slice none 0 0) 56).up hb
  have hN := (NoW.new (w.alloc (.cells #[.bool (decide (x < 0)), .slice a (sz x) cap] 56)) #[.bool false, .slice none 0 0] 56 rfl).up (by simp) hb
  have hbw := ((below_new w (.cells #[.bool (decide (x < 0)), .slice a (sz x) cap] 56)).alloc (by simp) (.cells #[.bool false, .slice none 0 0] 56)).trans (hb.mono (by simp; omega))
  simp only [World.size_alloc] at hB hN
  have c0 := hB.c0
  have c1 := hB.c1
  have f0 := hB.f0
  have f1 := hB.f1
  clear hb
  obtain ⟨s', a', n', cap', rfl⟩ := hv.shape
  go_wp2_with fail
  exact ret_box (B := w.heap.size + 1) rfl rfl rfl (hB.put _ _) ⟨_, rfl, hv.put hN _ _ _ _, (hbw.setCell (by simp) _).setCell (by simp) _⟩

theorem rsign_any (va : Value) (x : Int) (w : World) (hx : It w va x) :
    Calls Tryz.prog 52 #[va] w fun e w' => e = .returned (.int .i64 (cmpI x 0)) ∧ Below w.heap.size w w' := by
  obtain ⟨a, cap, f, rfl, h1, h2, h3, h4, h5⟩ := hx.parts
  rcases Int.lt_trichotomy x 0 with h | h | h
  · have hz : ((sz x : Int) == 0) = false := by rw [beq_eq_false_iff_ne]; have := mt sz_zero.1 (show x ≠ 0 by omega); omega
    have hd : decide (x < 0) = true := by simpa using h
    go_enter Tryz.func52, Tryz.ntmps52
    go_wp2_with fail
    go_ret
    exact ⟨ret_of (by rw [cmpI_lt h]; rfl), below_new _ _⟩
  · subst h
    have hz : sz 0 = 0 := rfl
    rw [hz]
    clear hz
    go_enter Tryz.func52, Tryz.ntmps52
    go_wp2_with fail
    go_ret
    exact ⟨ret_of (by rw [cmpI_eq rfl]; rfl), below_new _ _⟩
  · have hz : ((sz x : Int) == 0) = false := by rw [beq_eq_false_iff_ne]; have := mt sz_zero.1 (show x ≠ 0 by omega); omega
    have hd : decide (x < 0) = false := by simp; omega
    go_enter Tryz.func52, Tryz.ntmps52
    go_wp2_with fail
    go_ret
    exact ⟨ret_of (by rw [cmpI_gt h]; rfl), below_new _ _⟩
end Go.Proofs.YtdbpkoddfcdhdaaGreat

namespace Go.Proofs.YtdbpkoddfcdhdaaGreat
open Go.RowKit
attribute [local go_sem ↓] Go.wp_at_zero Go.wp_at_succ

/-- Without row i and the first column. -/
def lessM (m : List (List Int)) (i n : Nat) : List (List Int) := (List.range n).map fun a => (m.getD (skip i a) []).drop 1

theorem skip_lt {i a n : Nat} (h : a < n) : skip i a < n + 1 := by unfold skip; split <;> omega
theorem lessM_at {m : List (List Int)} {i n a : Nat} (h : a < n) : (lessM m i n).getD a [] = (m.getD (skip i a) []).drop 1 := by
  simp [lessM, List.getD_eq_getElem?_getD, h]
theorem lessM_shape {m : List (List Int)} {i n : Nat} (hs : Shape (n + 1) (n + 1) m) : Shape n n (lessM m i n) :=
  ⟨by simp [lessM], fun a ha => by rw [lessM_at ha, List.length_drop, hs.2 _ (skip_lt ha)]; omega⟩
theorem lessM_en {m : List (List Int)} {i n a : Nat} (h : a < n) (b : Nat) : en (lessM m i n) a b = en m (skip i a) (b + 1) := by
  unfold en
  rw [lessM_at h]
  simp only [List.getD_eq_getElem?_getD, List.getElem?_drop]
  rw [Nat.add_comm 1 b]
theorem lessM_bt {m : List (List Int)} {i n E : Nat} (hb : ∀ i j, Bt (en m i j) E) (a b : Nat) : Bt (en (lessM m i n) a b) E := by
  rcases Nat.lt_or_ge a n with h | h
  · rw [lessM_en h]; exact hb _ _
  · unfold en
    rw [show (lessM m i n).getD a [] = [] by simp [List.getD_eq_getElem?_getD, List.getElem?_eq_none (show (lessM m i n).length ≤ a by simpa [lessM] using h)]]
    exact Bt.zero
theorem lessM_det {m : List (List Int)} {i n : Nat} : det n (en (lessM m i n)) = det n fun a b => en m (skip i a) (b + 1) := det_congr n fun a b ha _ => lessM_en ha b

/-- How many rows are there when k have been looked at. -/
def cnt (i k : Nat) : Nat := if k ≤ i then k else k - 1
theorem lessM_skip (m : List (List Int)) (i n : Nat) : (lessM m i n).take (cnt i (i + 1)) = (lessM m i n).take (cnt i i) := by
  unfold cnt; rw [if_neg (by omega), if_pos (Nat.le_refl _)]; rfl
theorem lessM_take (m : List (List Int)) {i n k : Nat} (hk : k < n + 1) (hi : i < n + 1) (hne : k ≠ i) :
    (lessM m i n).take (cnt i (k + 1)) = (lessM m i n).take (cnt i k) ++ [(m.getD k []).drop 1] := by
  have h1 : cnt i (k + 1) = cnt i k + 1 := by unfold cnt; split <;> split <;> omega
  have h2 : cnt i k < n := by unfold cnt; split <;> omega
  have h3 : skip i (cnt i k) = k := by unfold cnt skip; split <;> split <;> omega
  rw [h1, List.take_succ_eq_append_getElem (by simpa [lessM] using h2)]
  simp [lessM, h3]

theorem sz_sgn (i : Nat) : sz (sgn i) ≤ 1099511627776 := by
  unfold sgn; split <;> decide
def dterm (n i : Nat) (m : List (List Int)) : Int := sgn i * (en m i 0 * det n (en (lessM m i n)))
theorem dterm_bt {n E : Nat} {m : List (List Int)} (hb : ∀ i j, Bt (en m i j) E) (i : Nat) : Bt (dterm n i m) (E + dB E n) := ((hb i 0).mul2 (det_bt n (lessM_bt hb))).sgn
theorem det_terms (n : Nat) (m : List (List Int)) : sumN (n + 1) (fun i => dterm n i m) = det (n + 1) (en m) := by
  rw [det]
  exact sumN_congr fun i hi => by unfold dterm; rw [lessM_det]

set_option maxRecDepth 100000 in
set_option maxHeartbeats 4000000 in
theorem rdet_any (E : Nat) (hE : dB E 4 ≤ 1000000) : ∀ n, n ≤ 4 → ∀ (v : Value) (m : List (List Int)) (w : World), Mx w v m → Shape n n m → (∀ i j, Bt (en m i j) E) →
    Calls Tryz.prog 75 #[v] w fun e w' => ∃ r, e = .returned r ∧ It w' r (det n (en m)) ∧ Below w.heap.size w w' := by
  intro n
  induction n with
  | zero =>
    intro _ v m w h hs hb
    have hm : m = [] := List.eq_nil_of_length_eq_zero hs.1
    subst hm
    obtain ⟨a, ca, rfl, -, -⟩ := h
    show Calls _ _ #[.slice a 0 ca] _ _
    have v0 := Vx.new0 (w := w) (T := 56) rfl
    go_enter Tryz.func75, Tryz.ntmps75
    go_wp2_with fail
    refine (rof_any 1 _ (by decide) (by decide)).mono ?_
    rintro e w1 ⟨r, rfl, hr, hb1⟩
    obtain ⟨s1, a1, n1, c1, rfl⟩ := hr.shape
    replace v0 := v0.up hb1
    have hbw := (below_new w (.cells #[.bool false, .slice none 0 0] 56)).trans (hb1.mono (by simp))
    obtain ⟨s3, a3, n3, c3, r0, r1, r2, r3, ir⟩ := v0.cells
    go_wp2_with fail
    refine ret_vx (B := w.heap.size) (z := 1) rfl rfl rfl (Vx.put v0.va hr) (fun v hv => ⟨v, rfl, hv, Bl.st hbw (Nat.le_refl _)⟩)
  | succ n ih =>
    intro hn v m w h hs hb
    have IH := Lib.hid (ih (by omega))
    clear ih
    obtain ⟨N, hN⟩ : ∃ N, N = n + 1 := ⟨_, rfl⟩
    have HN := Lib.hid hN
    obtain ⟨a, ca, rfl, hca, hra⟩ := h
    rw [← det_terms]
    rw [hs.1, ← hN]
    have hne : ((N : Int) == 0) = false := by rw [beq_eq_false_iff_ne]; omega
    have v0 := Vx.new0 (w := w) (T := 56) rfl
    have hs0 := hs
    rw [← hN] at hs
    have hN4 : N ≤ 4 := by omega
    clear hN
    go_enter Tryz.func75, Tryz.ntmps75
    go_wp2_with fail
    refine (rof_any 1 _ (by decide) (by decide)).mono ?_
    rintro e w1 ⟨r, rfl, hr, hb1⟩
    obtain ⟨s1, a1, n1, c1, rfl⟩ := hr.shape
    replace v0 := v0.up hb1
    have hB1 := v0.lt
    have hbw := (below_new w (.cells #[.bool false, .slice none 0 0] 56)).trans (hb1.mono (by simp))
    clear hb1
    go_upto_region 4 with fail
    obtain ⟨W2, hW2⟩ : ∃ W2, W2 = (w1.alloc (.cells #[.bool false, .slice none 0 0] 56)).alloc (.cells #[.bool s1, .slice a1 n1 c1] 56) := ⟨_, rfl⟩
    have o0 : Vx W2 w1.heap.size (sumN 0 fun j => dterm n j m) := by rw [hW2]; exact (Vx.new0 rfl).alloc _
    have g0 : Vx W2 (w1.heap.size + 1) (sgn 0) := by rw [hW2]; exact Vx.new (by simp) (hr.alloc _)
    replace v0 : Vx W2 w.heap.size 0 := by rw [hW2]; exact (v0.alloc _).alloc _
    have hB := hbw.size
    replace hbw : Below w.heap.size w W2 := by rw [hW2]; exact Bl.alloc (Bl.alloc hbw _) _
    rw [← hW2]
    clear hW2 hr
    generalize w1.heap.size = B at *
    go_wp2_with fail
    go_loopw [5, 6, 7] (fun s5 s6 s7 wq => ∃ i, i ≤ N ∧ s5 = .int .i64 i ∧ Vx wq B (sumN i fun j => dterm n j m) ∧ Vx wq (B + 1) (sgn i) ∧ Vx wq w.heap.size 0 ∧ Below w.heap.size w wq)
      (fun s5 _ _ _ => N - (intOf s5).toNat)
    case atStart => exact ⟨0, Nat.zero_le _, rfl, o0, g0, v0, hbw⟩
    case round =>
      clear o0 g0 v0 hbw
      obtain ⟨i, hi, rfl, vo, vg, vr, hbl⟩ := hrel
      have i0 : (0 : Int) ≤ (i : Int) := by omega
      by_cases hlt : i < N
      · have i1 : (i : Int) < (N : Int) := by omega
        have hMx : Mx wr (.slice a N ca) m := ⟨a, ca, by rw [hs.1], hca, hra.up hbl⟩
        obtain ⟨ba, offa, ar, k1, rfl, hba, p0, hk1, hrow⟩ := hMx.row hs hlt
        obtain ⟨bb, offb, s, c, nn, q, rfl, hbb, q0, q1, q2⟩ := hrow.get0 (by omega)
        have hbx := hb i 0
        have hterm : (sumN (i + 1) fun j => dterm n j m) = (sumN i fun j => dterm n j m) + dterm n i m := rfl
        have hdt : dterm n i m = sgn i * (en m i 0 * det n (en (lessM m i n))) := rfl
        rw [hdt] at hterm
        have HT := Lib.hid hterm
        clear hterm hdt
        change It wr _ (en m i 0) at q2
        generalize en m i 0 = x at *
        by_cases hx : x = 0
        · have hnz : (cmpI x 0 != 0) = false := by rw [nz_cmp, hx]; rfl
          go_wp2_with fail
          refine (rsign_any _ x _ q2).mono ?_
          rintro e w2 ⟨rfl, hb2⟩
          replace vo := vo.up hb2
          replace vg := vg.up hb2
          replace vr := vr.up hb2
          replace hbl := Bl.up hbl hb2
          clear hb2 p0 q0 q1 q2
          obtain ⟨s2, a2, n2, c2, y0, y1, y2, y3, ig⟩ := vg.cells
          go_wp2_with fail
          refine (rneg_any _ (sgn i) _ ig (Nat.le_trans (sz_sgn i) (by decide))).mono ?_
          rintro e w3 ⟨v3, rfl, hv3, hb3⟩
          obtain ⟨s3, a3, n3, c3, rfl⟩ := hv3.shape
          replace vo := vo.up hb3
          replace vg := vg.up hb3
          replace vr := vr.up hb3
          replace hbl := Bl.up hbl hb3
          clear hb3 y0 y1 y2 y3 ig
          obtain ⟨s2, a2, n2, c2, y0, y1, y2, y3, ig⟩ := vg.cells
          go_wp2_with fail
          go_roundw
          case rel =>
            refine ⟨i + 1, by omega, by go_num, ?_, ?_, ?_, Bl.st hbl (by omega)⟩
            · rw [HT.out, hx, Int.zero_mul, Int.mul_zero, Int.add_zero]; exact vo.other vg.va (by omega)
            · rw [sgn_succ]; exact Vx.put vg.va hv3
            · exact vr.other vg.va (by omega)
          case measure => simp [intOf]; omega
        · have hnz : (cmpI x 0 != 0) = true := by rw [nz_cmp]; unfold nz; simpa using hx
          go_wp2_with fail
          refine (rsign_any _ x _ q2).mono ?_
          rintro e w2 ⟨rfl, hb2⟩
          replace vo := vo.up hb2
          replace vg := vg.up hb2
          replace vr := vr.up hb2
          replace hbl := Bl.up hbl hb2
          replace p0 := keepc hb2 p0
          replace q0 := keepc hb2 q0
          replace q1 := keepc hb2 q1
          replace q2 := q2.up hb2
          replace hMx := hMx.up hb2
          clear hb2 hba hbb hrow
          go_wp2_with fail
          obtain ⟨wo, hwo⟩ : ∃ wo, wo = w2 := ⟨_, rfl⟩
          rw [← hwo] at vo vg vr hbl p0 q0 q1 q2 hMx ⊢
          clear hwo
          go_loopw [6, 7] (fun s6 s7 wq => ∃ (k : Nat) (u : Value) (o : List (List Int)), k ≤ N ∧ s7 = .int .i64 k ∧ s6 = u ∧ o = (lessM m i n).take (cnt i k) ∧ Am2 wq wo.heap.size u o ∧ Below wo.heap.size wo wq)
            (fun _ s7 _ => N - (intOf s7).toNat)
          case atStart => exact ⟨0, _, [], Nat.zero_le _, rfl, rfl, by simp [cnt], Am2.lit0 _ (Nat.le_refl _), below_new _ _⟩
          case round =>
            obtain ⟨k, u, o, hk, rfl, rfl, ho, hAm, hbo⟩ := hrel
            have HO := Lib.hid ho
            have hol : o.length ≤ 1099511627776 := by rw [ho, List.length_take]; simp only [lessM, List.length_map, List.length_range]; omega
            clear ho
            have j0 : (0 : Int) ≤ (k : Int) := by omega
            by_cases hkN : k < N
            · have j1 : (k : Int) < (N : Int) := by omega
              by_cases hki : k = i
              · have hne2 : ((k : Int) != (i : Int)) = false := by rw [hki]; simp
                go_wp2_with fail
                go_roundw
                case rel => exact ⟨k + 1, _, o, by omega, by go_num, rfl, by rw [HO.out, hki, lessM_skip], hAm, hbo⟩
                case measure => simp [intOf]; omega
              · have hne2 : ((k : Int) != (i : Int)) = true := by rw [bne_iff_ne]; omega
                obtain ⟨ba2, offa2, ar, k2, e0, hba2, p2, hk2, hrw⟩ := (hMx.up hbo).row hs hkN
                injection e0 with e0
                injection e0 with e1 e2
                subst e1 e2
                obtain ⟨bb2, offb2, -, -, -, -, rfl, -⟩ := hrw.get0 (by omega)
                have htk := lessM_take m (i := i) (n := n) (k := k) (by have := HN.out; omega) (by have := HN.out; omega) hki
                have HTK := Lib.hid htk
                clear htk
                have hN2 : 2 ≤ N := by omega
                have hsuf := hrw.suf2 (n := 1) (by omega)
                have hlen : ((m.getD k []).drop 1).length = N - 1 := by rw [List.length_drop, hs.2 k hkN]
                generalize (m.getD k []).drop 1 = rr at *
                have l0 : (1 : Int) ≤ (N : Int) := by omega
                have l1 : (1 : Int) ≤ (k2 : Int) := by omega
                have l2 : ¬ (k2 : Int) < 1 := by omega
                have l3 : (N : Int) ≤ (k2 : Int) := by omega
                have l4 : ¬ k2 = 1 := by omega
                have l5 : 1 < k2 := by omega
                replace hsuf : Rw wr (.slice (some ⟨bb2, offb2 + 2, none⟩) (N - 1) (k2 - 1)) rr := hsuf
                go_wp2_with (at_builtin; go_must (refine wpl_apR rfl (.tmp 38) (.tmp 44) _ rfl Tryz.underlying27 wo.heap.size _ o rfl (hAm.alloc _) (by have := hbo.size; simp; omega) wr.heap.size _ _ _ _ (N - 1) _ rr hlen rfl (heap_alloc_new _ _) (hsuf.up (below_new _ _)) hol ?_); intro g cap w4 hAm4 hb4)
                go_roundw
                case rel => exact ⟨k + 1, _, _, by omega, by go_num, rfl, by rw [HTK.out, ← HO.out], hAm4, (Bl.alloc hbo _).trans hb4⟩
                case measure => simp [intOf]; omega
            · have hkN' : k = N := by omega
              have j1 : ¬ (k : Int) < (N : Int) := by omega
              have hoe : o = lessM m i n := by
                rw [HO.out, hkN', HN.out]
                refine List.take_of_length_le ?_
                simp only [lessM, List.length_map, List.length_range, cnt]
                have := HN.out
                split <;> omega
              subst hoe
              have hML := hAm.1.mx (Below.refl _ _)
              clear hAm HO hol hkN'
              replace vo := vo.up hbo
              replace vg := vg.up hbo
              replace vr := vr.up hbo
              replace hbl := Bl.up hbl hbo
              replace p0 := keepc hbo p0
              replace q0 := keepc hbo q0
              replace q1 := keepc hbo q1
              replace q2 := q2.up hbo
              clear hMx hbo
              have C1 := Lib.hid fun W (hW : Below wr.heap.size wr W) => IH.out _ (lessM m i n) W (hML.up hW) (lessM_shape hs0) (lessM_bt hb)
              obtain ⟨s5, a5, n5, c5, z0, z1, z2, z3, iz⟩ := vo.cells
              obtain ⟨s2, a2, n2, c2, y0, y1, y2, y3, iy⟩ := vg.cells
              have hbd := det_bt n (lessM_bt (n := n) (i := i) hb)
              have hsm : sz (sumN i fun j => dterm n j m) ≤ 2199023255552 := sz_bits ((Bt.sum fun j _ => dterm_bt hb j).mono (show _ ≤ dB E 4 from Nat.le_trans (show _ ≤ E + dB E n + (n + 1) by have := HN.out; omega) (dB_mono (n := n + 1) hn))) (by omega)
              have hsd : sz (det n (en (lessM m i n))) ≤ 1099511627776 := sz_bits (hbd.mono (dB_mono (by omega : n ≤ 4))) (by omega)
              have hdE : E ≤ dB E 4 := by show E ≤ E + dB E 3 + 4; omega
              have hsx : sz x ≤ 1099511627776 := sz_bits (hbx.mono hdE) (by omega)
              have hxd := hbx.mul2 hbd
              have hsp : sz (x * det n (en (lessM m i n))) ≤ 1099511627776 := sz_bits (hxd.mono (show _ ≤ dB E 4 from Nat.le_trans (show _ ≤ E + dB E n + (n + 1) by omega) (dB_mono (n := n + 1) hn))) (by omega)
              have hst : sz (sgn i * (x * det n (en (lessM m i n)))) ≤ 2199023255552 := sz_bits (hxd.sgn.mono (show _ ≤ dB E 4 from Nat.le_trans (show _ ≤ E + dB E n + (n + 1) by omega) (dB_mono (n := n + 1) hn))) (by omega)
              have hsg := sz_sgn i
              clear hbd hxd hdE
              generalize det n (en (lessM m i n)) = D at *
              generalize hS : (sumN i fun j => dterm n j m) = S at *
              generalize hG : sgn i = G at *
              have hB2 := vg.lt
              go_upto_region 14 with fail
              have h0N : (0 : Int) < (N : Int) := by omega
              have h0N' : 0 < N := by omega
              refine wp_region_T (by kernel_rfl) [13] (S := fun w' => w'.cell? ⟨ba, offa + i, none⟩ = some (.slice (some ⟨bb, offb, none⟩) N k1) ∧ w'.cell? ⟨bb, offb, none⟩ = some (.bool s) ∧ w'.cell? ⟨bb, offb + 1, none⟩ = some (.slice c nn q) ∧ w'.cell? ⟨B, 0, none⟩ = some (.bool s5) ∧ w'.cell? ⟨B, 1, none⟩ = some (.slice a5 n5 c5) ∧ w'.cell? ⟨B + 1, 0, none⟩ = some (.bool s2) ∧ w'.cell? ⟨B + 1, 1, none⟩ = some (.slice a2 n2 c2)) ⟨p0, q0, q1, z0, z1, y0, y1⟩ (fun hHeld => ?_)
              (refine tK 0 rfl ?_; (try simp only [lay, List.getElem_toArray, List.getElem_cons_succ, List.getElem_cons_zero]))
              (refine tK 1 rfl ?_; (try simp only [lay, List.getElem_toArray, List.getElem_cons_succ, List.getElem_cons_zero]))
              (refine tP 2 rfl ?_; (try simp only [lay, List.getElem_toArray, List.getElem_cons_succ, List.getElem_cons_zero]))
              (refine tP 3 rfl ?_; (try simp only [lay, List.getElem_toArray, List.getElem_cons_succ, List.getElem_cons_zero]))
              (refine tP 4 rfl ?_; (try simp only [lay, List.getElem_toArray, List.getElem_cons_succ, List.getElem_cons_zero]))
              (refine tK 5 rfl ?_; (try simp only [lay, List.getElem_toArray, List.getElem_cons_succ, List.getElem_cons_zero]))
              (refine tP 6 rfl ?_; (try simp only [lay, List.getElem_toArray, List.getElem_cons_succ, List.getElem_cons_zero]))
              (refine tK 7 rfl ?_; (try simp only [lay, List.getElem_toArray, List.getElem_cons_succ, List.getElem_cons_zero]))
              (refine tP 8 rfl ?_; (try simp only [lay, List.getElem_toArray, List.getElem_cons_succ, List.getElem_cons_zero]))
              (refine wpAnyT_one (i := 9) (by as_aux_lemma => kernel_rfl) rfl (fun K hK => ?_); (try simp only [lay, List.getElem_toArray, List.getElem_cons_succ, List.getElem_cons_zero]); go_simp)
              refine (C1.out _ (Bl.drew (Below.refl _ _))).mono ?_
              rintro e w5 ⟨r5, rfl, hv5, hb5⟩
              obtain ⟨s6, a6, n6, c6, rfl⟩ := hv5.shape
              replace p0 := keepc hb5 (cellD p0)
              replace q0 := keepc hb5 (cellD q0)
              replace q1 := keepc hb5 (cellD q1)
              replace z0 := keepc hb5 (cellD z0)
              replace z1 := keepc hb5 (cellD z1)
              replace y0 := keepc hb5 (cellD y0)
              replace y1 := keepc hb5 (cellD y1)
              replace vo := vo.drew.up hb5
              replace vg := vg.drew.up hb5
              replace vr := vr.drew.up hb5
              replace hbl := Bl.up (Bl.drew hbl) hb5
              replace q2 := q2.drew.up hb5; replace iz := iz.drew.up hb5; replace iy := iy.drew.up hb5
              go_wp2_with fail
              refine hK.out _ _ (fun _ => ⟨p0, q0, q1, z0, z1, y0, y1⟩) ?_
              have hHeld5 : w5.cell? ⟨ba, offa + i, none⟩ = some (.slice (some ⟨bb, offb, none⟩) N k1) ∧ w5.cell? ⟨bb, offb, none⟩ = some (.bool s) ∧ w5.cell? ⟨bb, offb + 1, none⟩ = some (.slice c nn q) ∧ w5.cell? ⟨B, 0, none⟩ = some (.bool s5) ∧ w5.cell? ⟨B, 1, none⟩ = some (.slice a5 n5 c5) ∧ w5.cell? ⟨B + 1, 0, none⟩ = some (.bool s2) ∧ w5.cell? ⟨B + 1, 1, none⟩ = some (.slice a2 n2 c2) := ⟨p0, q0, q1, z0, z1, y0, y1⟩
              clear hK; (try clear hHeld)
              (try simp only [lay, List.getElem_toArray, List.getElem_cons_succ, List.getElem_cons_zero])
              (refine wpAnyT_one (i := 10) (by as_aux_lemma => kernel_rfl) rfl (fun K hK => ?_); (try simp only [lay, List.getElem_toArray, List.getElem_cons_succ, List.getElem_cons_zero]); go_simp)
              refine (rmul_any _ _ x D _ q2 hv5 hsx hsd).mono ?_
              rintro e w6 ⟨r6, rfl, hv6, hb6⟩
              obtain ⟨s7, a7, n7, c7, rfl⟩ := hv6.shape
              replace p0 := keepc hb6 p0
              replace q0 := keepc hb6 q0
              replace q1 := keepc hb6 q1
              replace z0 := keepc hb6 z0
              replace z1 := keepc hb6 z1
              replace y0 := keepc hb6 y0
              replace y1 := keepc hb6 y1
              replace vo := vo.up hb6
              replace vg := vg.up hb6
              replace vr := vr.up hb6
              replace hbl := Bl.up hbl hb6
              replace q2 := q2.up hb6; replace iz := iz.up hb6; replace iy := iy.up hb6
              go_wp2_with fail
              refine hK.out _ _ (fun _ => ⟨p0, q0, q1, z0, z1, y0, y1⟩) ?_
              have hHeld6 : w6.cell? ⟨ba, offa + i, none⟩ = some (.slice (some ⟨bb, offb, none⟩) N k1) ∧ w6.cell? ⟨bb, offb, none⟩ = some (.bool s) ∧ w6.cell? ⟨bb, offb + 1, none⟩ = some (.slice c nn q) ∧ w6.cell? ⟨B, 0, none⟩ = some (.bool s5) ∧ w6.cell? ⟨B, 1, none⟩ = some (.slice a5 n5 c5) ∧ w6.cell? ⟨B + 1, 0, none⟩ = some (.bool s2) ∧ w6.cell? ⟨B + 1, 1, none⟩ = some (.slice a2 n2 c2) := ⟨p0, q0, q1, z0, z1, y0, y1⟩
              clear hK; (try clear hHeld); (try clear hHeld5)
              (try simp only [lay, List.getElem_toArray, List.getElem_cons_succ, List.getElem_cons_zero])
              (refine wpAnyT_one (i := 11) (by as_aux_lemma => kernel_rfl) rfl (fun K hK => ?_); (try simp only [lay, List.getElem_toArray, List.getElem_cons_succ, List.getElem_cons_zero]); go_simp)
              refine (rmul_any _ _ G (x * D) _ iy hv6 hsg hsp).mono ?_
              rintro e w7 ⟨r7, rfl, hv7, hb7⟩
              obtain ⟨s8, a8, n8, c8, rfl⟩ := hv7.shape
              replace p0 := keepc hb7 p0
              replace q0 := keepc hb7 q0
              replace q1 := keepc hb7 q1
              replace z0 := keepc hb7 z0
              replace z1 := keepc hb7 z1
              replace y0 := keepc hb7 y0
              replace y1 := keepc hb7 y1
              replace vo := vo.up hb7
              replace vg := vg.up hb7
              replace vr := vr.up hb7
              replace hbl := Bl.up hbl hb7
              replace q2 := q2.up hb7; replace iz := iz.up hb7; replace iy := iy.up hb7
              go_wp2_with fail
              refine hK.out _ _ (fun _ => ⟨p0, q0, q1, z0, z1, y0, y1⟩) ?_
              have hHeld7 : w7.cell? ⟨ba, offa + i, none⟩ = some (.slice (some ⟨bb, offb, none⟩) N k1) ∧ w7.cell? ⟨bb, offb, none⟩ = some (.bool s) ∧ w7.cell? ⟨bb, offb + 1, none⟩ = some (.slice c nn q) ∧ w7.cell? ⟨B, 0, none⟩ = some (.bool s5) ∧ w7.cell? ⟨B, 1, none⟩ = some (.slice a5 n5 c5) ∧ w7.cell? ⟨B + 1, 0, none⟩ = some (.bool s2) ∧ w7.cell? ⟨B + 1, 1, none⟩ = some (.slice a2 n2 c2) := ⟨p0, q0, q1, z0, z1, y0, y1⟩
              clear hK; (try clear hHeld); (try clear hHeld6)
              (try simp only [lay, List.getElem_toArray, List.getElem_cons_succ, List.getElem_cons_zero])
              (refine wpAnyT_one (i := 12) (by as_aux_lemma => kernel_rfl) rfl (fun K hK => ?_); (try simp only [lay, List.getElem_toArray, List.getElem_cons_succ, List.getElem_cons_zero]); go_simp)
              refine (radd_any _ _ S (G * (x * D)) _ iz hv7 hsm hst).mono ?_
              rintro e w8 ⟨r8, rfl, hv8, hb8⟩
              obtain ⟨s9, a9, n9, c9, rfl⟩ := hv8.shape
              replace p0 := keepc hb8 p0
              replace q0 := keepc hb8 q0
              replace q1 := keepc hb8 q1
              replace z0 := keepc hb8 z0
              replace z1 := keepc hb8 z1
              replace y0 := keepc hb8 y0
              replace y1 := keepc hb8 y1
              replace vo := vo.up hb8
              replace vg := vg.up hb8
              replace vr := vr.up hb8
              replace hbl := Bl.up hbl hb8
              obtain ⟨f2, f3⟩ := vo.va.free
              go_wp2_with fail
              refine hK.out _ _ (fun _ => ⟨p0, q0, q1, z0, z1, y0, y1⟩) ?_
              have hHeld8 : w8.cell? ⟨ba, offa + i, none⟩ = some (.slice (some ⟨bb, offb, none⟩) N k1) ∧ w8.cell? ⟨bb, offb, none⟩ = some (.bool s) ∧ w8.cell? ⟨bb, offb + 1, none⟩ = some (.slice c nn q) ∧ w8.cell? ⟨B, 0, none⟩ = some (.bool s5) ∧ w8.cell? ⟨B, 1, none⟩ = some (.slice a5 n5 c5) ∧ w8.cell? ⟨B + 1, 0, none⟩ = some (.bool s2) ∧ w8.cell? ⟨B + 1, 1, none⟩ = some (.slice a2 n2 c2) := ⟨p0, q0, q1, z0, z1, y0, y1⟩
              clear hK; (try clear hHeld); (try clear hHeld7)
              (try simp only [lay, List.getElem_toArray, List.getElem_cons_succ, List.getElem_cons_zero])
              (refine wpAnyT_one (i := 13) (by as_aux_lemma => kernel_rfl) rfl (fun K hK => ?_); (try simp only [lay, List.getElem_toArray, List.getElem_cons_succ, List.getElem_cons_zero]); go_simp)
              go_wp2_with fail
              refine hK.out _ _ (fun h => absurd h (by decide)) ?_
              clear hK hHeld8
              (try simp only [lay, List.getElem_toArray, List.getElem_cons_succ, List.getElem_cons_zero])
              refine wpAnyT_done (by kernel_rfl) ?_ _
              have vo' := Vx.put vo.va hv8
              have vg' := vg.other vo.va (s := s9) (a := a9) (n := n9) (c := c9) (by omega)
              have vr' := vr.other vo.va (s := s9) (a := a9) (n := n9) (c := c9) (by omega)
              have hbl' := Bl.st hbl (s := s9) (a := a9) (n := n9) (c := c9) (show w.heap.size ≤ B by omega)
              clear vo vg vr hbl z0 z1 z2 z3 iz y0 y1 y2 y3 iy p0 q0 q1 q2 C1 hML f2 f3 hv5 hv6 hv7 hv8 hb5 hb6 hb7 hb8
              generalize (w8.setCell ⟨B, 0, none⟩ (.bool s9)).setCell ⟨B, 1, none⟩ (.slice a9 n9 c9) = wd at *
              obtain ⟨s2, a2, n2, c2, y0, y1, y2, y3, ig⟩ := vg'.cells
              go_wp2_with fail
              refine (rneg_any _ G _ ig (Nat.le_trans hsg (by decide))).mono ?_
              rintro e w3 ⟨v3, rfl, hv3, hb3⟩
              obtain ⟨s3, a3, n3, c3, rfl⟩ := hv3.shape
              replace vo' := vo'.up hb3
              replace vg' := vg'.up hb3
              replace vr' := vr'.up hb3
              replace hbl' := Bl.up hbl' hb3
              clear hb3 y0 y1 y2 y3 ig
              obtain ⟨s2, a2, n2, c2, y0, y1, y2, y3, ig⟩ := vg'.cells
              go_wp2_with fail
              go_roundw
              case rel =>
                refine ⟨i + 1, by omega, by go_num, ?_, ?_, ?_, Bl.st hbl' (by omega)⟩
                · rw [HT.out]; exact vo'.other vg'.va (by omega)
                · rw [sgn_succ, hG]; exact Vx.put vg'.va hv3
                · exact vr'.other vg'.va (by omega)
              case measure => simp [intOf]; omega
      · have i1 : ¬ (i : Int) < (N : Int) := by omega
        have hiN : i = N := by omega
        obtain ⟨s2, a2, n2, c2, y0, y1, y2, y3, ig⟩ := vo.cells
        obtain ⟨s5, a5, n5, c5, z0, z1, z2, z3, ir⟩ := vr.cells
        rw [hiN] at ig
        go_wp2_with fail
        refine ret_vx (B := w.heap.size) (z := sumN N fun j => dterm n j m) rfl rfl rfl (Vx.put vr.va ig) (fun v hv => ⟨v, rfl, hv, Bl.st hbl (Nat.le_refl _)⟩)
end Go.Proofs.YtdbpkoddfcdhdaaGreat
