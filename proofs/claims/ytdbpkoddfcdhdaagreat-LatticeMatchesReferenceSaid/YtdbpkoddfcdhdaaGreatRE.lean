/-
  What the reference's echelon form asks of an invariant; one for small matrices. No program.
  The invariant of the reference's echelon form for small matrices. No program.
  The plan of the reference's echelon form. No program.
-/
import Derived.Test.YtdbpkoddfcdhdaaGreatPU
import Derived.Test.YtdbpkoddfcdhdaaGreatPS
import Derived.Test.YtdbpkoddfcdhdaaGreatPL
import Derived.Test.YtdbpkoddfcdhdaaGreatPV
set_option linter.unusedSimpArgs false
set_option linter.unusedVariables false

namespace Go.Proofs.YtdbpkoddfcdhdaaGreat

structure EPlan (R N : Nat) (P1 : Nat → Nat → List (List Int) → Prop) (L : Nat → Nat → Nat → List (List Int) → Prop) (S : Nat → Nat → Nat → Nat → List (List Int) → Prop) (P3 : Nat → Nat → Nat → List (List Int) → Prop) : Prop where
  s1 : ∀ {row col m}, P1 row col m → Shape R N m ∧ SmallM m
  sL : ∀ {row col t m}, L row col t m → Shape R N m ∧ SmallM m
  sS : ∀ {row col t i m}, S row col t i m → Shape R N m ∧ SmallM m ∧ en m row col ≠ 0
  s3 : ∀ {row col i m}, P3 row col i m → Shape R N m ∧ SmallM m ∧ en m row col ≠ 0
  start : ∀ {row col m}, P1 row col m → col < N → row < R → ∃ t, L row col t m
  none : ∀ {row col t m}, L row col t m → (∀ i, row ≤ i → i < R → en m i col = 0) → P1 row (col + 1) m
  swap : ∀ {row col t m b}, L row col t m → row < R → row ≤ b → b < R → en m b col ≠ 0 → (∀ j, row ≤ j → j < R → en m j col ≠ 0 → (en m b col).natAbs ≤ (en m j col).natAbs) → S row col t (row + 1) (swapM m row b)
  step : ∀ {row col t i m}, S row col t i m → row < i → i < R → S row col t (i + 1) (m.set i (plusR (m.getD i []) (-(en m i col / en m row col)) (m.getD row [])))
  again : ∀ {row col t m}, S row col t R m → (∃ j, row < j ∧ j < R ∧ en m j col ≠ 0) → ∃ t', t' < t ∧ L row col t' m
  pos : ∀ {row col t m}, S row col t R m → (∀ j, row < j → j < R → en m j col = 0) → 0 < en m row col → P3 row col 0 m
  neg : ∀ {row col t m}, S row col t R m → (∀ j, row < j → j < R → en m j col = 0) → en m row col < 0 → P3 row col 0 (m.set row (timesR (-1) (m.getD row [])))
  red : ∀ {row col i m}, P3 row col i m → row < R → i < row → P3 row col (i + 1) (m.set i (plusR (m.getD i []) (-(en m i col / en m row col)) (m.getD row [])))
  next : ∀ {row col m}, P3 row col row m → P1 (row + 1) (col + 1) m

theorem plus_less (a : List Int) (q : Int) (b : List Int) : plusR a (-q) b = lessR a q b := by
  unfold plusR lessR
  refine List.map_congr_left fun k _ => ?_
  rw [Int.neg_mul]; omega

/-- Bits when r rows are done. -/
def gB (R E : Nat) : Nat → Nat
  | 0 => E
  | r + 1 => if r + 1 = R then 2 * gB R E r else (2 * gB R E r + 6) * gB R E r
/-- Bits of the rows that are swept in the step r. -/
def cB (R E r : Nat) : Nat := if r + 1 = R then gB R E r else (2 * gB R E r + 5) * gB R E r
theorem gB_pos {R E : Nat} (hE : 0 < E) : ∀ r, 0 < gB R E r
  | 0 => hE
  | r + 1 => by
    have := gB_pos (R := R) hE r
    unfold gB
    split
    · omega
    · exact Nat.mul_pos (by omega) this
theorem gB_succ (R E r : Nat) : gB R E (r + 1) = cB R E r + gB R E r := by
  unfold cB
  simp only [gB]
  split
  · omega
  · rw [← Nat.succ_mul]
theorem cB_le (R E r : Nat) : gB R E r ≤ cB R E r := by
  unfold cB
  split
  · exact Nat.le_refl _
  · exact Nat.le_mul_of_pos_left _ (by omega)
theorem gB_up (R E r : Nat) : gB R E r ≤ gB R E (r + 1) := by rw [gB_succ]; omega

theorem Bt.less2 {a b q : Int} {C B : Nat} (ha : Bt a C) (hb : Bt b C) (hq : 2 * q.natAbs < 2 ^ B) (hB : 0 < B) : Bt (a - q * b) (C + B) := by
  unfold Bt at *
  have h1 := quarter (a := q.natAbs) (b := b.natAbs) hq (Nat.le_of_lt hb)
  have h2 : (q * b).natAbs = q.natAbs * b.natAbs := Int.natAbs_mul _ _
  have h3 : (a - q * b).natAbs ≤ a.natAbs + (q * b).natAbs := by omega
  have h4 : 2 ^ (C + 1) ≤ 2 ^ (C + B) := Nat.pow_le_pow_right (by omega) (by omega)
  rw [Nat.pow_succ] at h4
  rw [Nat.add_comm B C] at h1
  omega
theorem Bt.less3 {a b q : Int} {C B : Nat} (ha : Bt a B) (hb : Bt b C) (hq : 2 * q.natAbs < 2 ^ B) (hC : 0 < C) : Bt (a - q * b) (C + B) := by
  unfold Bt at *
  have h1 := quarter (a := q.natAbs) (b := b.natAbs) hq (Nat.le_of_lt hb)
  have h2 : (q * b).natAbs = q.natAbs * b.natAbs := Int.natAbs_mul _ _
  have h3 : (a - q * b).natAbs ≤ a.natAbs + (q * b).natAbs := by omega
  have h4 : 2 ^ (B + 1) ≤ 2 ^ (B + C) := Nat.pow_le_pow_right (by omega) (by omega)
  rw [Nat.pow_succ] at h4
  rw [Nat.add_comm C B]
  omega

/-- What holds in a step, whatever is done. -/
structure EC (R N : Nat) (m0 : List (List Int)) (E row col : Nat) (m : List (List Int)) : Prop where
  r : row < R
  c : col < N
  sh : Shape R N m
  sl : SameL R N (en m) (en m0)
  ec : ∃ piv, Ech R row col (en m) piv
  bu : ∀ j k, j < row → Bt (en m j k) (gB R E row)

structure E1 (R N : Nat) (m0 : List (List Int)) (E row col : Nat) (m : List (List Int)) : Prop where
  r : row ≤ R
  c : col ≤ N
  sh : Shape R N m
  sl : SameL R N (en m) (en m0)
  ec : ∃ piv, Ech R row col (en m) piv
  bt : ∀ j k, Bt (en m j k) (gB R E row)

/-- Before a sweep: h sweeps are done. -/
structure EL (R N : Nat) (m0 : List (List Int)) (E row col t : Nat) (m : List (List Int)) : Prop where
  C : EC R N m0 E row col m
  ex : ∃ h, (∀ j k, row ≤ j → Bt (en m j k) ((h + 1) * gB R E row)) ∧ (∀ j, row ≤ j → j < R → 2 * (en m j col).natAbs < 2 ^ gB R E row) ∧
    ((h = 0 ∧ t = 2 ^ gB R E row) ∨
     (0 < h ∧ t = (en m row col).natAbs ∧ en m row col ≠ 0 ∧ (∀ j, row < j → j < R → 0 ≤ en m j col ∧ en m j col < (en m row col).natAbs) ∧ (∃ j, row < j ∧ j < R ∧ en m j col ≠ 0) ∧
      (2 ≤ h → 0 < en m row col ∧ ∃ j, row < j ∧ j < R ∧ 0 < en m j col ∧ 2 ^ (h - 2) * ((en m row col).natAbs * (en m j col).natAbs) < 2 ^ (2 * gB R E row))))

/-- In a sweep: the rows up to i are swept. -/
structure ES (R N : Nat) (m0 : List (List Int)) (E row col t i : Nat) (m : List (List Int)) : Prop where
  C : EC R N m0 E row col m
  i1 : row < i
  i2 : i ≤ R
  p : en m row col ≠ 0
  pt : (en m row col).natAbs < t
  ex : ∃ h, h ≤ 2 * gB R E row + 3 ∧ (row + 1 = R → h = 0) ∧ (∀ j k, j = row ∨ i ≤ j → Bt (en m j k) ((h + 1) * gB R E row)) ∧ (∀ j k, row < j → j < i → Bt (en m j k) ((h + 2) * gB R E row)) ∧
    (∀ j, row ≤ j → j < R → 2 * (en m j col).natAbs < 2 ^ gB R E row) ∧ (∀ j, row < j → j < i → 0 ≤ en m j col ∧ en m j col < (en m row col).natAbs) ∧ (0 < h → 0 < en m row col) ∧
    (2 ≤ h → ∃ b, ∃ Q : Int, row < b ∧ b < R ∧ en m row col < Q ∧ 2 ^ (h - 2) * (Q.natAbs * (en m row col).natAbs) < 2 ^ (2 * gB R E row) ∧ en m b col = if b < i then Q % en m row col else Q)

structure E3 (R N : Nat) (m0 : List (List Int)) (E row col i : Nat) (m : List (List Int)) : Prop where
  r : row < R
  c : col < N
  i2 : i ≤ row
  sh : Shape R N m
  sl : SameL R N (en m) (en m0)
  ec : ∃ piv, Ech R row col (en m) piv
  p : 0 < en m row col
  z : ∀ j, row < j → j < R → en m j col = 0
  q : ∀ j, j < i → 0 ≤ en m j col ∧ en m j col < en m row col
  b1 : ∀ j k, i ≤ j → j < row → Bt (en m j k) (gB R E row)
  b2 : ∀ j k, row ≤ j → Bt (en m j k) (cB R E row)
  b3 : ∀ j k, j < i → Bt (en m j k) (gB R E (row + 1))

section
variable {R N : Nat} {m0 : List (List Int)} {E : Nat}

theorem out_bt {m : List (List Int)} (hs : Shape R N m) {j k B : Nat} (h : R ≤ j ∨ N ≤ k) : Bt (en m j k) B := by
  rcases h with h | h
  · unfold en
    rw [show m.getD j [] = [] by simp [List.getD_eq_getElem?_getD, List.getElem?_eq_none (show m.length ≤ j by rw [hs.1]; exact h)]]
    exact Bt.zero
  · rw [en_out hs h]; exact Bt.zero

/-- One row less a multiple of another one. -/
theorem en_less {m : List (List Int)} (hs : Shape R N m) {i row : Nat} (hi : i < R) (q : Int) (j k : Nat) :
    en (m.set i (lessR (m.getD i []) q (m.getD row []))) j k = if j = i then en m i k - q * en m row k else en m j k := by
  rw [en_set (by rw [hs.1]; exact hi)]
  split
  · rw [lessR, range_at, hs.2 i hi]
    split
    · rfl
    · rename_i hk
      have z1 : en m i k = 0 := en_out hs (by omega)
      by_cases hr : row < R
      · have z2 : en m row k = 0 := en_out hs (by omega)
        rw [z1, z2]; omega
      · have z2 : en m row k = 0 := by
          unfold en
          rw [show m.getD row [] = [] by simp [List.getD_eq_getElem?_getD, List.getElem?_eq_none (show m.length ≤ row by rw [hs.1]; omega)]]
          rfl
        rw [z1, z2]; omega
  · rfl
theorem sl_less {m : List (List Int)} (hs : Shape R N m) (sl : SameL R N (en m) (en m0)) {i row : Nat} (hi : i < R) (hr : row < R) (hne : row ≠ i) (q : Int) :
    SameL R N (en (m.set i (lessR (m.getD i []) q (m.getD row [])))) (en m0) := by
  have hen := en_less hs (row := row) hi q
  generalize m.set i (lessR (m.getD i []) q (m.getD row [])) = m' at *
  refine sl.step (fun j hj => ?_) (fun j hj => ?_)
  · by_cases e : j = i
    · subst e
      exact ((Lat.row hj).sub ((Lat.row hr).smul q)).congr fun k _ => by rw [hen, if_pos rfl]
    · exact (Lat.row hj).congr fun k _ => by rw [hen, if_neg e]
  · by_cases e : j = i
    · subst e
      exact ((Lat.row (m := en m') hj).add ((Lat.row hr).smul q)).congr fun k _ => by rw [hen, hen, if_pos rfl, if_neg hne]; omega
    · exact (Lat.row (m := en m') hj).congr fun k _ => by rw [hen, if_neg e]
end
end Go.Proofs.YtdbpkoddfcdhdaaGreat

namespace Go.Proofs.YtdbpkoddfcdhdaaGreat

section
variable {R N : Nat} {m0 : List (List Int)} {E : Nat}

theorem two_mod {Q p : Int} (hp : 0 < p) (hpQ : p < Q) : 2 * (Q % p) ≤ Q := by
  have h1 := Int.emod_nonneg Q (b := p) (by omega)
  have h2 := Int.emod_lt_of_pos Q hp
  have h3 := Int.mul_ediv_add_emod Q p
  have h4 : 1 ≤ Q / p := by
    rw [Int.le_ediv_iff_mul_le hp]; omega
  have h5 : p * 1 ≤ p * (Q / p) := Int.mul_le_mul_of_nonneg_left h4 (by omega)
  omega
theorem mod_zero_two {Q p : Int} (hp : 0 < p) (hpQ : p < Q) (h0 : Q % p = 0) : 2 * p ≤ Q := by
  have h3 := Int.mul_ediv_add_emod Q p
  have h4 : 2 ≤ Q / p := by
    have h5 : ¬ Q / p ≤ 1 := fun h => by
      have := Int.mul_le_mul_of_nonneg_left h (show 0 ≤ p by omega)
      omega
    omega
  have h5 : p * 2 ≤ p * (Q / p) := Int.mul_le_mul_of_nonneg_left h4 (by omega)
  omega

theorem EL.small {row col t : Nat} {m : List (List Int)} (hE0 : 0 < E) (h : EL R N m0 E row col t m) {k : Nat}
    (hk : (k = 0 ∧ t = 2 ^ gB R E row) ∨ (0 < k ∧ t = (en m row col).natAbs ∧ en m row col ≠ 0 ∧ (∀ j, row < j → j < R → 0 ≤ en m j col ∧ en m j col < (en m row col).natAbs) ∧ (∃ j, row < j ∧ j < R ∧ en m j col ≠ 0) ∧
      (2 ≤ k → 0 < en m row col ∧ ∃ j, row < j ∧ j < R ∧ 0 < en m j col ∧ 2 ^ (k - 2) * ((en m row col).natAbs * (en m j col).natAbs) < 2 ^ (2 * gB R E row)))) :
    k ≤ 2 * gB R E row + 1 ∧ (row + 1 = R → k = 0) := by
  rcases hk with ⟨h1, -⟩ | ⟨h1, -, h3, -, ⟨j, hj1, hj2, -⟩, h6⟩
  · exact ⟨by omega, fun _ => h1⟩
  · refine ⟨?_, fun e => by omega⟩
    rcases Nat.lt_or_ge k 2 with c | c
    · omega
    · obtain ⟨h7, j, -, -, h8, h9⟩ := h6 c
      have h10 : 1 ≤ (en m row col).natAbs * (en m j col).natAbs := Nat.mul_pos (by omega) (by omega)
      have h11 : 2 ^ (k - 2) < 2 ^ (2 * gB R E row) := Nat.lt_of_le_of_lt (Nat.le_mul_of_pos_right _ h10) h9
      have h12 := (Nat.pow_lt_pow_iff_right (by decide : 1 < 2)).1 h11
      omega

theorem cB_ge {row k : Nat} (hk : k ≤ 2 * gB R E row + 5) (h1 : row + 1 = R → k ≤ 1) : k * gB R E row ≤ cB R E row := by
  unfold cB
  split
  · rename_i e
    have := h1 e
    have := Nat.mul_le_mul_right (gB R E row) this
    omega
  · exact Nat.mul_le_mul_right _ hk

theorem ech_next {row col : Nat} {m : Nat → Nat → Int} {piv : Nat → Nat} (ec : Ech R row col m piv) (h0 : ∀ i, row ≤ i → i < R → m i col = 0) : Ech R row (col + 1) m piv :=
  ⟨fun i hi => by have := ec.lt i hi; omega, ec.mono, ec.pos, ec.zero, ec.red, fun i k h1 h2 h3 => by
    by_cases e : k = col
    · subst e; exact h0 i h1 h2
    · exact ec.rest i k h1 h2 (by omega)⟩
theorem ech_keep {row col : Nat} {m m' : Nat → Nat → Int} {piv : Nat → Nat} (ec : Ech R row col m piv) (h1 : ∀ i k, i < row → m' i k = m i k) (h2 : ∀ i k, row ≤ i → i < R → k < col → m' i k = 0) : Ech R row col m' piv :=
  ⟨ec.lt, ec.mono, fun j hj => by rw [h1 j _ hj]; exact ec.pos j hj, fun j k hj hk => by rw [h1 j k hj]; exact ec.zero j k hj hk, fun a b hab hb => by rw [h1 a _ (by omega), h1 b _ hb]; exact ec.red a b hab hb, h2⟩

theorem en_swapM {m : List (List Int)} (hs : Shape R N m) {r b : Nat} (hr : r < R) (hb : b < R) (i k : Nat) : en (swapM m r b) i k = if i = b then en m r k else if i = r then en m b k else en m i k := by
  unfold swapM
  rw [en_set (by rw [List.length_set, hs.1]; exact hb), en_set (by rw [hs.1]; exact hr)]
  rfl

theorem ES.step {row col t i : Nat} {m : List (List Int)} (hE0 : 0 < E) (h : ES R N m0 E row col t i m) (hi : i < R) :
    ES R N m0 E row col t (i + 1) (m.set i (lessR (m.getD i []) (en m i col / en m row col) (m.getD row []))) := by
  have hi1 := h.i1
  have hr := h.C.r
  have hc := h.C.c
  have hs := h.C.sh
  have hen := en_less hs (row := row) hi (en m i col / en m row col)
  have hsl := sl_less hs h.C.sl hi hr (by omega) (en m i col / en m row col)
  have hsh : Shape R N (m.set i (lessR (m.getD i []) (en m i col / en m row col) (m.getD row []))) := hs.set hi (by rw [lessR, List.length_map, List.length_range]; exact hs.2 i hi)
  generalize m.set i (lessR (m.getD i []) (en m i col / en m row col) (m.getD row [])) = m' at *
  have hrow : ∀ k, en m' row k = en m row k := fun k => by rw [hen, if_neg (by omega)]
  have hB := gB_pos (R := R) hE0 row
  obtain ⟨piv, ec⟩ := h.C.ec
  obtain ⟨k, h1, h2, h3, h4, h5, h6, h7, h8⟩ := h.ex
  have hmod : en m i col - en m i col / en m row col * en m row col = en m i col % en m row col := by
    rw [Int.emod_def, Int.mul_comm]
  have hm0 := Int.emod_nonneg (en m i col) h.p
  have hm1 := Int.emod_lt (en m i col) h.p
  refine ⟨⟨hr, hc, hsh, hsl, ⟨piv, ech_keep ec (fun a b ha => by rw [hen, if_neg (by omega)]) (fun a b ha ha' hb => ?_)⟩, fun j b hj => by rw [hen, if_neg (by omega)]; exact h.C.bu j b hj⟩, by omega, by omega, by rw [hrow]; exact h.p, by rw [hrow]; exact h.pt, k, h1, h2, fun j b hj => ?_, fun j b hj hj' => ?_, fun j hj hj' => ?_, fun j hj hj' => ?_, fun hk => by rw [hrow]; exact h7 hk, fun hk => ?_⟩
  · rw [hen]
    have z1 := ec.rest row b (Nat.le_refl _) hr hb
    split
    · rename_i e; rw [ec.rest i b (by omega) hi hb, z1]; omega
    · exact ec.rest a b ha ha' hb
  · rw [hen, if_neg (by omega)]; exact h3 j b (by omega)
  · rw [hen]
    split
    · rename_i e
      have hq : 2 * (en m i col / en m row col).natAbs < 2 ^ gB R E row := by
        have := Int.natAbs_ediv_le_natAbs (en m i col) (en m row col)
        have := h5 i (by omega) hi
        omega
      have := Bt.less2 (h3 i b (.inr (Nat.le_refl _))) (h3 row b (.inl rfl)) hq hB
      rw [show (k + 2) * gB R E row = (k + 1) * gB R E row + gB R E row by rw [show k + 2 = k + 1 + 1 by omega, Nat.succ_mul]]
      exact this
    · exact h4 j b hj (by omega)
  · rw [hen]
    split
    · rw [hmod]
      have := h5 row (Nat.le_refl _) hr
      omega
    · exact h5 j hj hj'
  · rw [hrow, hen]
    split
    · rw [hmod]; exact ⟨hm0, hm1⟩
    · exact h6 j hj (by omega)
  · obtain ⟨b, Q, g1, g2, g3, g4, g5⟩ := h8 hk
    refine ⟨b, Q, g1, g2, by rw [hrow]; exact g3, by rw [hrow]; exact g4, ?_⟩
    rw [hen, hrow]
    by_cases e : b = i
    · subst e
      rw [if_pos rfl, if_pos (by omega), hmod]
      rw [if_neg (by omega)] at g5
      rw [g5]
    · rw [if_neg e, g5]
      by_cases c : b < i
      · rw [if_pos c, if_pos (by omega)]
      · rw [if_neg c, if_neg (by omega)]

theorem ES.again {row col t : Nat} {m : List (List Int)} (hE0 : 0 < E) (h : ES R N m0 E row col t R m) (hj : ∃ j, row < j ∧ j < R ∧ en m j col ≠ 0) : ∃ t', t' < t ∧ EL R N m0 E row col t' m := by
  obtain ⟨k, h1, h2, h3, h4, h5, h6, h7, h8⟩ := h.ex
  have hs := h.C.sh
  have hB := gB_pos (R := R) hE0 row
  refine ⟨(en m row col).natAbs, h.pt, h.C, k + 1, fun j b hjr => ?_, h5, .inr ⟨Nat.succ_pos _, rfl, h.p, h6, hj, fun hk => ?_⟩⟩
  · rcases Nat.lt_or_ge j R with c | c
    · rcases Nat.eq_or_lt_of_le hjr with e | e
      · exact (h3 j b (.inl e.symm)).mono (Nat.mul_le_mul_right _ (by omega))
      · exact h4 j b e c
    · exact out_bt hs (.inl c)
  · have hp := h7 (by omega)
    refine ⟨hp, ?_⟩
    obtain ⟨j, hj1, hj2, hj3⟩ := hj
    have hj4 := h6 j hj1 hj2
    rcases Nat.lt_or_ge k 2 with c | c
    · refine ⟨j, hj1, hj2, by omega, ?_⟩
      obtain rfl : k = 1 := by omega
      have a1 := h5 row (Nat.le_refl _) h.C.r
      have a2 := h5 j (by omega) hj2
      have a3 : (en m row col).natAbs * (en m j col).natAbs < 2 ^ gB R E row * 2 ^ gB R E row := Nat.mul_lt_mul_of_lt_of_le (by omega) (by omega) (Nat.pow_pos (by decide))
      rw [← Nat.pow_add] at a3
      rw [show 2 * gB R E row = gB R E row + gB R E row by omega]
      simpa using a3
    · obtain ⟨b, Q, g1, g2, g3, g4, g5⟩ := h8 c
      rw [if_pos g2] at g5
      have e2 : 2 ^ (k + 1 - 2) = 2 ^ (k - 2) * 2 := by rw [← Nat.pow_succ]; congr 1; omega
      by_cases hz : Q % en m row col = 0
      · have hQ := mod_zero_two hp g3 hz
        refine ⟨j, hj1, hj2, by omega, Nat.lt_of_le_of_lt ?_ g4⟩
        rw [e2, Nat.mul_assoc]
        refine Nat.mul_le_mul_left _ ?_
        have a1 : 2 * (en m j col).natAbs ≤ Q.natAbs := by omega
        have a2 := Nat.mul_le_mul_right (en m row col).natAbs a1
        rw [Nat.mul_assoc, Nat.mul_comm (en m j col).natAbs] at a2
        exact a2
      · have hQ := two_mod hp g3
        have hn := Int.emod_nonneg Q h.p
        refine ⟨b, g1, g2, by rw [g5]; omega, Nat.lt_of_le_of_lt ?_ g4⟩
        rw [e2, Nat.mul_assoc, g5]
        refine Nat.mul_le_mul_left _ ?_
        have a1 : 2 * (Q % en m row col).natAbs ≤ Q.natAbs := by omega
        have a2 := Nat.mul_le_mul_right (en m row col).natAbs a1
        rw [Nat.mul_assoc, Nat.mul_comm (Q % en m row col).natAbs] at a2
        exact a2
end
end Go.Proofs.YtdbpkoddfcdhdaaGreat

namespace Go.Proofs.YtdbpkoddfcdhdaaGreat

section
variable {R N : Nat} {m0 : List (List Int)} {E : Nat}

theorem EL.swap {row col t b : Nat} {m : List (List Int)} (hE0 : 0 < E) (h : EL R N m0 E row col t m) (hrb : row ≤ b) (hb : b < R) (hne : en m b col ≠ 0)
    (hl : ∀ j, row ≤ j → j < R → en m j col ≠ 0 → (en m b col).natAbs ≤ (en m j col).natAbs) : ES R N m0 E row col t (row + 1) (swapM m row b) := by
  have hr := h.C.r
  have hs := h.C.sh
  have hB := gB_pos (R := R) hE0 row
  obtain ⟨k, h1, h2, h3⟩ := h.ex
  obtain ⟨hk1, hk2⟩ := h.small hE0 h3
  have hen := en_swapM hs hr hb
  have hsh : Shape R N (swapM m row b) := (hs.set hr (hs.2 _ hb)).set hb (hs.2 _ hr)
  generalize swapM m row b = m' at *
  obtain ⟨piv, ec⟩ := h.C.ec
  have hrow : ∀ k, en m' row k = en m b k := fun k => by
    rw [hen]
    split
    · rename_i e; rw [← e]
    · rw [if_pos rfl]
  have hsl : SameL R N (en m') (en m0) := by
    refine h.C.sl.step (fun j hj => ?_) (fun j hj => ?_)
    · by_cases e1 : j = b
      · exact (Lat.row hr).congr fun k _ => by rw [hen, if_pos e1]
      · by_cases e2 : j = row
        · exact (Lat.row hb).congr fun k _ => by rw [hen, if_neg e1, if_pos e2]
        · exact (Lat.row hj).congr fun k _ => by rw [hen, if_neg e1, if_neg e2]
    · by_cases e1 : j = b
      · subst e1
        exact (Lat.row (m := en m') hr).congr fun k _ => by rw [hrow]
      · by_cases e2 : j = row
        · subst e2
          exact (Lat.row (m := en m') hb).congr fun k _ => by rw [hen, if_pos rfl]
        · exact (Lat.row (m := en m') hj).congr fun k _ => by rw [hen, if_neg e1, if_neg e2]
  -- the new head is less than the old one
  have hlt : 0 < k → row < b ∧ (en m b col).natAbs < (en m row col).natAbs := fun hk => by
    rcases h3 with ⟨e, -⟩ | ⟨-, -, g3, g4, ⟨j, j1, j2, j3⟩, -⟩
    · omega
    · have a1 := hl j (by omega) j2 j3
      have a2 := g4 j j1 j2
      have a3 : (en m b col).natAbs < (en m row col).natAbs := by omega
      refine ⟨?_, a3⟩
      rcases Nat.eq_or_lt_of_le hrb with e | e
      · subst e; omega
      · exact e
  refine ⟨⟨hr, h.C.c, hsh, hsl, ⟨piv, ech_keep ec (fun a c ha => by rw [hen, if_neg (by omega), if_neg (by omega)]) (fun a c ha ha' hc => ?_)⟩, fun j c hj => by rw [hen, if_neg (by omega), if_neg (by omega)]; exact h.C.bu j c hj⟩, Nat.lt_succ_self _, hr, by rw [hrow]; exact hne, ?_,
    k, by omega, hk2, fun j c hj => ?_, fun j c hj hj' => by omega, fun j hj hj' => ?_, fun j hj hj' => by omega, fun hk => ?_, fun hk => ?_⟩
  · rw [hen]
    split
    · exact ec.rest row c (Nat.le_refl _) hr hc
    · split
      · exact ec.rest b c hrb hb hc
      · exact ec.rest a c ha ha' hc
  · rw [hrow]
    rcases Nat.eq_zero_or_pos k with e | e
    · rcases h3 with ⟨-, g2⟩ | ⟨g1, -⟩
      · have := h2 b hrb hb; omega
      · omega
    · rcases h3 with ⟨g1, -⟩ | ⟨-, g2, -⟩
      · omega
      · rw [g2]; exact (hlt e).2
  · rw [hen]
    split
    · exact h1 row c (Nat.le_refl _)
    · split
      · exact h1 b c hrb
      · exact h1 j c (by omega)
  · rw [hen]
    split
    · exact h2 row (Nat.le_refl _) hr
    · split
      · exact h2 b hrb hb
      · exact h2 j hj hj'
  · rw [hrow]
    rcases h3 with ⟨g1, -⟩ | ⟨-, -, -, g4, -⟩
    · omega
    · have := g4 b (hlt hk).1 hb; omega
  · obtain ⟨a1, a2⟩ := hlt (by omega)
    rcases h3 with ⟨g1, -⟩ | ⟨-, -, -, g4, -, g6⟩
    · omega
    · obtain ⟨g7, j, g8, g9, g10, g11⟩ := g6 hk
      have a3 := g4 b a1 hb
      refine ⟨b, en m row col, a1, hb, by rw [hrow]; omega, ?_, ?_⟩
      · rw [hrow]
        refine Nat.lt_of_le_of_lt (Nat.mul_le_mul_left _ (Nat.mul_le_mul_left _ ?_)) g11
        exact hl j (by omega) g9 (by omega)
      · rw [hen, if_pos rfl, if_neg (by omega)]

theorem eplan (hE0 : 0 < E) (hG : ∀ r, r ≤ R → gB R E r ≤ 1000000000000) : EPlan R N (E1 R N m0 E) (EL R N m0 E) (ES R N m0 E) (E3 R N m0 E) where
  s1 := fun {row col m} h => ⟨h.sh, fun j k => sz_bits (h.bt j k) (by have := hG row h.r; omega)⟩
  sL := fun {row col t m} h => ⟨h.C.sh, fun j k => by
    have hr := h.C.r
    have h0 := hG (row + 1) hr
    rw [gB_succ] at h0
    obtain ⟨x, h1, h2, h3⟩ := h.ex
    obtain ⟨hk1, hk2⟩ := h.small hE0 h3
    rcases Nat.lt_or_ge j row with c | c
    · exact sz_bits (h.C.bu j k c) (by omega)
    · have := cB_ge (R := R) (E := E) (row := row) (k := x + 1) (by omega) (fun e => by have := hk2 e; omega)
      exact sz_bits (h1 j k c) (by omega)⟩
  sS := fun {row col t i m} h => ⟨h.C.sh, fun j k => by
    have hr := h.C.r
    have h0 := hG (row + 1) hr
    rw [gB_succ] at h0
    obtain ⟨x, h1, h2, h3, h4, -⟩ := h.ex
    have hi1 := h.i1
    have hi2 := h.i2
    rcases Nat.lt_or_ge j row with c | c
    · exact sz_bits (h.C.bu j k c) (by omega)
    · by_cases c2 : j = row ∨ i ≤ j
      · have := cB_ge (R := R) (E := E) (row := row) (k := x + 1) (by omega) (fun e => by have := h2 e; omega)
        exact sz_bits (h3 j k c2) (by omega)
      · have := cB_ge (R := R) (E := E) (row := row) (k := x + 2) (by omega) (fun e => by omega)
        exact sz_bits (h4 j k (by omega) (by omega)) (by omega), h.p⟩
  s3 := fun {row col i m} h => ⟨h.sh, fun j k => by
    have hr := h.r
    have h0 := hG (row + 1) hr
    have h1 := gB_succ R E row
    rcases Nat.lt_or_ge j i with c | c
    · exact sz_bits (h.b3 j k c) (by omega)
    · rcases Nat.lt_or_ge j row with c2 | c2
      · exact sz_bits (h.b1 j k c c2) (by omega)
      · exact sz_bits (h.b2 j k c2) (by omega), by have := h.p; omega⟩
  start := fun {row col m} h hc hr => ⟨2 ^ gB R E row, ⟨hr, hc, h.sh, h.sl, h.ec, fun j k _ => h.bt j k⟩, 0, fun j k _ => by rw [Nat.zero_add, Nat.one_mul]; exact h.bt j k, fun j _ _ => h.bt j col, .inl ⟨rfl, rfl⟩⟩
  none := fun {row col t m} h h0 => by
    obtain ⟨x, h1, h2, h3⟩ := h.ex
    have hr := h.C.r
    rcases h3 with ⟨e, -⟩ | ⟨-, -, g3, -⟩
    · subst e
      obtain ⟨piv, ec⟩ := h.C.ec
      refine ⟨by omega, h.C.c, h.C.sh, h.C.sl, ⟨piv, ech_next ec h0⟩, fun j k => ?_⟩
      rcases Nat.lt_or_ge j row with c | c
      · exact h.C.bu j k c
      · have := h1 j k c
        rw [Nat.zero_add, Nat.one_mul] at this
        exact this
    · exact absurd (h0 row (Nat.le_refl _) hr) g3
  swap := fun h _ h2 h3 h4 h5 => h.swap hE0 h2 h3 h4 h5
  step := fun h _ h2 => by rw [plus_less]; exact h.step hE0 h2
  again := fun h h2 => h.again hE0 h2
  pos := fun {row col t m} h h0 hp => by
    have hr := h.C.r
    obtain ⟨x, h1, h2, h3, h4, -⟩ := h.ex
    refine ⟨hr, h.C.c, Nat.zero_le _, h.C.sh, h.C.sl, h.C.ec, hp, h0, fun j hj => absurd hj (Nat.not_lt_zero _), fun j k _ hj => h.C.bu j k hj, fun j k hj => ?_, fun j k hj => absurd hj (Nat.not_lt_zero _)⟩
    by_cases c : j = row ∨ R ≤ j
    · exact (h3 j k c).mono (cB_ge (by omega) (fun e => by have := h2 e; omega))
    · exact (h4 j k (by omega) (by omega)).mono (cB_ge (by omega) (fun e => by omega))
  neg := fun {row col t m} h h0 hp => by
    have hr := h.C.r
    have hs := h.C.sh
    obtain ⟨x, h1, h2, h3, h4, -⟩ := h.ex
    have sh' : Shape R N (m.set row (timesR (-1) (m.getD row []))) := hs.set hr (by rw [timesR_len]; exact hs.2 row hr)
    have hen : ∀ j k, en (m.set row (timesR (-1) (m.getD row []))) j k = if j = row then - en m row k else en m j k := fun j k => by
      rw [en_set (by rw [hs.1]; exact hr)]
      split
      · rw [timesR_at]; show -1 * en m row k = _; omega
      · rfl
    generalize m.set row (timesR (-1) (m.getD row [])) = m' at *
    obtain ⟨piv, ec⟩ := h.C.ec
    have b2 : ∀ j k, row ≤ j → Bt (en m j k) (cB R E row) := fun j k hj => by
      by_cases c : j = row ∨ R ≤ j
      · exact (h3 j k c).mono (cB_ge (by omega) (fun e => by have := h2 e; omega))
      · exact (h4 j k (by omega) (by omega)).mono (cB_ge (by omega) (fun e => by omega))
    refine ⟨hr, h.C.c, Nat.zero_le _, sh', ?_, ⟨piv, ech_keep ec (fun a c ha => by rw [hen, if_neg (by omega)]) (fun a c ha ha' hc => ?_)⟩, ?_, fun j h1 h2 => ?_, fun j hj => absurd hj (Nat.not_lt_zero _), fun j k _ hj => ?_, fun j k hj => ?_, fun j k hj => absurd hj (Nat.not_lt_zero _)⟩
    · refine h.C.sl.step (fun j hj => ?_) (fun j hj => ?_)
      · by_cases e : j = row
        · subst e
          exact ((Lat.row hr).smul (-1)).congr fun k _ => by rw [hen, if_pos rfl]; omega
        · exact (Lat.row hj).congr fun k _ => by rw [hen, if_neg e]
      · by_cases e : j = row
        · subst e
          exact ((Lat.row (m := en m') hr).smul (-1)).congr fun k _ => by rw [hen, if_pos rfl]; omega
        · exact (Lat.row (m := en m') hj).congr fun k _ => by rw [hen, if_neg e]
    · rw [hen]
      split
      · rw [ec.rest row c (Nat.le_refl _) hr hc]; rfl
      · exact ec.rest a c ha ha' hc
    · rw [hen, if_pos rfl]; omega
    · rw [hen, if_neg (by omega)]; exact h0 j h1 h2
    · rw [hen, if_neg (by omega)]; exact h.C.bu j k hj
    · rw [hen]
      split
      · exact (b2 row k (Nat.le_refl _)).neg
      · exact b2 j k hj
  red := fun {row col i m} h hr hi => by
    rw [plus_less]
    have hs := h.sh
    have hp := h.p
    have hen := en_less hs (row := row) (show i < R by omega) (en m i col / en m row col)
    have hsl := sl_less hs h.sl (show i < R by omega) hr (by omega) (en m i col / en m row col)
    have hsh : Shape R N (m.set i (lessR (m.getD i []) (en m i col / en m row col) (m.getD row []))) := hs.set (by omega) (by rw [lessR, List.length_map, List.length_range]; exact hs.2 i (by omega))
    generalize m.set i (lessR (m.getD i []) (en m i col / en m row col) (m.getD row [])) = m' at *
    obtain ⟨piv, ec⟩ := h.ec
    have hmod : en m i col - en m i col / en m row col * en m row col = en m i col % en m row col := by
      rw [Int.emod_def, Int.mul_comm]
    have hm0 := Int.emod_nonneg (en m i col) (b := en m row col) (by omega)
    have hm1 := Int.emod_lt_of_pos (en m i col) hp
    have old : ∀ j k, k < col → en m' j k = en m j k := fun j k hk => by
      rw [hen]
      split
      · rename_i e
        rw [ec.rest row k (Nat.le_refl _) hr hk, e]; omega
      · rfl
    refine ⟨hr, h.c, by omega, hsh, hsl, ⟨piv, ⟨ec.lt, ec.mono, fun j hj => ?_, fun j k hj hk => ?_, fun a b hab hb => ?_, fun j k h1 h2 h3 => ?_⟩⟩, ?_, fun j h1 h2 => ?_, fun j hj => ?_, fun j k h1 h2 => ?_, fun j k hj => ?_, fun j k hj => ?_⟩
    · rw [old j _ (ec.lt j hj)]; exact ec.pos j hj
    · rw [old j k (by have := ec.lt j hj; omega)]; exact ec.zero j k hj hk
    · rw [old a _ (ec.lt b hb), old b _ (ec.lt b hb)]; exact ec.red a b hab hb
    · rw [old j k h3]; exact ec.rest j k h1 h2 h3
    · rw [hen, if_neg (by omega)]; exact hp
    · rw [hen, if_neg (by omega)]; exact h.z j h1 h2
    · rw [hen, hen row, if_neg (show ¬ row = i by omega)]
      split
      · rw [hmod]; exact ⟨hm0, hm1⟩
      · exact h.q j (by omega)
    · rw [hen, if_neg (by omega)]; exact h.b1 j k (by omega) h2
    · rw [hen, if_neg (by omega)]; exact h.b2 j k hj
    · rw [hen]
      split
      · have hq : 2 * (en m i col / en m row col).natAbs < 2 ^ gB R E row := by
          have := Int.natAbs_ediv_le_natAbs (en m i col) (en m row col)
          have e2 := h.b1 i col (Nat.le_refl _) hi
          unfold Bt at e2
          omega
        have hC : 0 < cB R E row := Nat.lt_of_lt_of_le (gB_pos hE0 row) (cB_le R E row)
        rw [gB_succ]
        exact Bt.less3 (h.b1 i k (Nat.le_refl _) hi) (h.b2 row k (Nat.le_refl _)) hq hC
      · exact h.b3 j k (by omega)
  next := fun {row col m} h => by
    have hr := h.r
    have hc := h.c
    have hp := h.p
    obtain ⟨piv, ec⟩ := h.ec
    have hg := gB_succ R E row
    refine ⟨hr, hc, h.sh, h.sl, ⟨fun i => if i = row then col else piv i, ⟨fun i hi => ?_, fun i j hij hj => ?_, fun i hi => ?_, fun i k hi hk => ?_, fun j i hji hi => ?_, fun i k h1 h2 h3 => ?_⟩⟩, fun j k => ?_⟩
    · show (if i = row then col else piv i) < col + 1
      split
      · omega
      · have := ec.lt i (by omega); omega
    · show (if i = row then col else piv i) < (if j = row then col else piv j)
      rw [if_neg (by omega)]
      split
      · exact ec.lt i (by omega)
      · exact ec.mono i j hij (by omega)
    · show 0 < en m i (if i = row then col else piv i)
      split
      · rename_i e; rw [e]; exact hp
      · exact ec.pos i (by omega)
    · by_cases e : i = row
      · subst e
        rw [if_pos rfl] at hk
        exact ec.rest i k (Nat.le_refl _) hr hk
      · rw [if_neg e] at hk
        exact ec.zero i k (by omega) hk
    · show 0 ≤ en m j (if i = row then col else piv i) ∧ en m j (if i = row then col else piv i) < en m i (if i = row then col else piv i)
      by_cases e : i = row
      · rw [if_pos e, e]; exact h.q j (by omega)
      · rw [if_neg e]; exact ec.red j i hji (by omega)
    · by_cases e : k = col
      · subst e; exact h.z i (by omega) h2
      · exact ec.rest i k (by omega) h2 (by omega)
    · rcases Nat.lt_or_ge j row with h1 | h1
      · exact h.b3 j k h1
      · exact (h.b2 j k h1).mono (by omega)

theorem e1_start {m : List (List Int)} (hs : Shape R N m) (hb : ∀ j k, Bt (en m j k) E) : E1 R N m E 0 0 m :=
  ⟨Nat.zero_le _, Nat.zero_le _, hs, SameL.refl _, ⟨fun _ => 0, ⟨fun i hi => absurd hi (Nat.not_lt_zero i), fun i j _ hj => absurd hj (Nat.not_lt_zero j), fun i hi => absurd hi (Nat.not_lt_zero i), fun i k hi => absurd hi (Nat.not_lt_zero i), fun j i _ hi => absurd hi (Nat.not_lt_zero i), fun i k _ _ hk => absurd hk (Nat.not_lt_zero k)⟩⟩, hb⟩

/-- What is done at the end. -/
theorem E1.done {row col : Nat} {m : List (List Int)} (h : E1 R N m0 E row col m) (he : col = N ∨ row = R) : (∃ piv, Hnf row N (en m) piv) ∧ (∀ i k, row ≤ i → i < R → k < N → en m i k = 0) := by
  obtain ⟨piv, ec⟩ := h.ec
  have hc := h.c
  refine ⟨⟨piv, ⟨fun i hi => by have := ec.lt i hi; omega, ec.mono, ec.pos, ec.zero, ec.red⟩⟩, fun i k h1 h2 h3 => ?_⟩
  rcases he with e | e
  · subst e; exact ec.rest i k h1 h2 h3
  · omega
end
end Go.Proofs.YtdbpkoddfcdhdaaGreat
