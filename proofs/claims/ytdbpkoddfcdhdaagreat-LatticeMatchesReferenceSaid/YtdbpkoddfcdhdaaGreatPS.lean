/-
  Sums, lattices of rows, Hermite normal forms: there is one for each lattice. No program.
  Determinants by the first column; what is linear in each row and zero at two equal rows next to each other is a multiple of them. No program.
  A plan for every small matrix: the lattice of the rows stays, what is done is in Hermite normal form, the integers stay small. No program.
-/
import Derived.Test.YtdbpkoddfcdhdaaGreatPH
import Derived.Test.YtdbpkoddfcdhdaaGreatPI
set_option linter.unusedSimpArgs false
set_option linter.unusedVariables false

namespace Go.Proofs.YtdbpkoddfcdhdaaGreat

def sumN : Nat → (Nat → Int) → Int
  | 0, _ => 0
  | n + 1, f => sumN n f + f n

theorem sumN_congr {n : Nat} {f g : Nat → Int} (h : ∀ i, i < n → f i = g i) : sumN n f = sumN n g := by
  induction n with
  | zero => rfl
  | succ n ih => simp only [sumN]; rw [ih (fun i hi => h i (by omega)), h n (by omega)]
theorem sumN_zero {n : Nat} {f : Nat → Int} (h : ∀ i, i < n → f i = 0) : sumN n f = 0 := by
  induction n with
  | zero => rfl
  | succ n ih => simp only [sumN]; rw [ih (fun i hi => h i (by omega)), h n (by omega)]; rfl
theorem sumN_add (n : Nat) (f g : Nat → Int) : sumN n (fun i => f i + g i) = sumN n f + sumN n g := by
  induction n with
  | zero => rfl
  | succ n ih => simp only [sumN]; rw [ih]; omega
theorem sumN_mul (n : Nat) (a : Int) (f : Nat → Int) : sumN n (fun i => a * f i) = a * sumN n f := by
  induction n with
  | zero => simp [sumN]
  | succ n ih => simp only [sumN]; rw [ih, Int.mul_add]
theorem sumN_sub (n : Nat) (f g : Nat → Int) : sumN n (fun i => f i - g i) = sumN n f - sumN n g := by
  induction n with
  | zero => rfl
  | succ n ih => simp only [sumN]; rw [ih]; omega
theorem sumN_swap (n m : Nat) (f : Nat → Nat → Int) : sumN n (fun i => sumN m (fun j => f i j)) = sumN m (fun j => sumN n (fun i => f i j)) := by
  induction n with
  | zero => simp only [sumN]; rw [sumN_zero]; intro i _; rfl
  | succ n ih => simp only [sumN]; rw [ih, ← sumN_add]
theorem sumN_one {n : Nat} {f : Nat → Int} {j : Nat} (hj : j < n) (h : ∀ i, i < n → i ≠ j → f i = 0) : sumN n f = f j := by
  induction n with
  | zero => omega
  | succ n ih =>
    simp only [sumN]
    by_cases e : j = n
    · subst e
      rw [sumN_zero (fun i hi => h i (by omega) (by omega))]; omega
    · rw [ih (by omega) (fun i hi hne => h i (by omega) hne), h n (by omega) (fun h => e h.symm)]; omega

theorem least_of {p : Nat → Prop} {n : Nat} (h : ∃ i, i < n ∧ p i) : ∃ i, i < n ∧ p i ∧ ∀ j, j < i → ¬ p j := by
  classical
  induction n with
  | zero => obtain ⟨i, hi, _⟩ := h; omega
  | succ n ih =>
    by_cases hh : ∃ i, i < n ∧ p i
    · obtain ⟨i, h1, h2, h3⟩ := ih hh
      exact ⟨i, by omega, h2, h3⟩
    · obtain ⟨i, h1, h2⟩ := h
      have : i = n := by
        rcases Nat.lt_or_ge i n with h' | h'
        · exact absurd ⟨i, h', h2⟩ hh
        · omega
      subst this
      exact ⟨i, by omega, h2, fun j hj hp => hh ⟨j, hj, hp⟩⟩

/-- v is a combination of the first R rows, on the first N places. -/
def Lat (R N : Nat) (m : Nat → Nat → Int) (v : Nat → Int) : Prop := ∃ c : Nat → Int, ∀ k, k < N → v k = sumN R fun i => c i * m i k

section
variable {R R' N : Nat} {m m' : Nat → Nat → Int} {v u : Nat → Int}

theorem Lat.congr (h : Lat R N m v) (e : ∀ k, k < N → v k = u k) : Lat R N m u := by
  obtain ⟨c, hc⟩ := h
  exact ⟨c, fun k hk => by rw [← e k hk, hc k hk]⟩
theorem Lat.row {i : Nat} (hi : i < R) : Lat R N m (m i) :=
  ⟨fun j => if j = i then 1 else 0, fun k _ => by
    rw [sumN_one hi (fun j _ hne => by simp [hne])]; simp⟩
theorem Lat.zero : Lat R N m (fun _ => 0) := ⟨fun _ => 0, fun k _ => by rw [sumN_zero (fun i _ => by simp)]⟩
theorem Lat.add (h : Lat R N m v) (h' : Lat R N m u) : Lat R N m (fun k => v k + u k) := by
  obtain ⟨c, hc⟩ := h
  obtain ⟨d, hd⟩ := h'
  refine ⟨fun i => c i + d i, fun k hk => ?_⟩
  show v k + u k = sumN R fun i => (c i + d i) * m i k
  rw [hc k hk, hd k hk, ← sumN_add]
  exact sumN_congr fun i _ => by rw [Int.add_mul]
theorem Lat.smul (a : Int) (h : Lat R N m v) : Lat R N m (fun k => a * v k) := by
  obtain ⟨c, hc⟩ := h
  refine ⟨fun i => a * c i, fun k hk => ?_⟩
  show a * v k = sumN R fun i => a * c i * m i k
  rw [hc k hk, ← sumN_mul]
  exact sumN_congr fun i _ => by rw [Int.mul_assoc]
theorem Lat.sub (h : Lat R N m v) (h' : Lat R N m u) : Lat R N m (fun k => v k - u k) :=
  (h.add (h'.smul (-1))).congr fun k _ => by omega
theorem Lat.sum {n : Nat} {c : Nat → Int} {w : Nat → Nat → Int} (h : ∀ i, i < n → Lat R N m (w i)) : Lat R N m (fun k => sumN n fun i => c i * w i k) := by
  induction n with
  | zero => exact Lat.zero
  | succ n ih => exact (ih (fun i hi => h i (by omega))).add ((h n (by omega)).smul (c n))
theorem Lat.trans (h : ∀ i, i < R' → Lat R N m (m' i)) (hv : Lat R' N m' v) : Lat R N m v := by
  obtain ⟨c, hc⟩ := hv
  exact (Lat.sum (c := c) h).congr fun k hk => (hc k hk).symm
theorem Lat.ext (e : ∀ i k, i < R → k < N → m i k = m' i k) (h : Lat R N m v) : Lat R N m' v :=
  Lat.trans (fun i hi => (Lat.row hi).congr fun k hk => (e i k hi hk).symm) h
/-- On fewer places. -/
theorem Lat.less {n : Nat} (hn : n ≤ N) (h : Lat R N m v) : Lat R n m v := by
  obtain ⟨c, hc⟩ := h
  exact ⟨c, fun k hk => hc k (by omega)⟩
/-- Rows that are zero may be left out. -/
theorem Lat.cut {r : Nat} (hr : r ≤ R) (h0 : ∀ i k, r ≤ i → i < R → k < N → m i k = 0) (h : Lat R N m v) : Lat r N m v :=
  Lat.trans (fun i hi => by
    rcases Nat.lt_or_ge i r with h' | h'
    · exact Lat.row h'
    · exact Lat.zero.congr fun k hk => (h0 i k h' hi hk).symm) h
theorem Lat.more {r : Nat} (hr : r ≤ R) (h : Lat r N m v) : Lat R N m v := Lat.trans (fun i hi => Lat.row (by omega)) h
end

/-- A Hermite normal form of r rows: no zero rows. -/
structure Hnf (r N : Nat) (m : Nat → Nat → Int) (piv : Nat → Nat) : Prop where
  lt : ∀ i, i < r → piv i < N
  mono : ∀ i j, i < j → j < r → piv i < piv j
  pos : ∀ i, i < r → 0 < m i (piv i)
  zero : ∀ i k, i < r → k < piv i → m i k = 0
  red : ∀ j i, j < i → i < r → 0 ≤ m j (piv i) ∧ m j (piv i) < m i (piv i)

section
variable {r r' N : Nat} {m m' : Nat → Nat → Int} {piv piv' : Nat → Nat} {v : Nat → Int}

/-- Where an element of the lattice begins. -/
theorem Hnf.lead (h : Hnf r N m piv) (hv : Lat r N m v) (hne : ∃ k, k < N ∧ v k ≠ 0) : ∃ i q, i < r ∧ (∀ k, k < piv i → v k = 0) ∧ v (piv i) ≠ 0 ∧ v (piv i) = q * m i (piv i) := by
  obtain ⟨c, hc⟩ := hv
  have hex : ∃ i, i < r ∧ c i ≠ 0 := by
    refine Classical.byContradiction fun hno => ?_
    obtain ⟨k, hk, hvk⟩ := hne
    refine hvk ((hc k hk).trans (sumN_zero fun i hi => ?_))
    have : c i = 0 := Classical.byContradiction fun hh => hno ⟨i, hi, hh⟩
    rw [this, Int.zero_mul]
  obtain ⟨i, hi, hci, hmin⟩ := least_of hex
  have hz : ∀ j, j < i → c j = 0 := fun j hj => Classical.byContradiction fun hh => hmin j hj hh
  have hp : v (piv i) = c i * m i (piv i) := by
    rw [hc _ (h.lt i hi)]
    refine sumN_one hi fun j hj hne => ?_
    rcases Nat.lt_or_ge j i with h' | h'
    · rw [hz j h', Int.zero_mul]
    · rw [h.zero j (piv i) hj (h.mono i j (by omega) hj), Int.mul_zero]
  refine ⟨i, c i, hi, fun k hk => ?_, ?_, hp⟩
  · rw [hc k (by have := h.lt i hi; omega)]
    refine sumN_zero fun j hj => ?_
    rcases Nat.lt_or_ge j i with h' | h'
    · rw [hz j h', Int.zero_mul]
    · rcases Nat.eq_or_lt_of_le h' with e | e
      · subst e; rw [h.zero _ k hj hk, Int.mul_zero]
      · rw [h.zero j k hj (by have := h.mono i j e hj; omega), Int.mul_zero]
  · rw [hp]
    exact Int.mul_ne_zero hci (by have := h.pos i hi; omega)

theorem Hnf.row_ne (h : Hnf r N m piv) {i : Nat} (hi : i < r) : ∃ k, k < N ∧ m i k ≠ 0 := ⟨piv i, h.lt i hi, by have := h.pos i hi; omega⟩

/-- The pivot of a row is one of the other form. -/
theorem Hnf.meets (h : Hnf r N m piv) (h' : Hnf r' N m' piv') (e : ∀ i, i < r → Lat r' N m' (m i)) {i : Nat} (hi : i < r) : ∃ j q, j < r' ∧ piv' j = piv i ∧ m i (piv i) = q * m' j (piv i) := by
  obtain ⟨j, q, hj, h1, h2, h3⟩ := h'.lead (e i hi) (h.row_ne hi)
  have : piv' j = piv i := by
    rcases Nat.lt_trichotomy (piv' j) (piv i) with hl | he | hg
    · exact absurd (h.zero i _ hi hl) h2
    · exact he
    · have := h1 _ hg
      have := h.pos i hi
      omega
  rw [this] at h3
  exact ⟨j, q, hj, this, h3⟩

theorem incr_ge {r r' : Nat} {s : Nat → Nat} (h : ∀ i, i < r → s i < r') (hm : ∀ i j, i < j → j < r → s i < s j) : ∀ i, i < r → i ≤ s i := by
  intro i
  induction i with
  | zero => intro _; exact Nat.zero_le _
  | succ i ih =>
    intro hi
    have := ih (by omega)
    have := hm i (i + 1) (by omega) hi
    omega

/-- The pivots are the same. -/
theorem Hnf.pivots (h : Hnf r N m piv) (h' : Hnf r' N m' piv') (e : ∀ i, i < r → Lat r' N m' (m i)) (e' : ∀ i, i < r' → Lat r N m (m' i)) : r = r' ∧ ∀ i, i < r → piv i = piv' i ∧ m i (piv i) = m' i (piv i) := by
  have A : ∀ i, ∃ j, i < r → j < r' ∧ piv' j = piv i := fun i => by
    by_cases hi : i < r
    · obtain ⟨j, _, hj, hp, _⟩ := h.meets h' e hi
      exact ⟨j, fun _ => ⟨hj, hp⟩⟩
    · exact ⟨0, fun hh => absurd hh hi⟩
  have B : ∀ i, ∃ j, i < r' → j < r ∧ piv j = piv' i := fun i => by
    by_cases hi : i < r'
    · obtain ⟨j, _, hj, hp, _⟩ := h'.meets h e' hi
      exact ⟨j, fun _ => ⟨hj, hp⟩⟩
    · exact ⟨0, fun hh => absurd hh hi⟩
  have inj : ∀ {r : Nat} {m : Nat → Nat → Int} {piv : Nat → Nat}, Hnf r N m piv → ∀ i j, i < r → j < r → piv i < piv j → i < j := fun {r m piv} h i j hi hj hlt => by
    rcases Nat.lt_trichotomy i j with hl | he | hg
    · exact hl
    · subst he; omega
    · have := h.mono j i hg hi; omega
  obtain ⟨s, hs⟩ := Classical.axiomOfChoice A
  obtain ⟨t, ht⟩ := Classical.axiomOfChoice B
  have sm : ∀ i j, i < j → j < r → s i < s j := fun i j hij hj => inj h' _ _ (hs i (by omega)).1 (hs j hj).1 (by rw [(hs i (by omega)).2, (hs j hj).2]; exact h.mono i j hij hj)
  have tm : ∀ i j, i < j → j < r' → t i < t j := fun i j hij hj => inj h _ _ (ht i (by omega)).1 (ht j hj).1 (by rw [(ht i (by omega)).2, (ht j hj).2]; exact h'.mono i j hij hj)
  have sg := incr_ge (fun i hi => (hs i hi).1) sm
  have tg := incr_ge (fun i hi => (ht i hi).1) tm
  have hr : r = r' := by
    rcases Nat.lt_trichotomy r r' with hl | he | hg
    · have h1 := tg r hl
      have h2 := (ht r hl).1
      omega
    · exact he
    · have h1 := sg r' hg
      have h2 := (hs r' hg).1
      omega
  have ss : ∀ i, i < r → s i = i := fun i hi => by
    have h1 := sg i hi
    have h2 := (hs i hi).1
    have h3 := tg (s i) h2
    have h4 := (ht (s i) h2)
    have h5 := (hs i hi).2
    have : t (s i) = i := by
      rcases Nat.lt_trichotomy (t (s i)) i with hl | he | hg
      · have := h.mono _ _ hl hi; omega
      · exact he
      · have := h.mono _ _ hg h4.1; omega
    omega
  refine ⟨hr, fun i hi => ?_⟩
  have hp : piv' i = piv i := by have := (hs i hi).2; rw [ss i hi] at this; exact this
  refine ⟨hp.symm, ?_⟩
  obtain ⟨j, q, hj, hpj, hq⟩ := h.meets h' e hi
  obtain ⟨j', q', hj', hpj', hq'⟩ := h'.meets h e' (i := i) (by omega)
  have e1 : j = i := by
    rcases Nat.lt_trichotomy j i with hl | he | hg
    · have := h'.mono _ _ hl (by omega); omega
    · exact he
    · have := h'.mono _ _ hg hj; omega
  have e2 : j' = i := by
    rcases Nat.lt_trichotomy j' i with hl | he | hg
    · have := h.mono _ _ hl (by omega); omega
    · exact he
    · have := h.mono _ _ hg hj'; omega
  subst e1
  subst e2
  rw [hp] at hq'
  have p1 := h.pos _ hi
  have p2 := h'.pos _ hj
  rw [hp] at p2
  have d1 : m' j' (piv j') ∣ m j' (piv j') := ⟨q, by rw [hq, Int.mul_comm]⟩
  have d2 : m j' (piv j') ∣ m' j' (piv j') := ⟨q', by rw [hq', Int.mul_comm]⟩
  exact Int.dvd_antisymm (by omega) (by omega) d2 d1

/-- There is one Hermite normal form. -/
theorem Hnf.uniq (h : Hnf r N m piv) (h' : Hnf r' N m' piv') (e : ∀ i, i < r → Lat r' N m' (m i)) (e' : ∀ i, i < r' → Lat r N m (m' i)) : r = r' ∧ ∀ i k, i < r → k < N → m i k = m' i k := by
  obtain ⟨hr, hp⟩ := h.pivots h' e e'
  subst hr
  refine ⟨rfl, fun i k hi hk => Classical.byContradiction fun hne => ?_⟩
  have hL : Lat r N m (fun k => m i k - m' i k) := (Lat.row hi).sub (e' i hi)
  obtain ⟨j, q, hj, h1, h2, h3⟩ := h.lead hL ⟨k, hk, by omega⟩
  have hji : i < j := by
    rcases Nat.lt_trichotomy i j with hl | he | hg
    · exact hl
    · subst he
      have := (hp i hi).2
      omega
    · have z1 := h.zero i _ hi (h.mono _ _ hg hi)
      have z2 := h'.zero i _ hi (h'.mono _ _ hg hi)
      rw [← (hp j hj).1] at z2
      omega
  have b1 := h.red i j hji hj
  have b2 := h'.red i j hji hj
  rw [← (hp j hj).1, ← (hp j hj).2] at b2
  have hd : m j (piv j) ∣ (m i (piv j) - m' i (piv j)) := ⟨q, by rw [h3, Int.mul_comm]⟩
  have := Int.eq_zero_of_dvd_of_natAbs_lt_natAbs hd (by omega)
  omega
end
end Go.Proofs.YtdbpkoddfcdhdaaGreat

namespace Go.Proofs.YtdbpkoddfcdhdaaGreat

def skip (i a : Nat) : Nat := if a < i then a else a + 1
def sgn (i : Nat) : Int := if i % 2 = 0 then 1 else -1
theorem sgn_succ (i : Nat) : sgn (i + 1) = - sgn i := by unfold sgn; split <;> split <;> omega
theorem sgn_mul (i : Nat) : sgn i * sgn i = 1 := by unfold sgn; split <;> rfl

def det : Nat → (Nat → Nat → Int) → Int
  | 0, _ => 1
  | n + 1, M => sumN (n + 1) fun i => sgn i * (M i 0 * det n fun a b => M (skip i a) (b + 1))

/-- Row r replaced. -/
def upd2 (M : Nat → Nat → Int) (r : Nat) (v : Nat → Int) : Nat → Nat → Int := fun i k => if i = r then v k else M i k
/-- Rows r and s exchanged. -/
def swp (M : Nat → Nat → Int) (r s : Nat) : Nat → Nat → Int := fun i => if i = r then M s else if i = s then M r else M i
def idM : Nat → Nat → Int := fun i k => if i = k then 1 else 0

theorem det_congr : ∀ (n : Nat) {M M' : Nat → Nat → Int}, (∀ i k, i < n → k < n → M i k = M' i k) → det n M = det n M' := by
  intro n
  induction n with
  | zero => intro M M' _; rfl
  | succ n ih =>
    intro M M' h
    simp only [det]
    refine sumN_congr fun i hi => ?_
    rw [h i 0 hi (by omega), ih (M' := fun a b => M' (skip i a) (b + 1)) (fun a b ha hb => h _ _ (by unfold skip; split <;> omega) (by omega))]

/-- Linear in each of n rows of N elements, and zero at two equal neighbours. -/
structure AM (n N : Nat) (F : (Nat → Nat → Int) → Int) : Prop where
  congr : ∀ {M M'}, (∀ i k, i < n → k < N → M i k = M' i k) → F M = F M'
  lin : ∀ {M r a b u w}, r < n → F (upd2 M r (fun k => a * u k + b * w k)) = a * F (upd2 M r u) + b * F (upd2 M r w)
  alt : ∀ {M r}, r + 1 < n → (∀ k, k < N → M r k = M (r + 1) k) → F M = 0

theorem sumN_two {n : Nat} {f : Nat → Int} {i j : Nat} (hij : i < j) (hj : j < n) (h : ∀ k, k < n → k ≠ i → k ≠ j → f k = 0) : sumN n f = f i + f j := by
  induction n with
  | zero => omega
  | succ n ih =>
    simp only [sumN]
    by_cases e : j = n
    · subst e
      rw [sumN_one hij (fun k hk hne => h k (by omega) hne (by omega))]
    · rw [ih (by omega) (fun k hk h1 h2 => h k (by omega) h1 h2), h n (by omega) (by omega) (by omega)]; omega

theorem det_am (n : Nat) : AM n n (det n) := by
  induction n with
  | zero => exact ⟨fun _ => rfl, fun h => absurd h (Nat.not_lt_zero _), fun h => absurd h (Nat.not_lt_zero _)⟩
  | succ n ih =>
    refine ⟨det_congr (n + 1), fun {M r a b u w} hr => ?_, fun {M r} hr he => ?_⟩
    · simp only [det]
      rw [← sumN_mul, ← sumN_mul, ← sumN_add]
      refine sumN_congr fun i hi => ?_
      by_cases e : i = r
      · subst e
        have hm : ∀ v : Nat → Int, (det n fun p q => upd2 M i v (skip i p) (q + 1)) = det n fun p q => M (skip i p) (q + 1) := fun v => by
          refine det_congr n fun p q hp hq => ?_
          unfold upd2 skip
          rw [if_neg]
          split <;> omega
        rw [hm, hm, hm]
        simp only [upd2, if_true]
        ((try simp only [Int.mul_add, Int.add_mul, Int.mul_sub, Int.sub_mul, Int.neg_mul, Int.mul_neg, Int.mul_assoc, Int.mul_comm, Int.mul_left_comm]) <;> omega)
      · have hm : ∀ v : Nat → Int, (det n fun p q => upd2 M r v (skip i p) (q + 1)) = det n (upd2 (fun p q => M (skip i p) (q + 1)) (if r < i then r else r - 1) fun q => v (q + 1)) := fun v => by
          refine det_congr n fun p q hp hq => ?_
          show (if skip i p = r then v (q + 1) else M (skip i p) (q + 1)) = if p = (if r < i then r else r - 1) then v (q + 1) else M (skip i p) (q + 1)
          have e' : (skip i p = r) = (p = if r < i then r else r - 1) := by
            unfold skip
            apply propext
            split <;> split <;> omega
          simp only [e']
        rw [hm, hm, hm]
        have h0 : ∀ v : Nat → Int, upd2 M r v i 0 = M i 0 := fun v => by unfold upd2; rw [if_neg e]
        rw [h0, h0, h0]
        have := ih.lin (M := fun p q => M (skip i p) (q + 1)) (r := if r < i then r else r - 1) (a := a) (b := b) (u := fun q => u (q + 1)) (w := fun q => w (q + 1)) (by split <;> omega)
        rw [this]
        ((try simp only [Int.mul_add, Int.add_mul, Int.mul_sub, Int.sub_mul, Int.neg_mul, Int.mul_neg, Int.mul_assoc, Int.mul_comm, Int.mul_left_comm]) <;> omega)
    · simp only [det]
      rw [sumN_two (i := r) (j := r + 1) (by omega) hr]
      · have hm : (det n fun p q => M (skip (r + 1) p) (q + 1)) = det n fun p q => M (skip r p) (q + 1) := by
          refine det_congr n fun p q hp hq => ?_
          by_cases e : p = r
          · subst e
            unfold skip
            rw [if_pos (by omega), if_neg (by omega)]
            exact he _ (by omega)
          · congr 1
            unfold skip
            split <;> split <;> omega
        rw [hm, sgn_succ, ← he 0 (by omega)]
        ((try simp only [Int.mul_add, Int.add_mul, Int.mul_sub, Int.sub_mul, Int.neg_mul, Int.mul_neg, Int.mul_assoc, Int.mul_comm, Int.mul_left_comm]) <;> omega)
      · intro i hi h1 h2
        have : (det n fun p q => M (skip i p) (q + 1)) = 0 := by
          refine ih.alt (r := if r < i then r else r - 1) (by split <;> omega) fun k hk => ?_
          have e1 : skip i (if r < i then r else r - 1) = r := by unfold skip; split <;> (try split) <;> omega
          have e2 : skip i ((if r < i then r else r - 1) + 1) = r + 1 := by unfold skip; split <;> (try split) <;> omega
          show M (skip i _) (k + 1) = M (skip i _) (k + 1)
          rw [e1, e2]
          exact he (k + 1) (by omega)
        rw [this]
        omega

section
variable {n N : Nat} {F : (Nat → Nat → Int) → Int}

theorem upd2_self (M : Nat → Nat → Int) (r : Nat) : upd2 M r (M r) = M := by
  funext i k
  unfold upd2
  split
  · rename_i h; rw [h]
  · rfl
theorem upd2_twice (M : Nat → Nat → Int) (r : Nat) (u v : Nat → Int) : upd2 (upd2 M r u) r v = upd2 M r v := by
  funext i k; unfold upd2; split <;> rfl
theorem upd2_comm (M : Nat → Nat → Int) {r s : Nat} (h : r ≠ s) (u v : Nat → Int) : upd2 (upd2 M r u) s v = upd2 (upd2 M s v) r u := by
  funext i k; unfold upd2; split <;> split <;> first | rfl | omega
theorem swp_upd (M : Nat → Nat → Int) {r s : Nat} (h : r ≠ s) : swp M r s = upd2 (upd2 M r (M s)) s (M r) := by
  funext i k
  unfold swp upd2
  by_cases h1 : i = r
  · subst h1; rw [if_pos rfl, if_neg h, if_pos rfl]
  · by_cases h2 : i = s
    · subst h2; rw [if_neg h1, if_pos rfl, if_pos rfl]
    · rw [if_neg h1, if_neg h2, if_neg h2, if_neg h1]

theorem AM.add (h : AM n N F) {M : Nat → Nat → Int} {r : Nat} {u w : Nat → Int} (hr : r < n) : F (upd2 M r (fun k => u k + w k)) = F (upd2 M r u) + F (upd2 M r w) := by
  have := h.lin (M := M) (a := 1) (b := 1) (u := u) (w := w) hr
  simpa using this
theorem AM.smul (h : AM n N F) {M : Nat → Nat → Int} {r : Nat} {a : Int} {u : Nat → Int} (hr : r < n) : F (upd2 M r (fun k => a * u k)) = a * F (upd2 M r u) := by
  have := h.lin (M := M) (a := a) (b := 0) (u := u) (w := u) hr
  simpa using this
theorem AM.zrow (h : AM n N F) {M : Nat → Nat → Int} {r : Nat} (hr : r < n) (hz : ∀ k, k < N → M r k = 0) : F M = 0 := by
  have := h.smul (M := M) (a := 0) (u := M r) hr
  rw [Int.zero_mul] at this
  rw [← this]
  refine h.congr fun i k hi hk => ?_
  unfold upd2
  split
  · rename_i e; rw [e, hz k hk]; exact (Int.zero_mul _).symm
  · rfl

/-- Neighbours exchanged. -/
theorem AM.swap1 (h : AM n N F) (M : Nat → Nat → Int) {r : Nat} (hr : r + 1 < n) : F (swp M r (r + 1)) = - F M := by
  have z : ∀ v, F (upd2 (upd2 M r v) (r + 1) v) = 0 := fun v => h.alt hr fun k _ => by unfold upd2; simp
  have e1 : F (upd2 (upd2 M r (fun k => M r k + M (r + 1) k)) (r + 1) (fun k => M r k + M (r + 1) k)) =
      F (upd2 (upd2 M r (M r)) (r + 1) (M r)) + F (upd2 (upd2 M r (M r)) (r + 1) (M (r + 1))) + (F (upd2 (upd2 M r (M (r + 1))) (r + 1) (M r)) + F (upd2 (upd2 M r (M (r + 1))) (r + 1) (M (r + 1)))) := by
    rw [h.add hr]
    rw [upd2_comm M (by omega : r ≠ r + 1), h.add (by omega), upd2_comm M (by omega : r ≠ r + 1), h.add (by omega)]
    rw [upd2_comm _ (by omega : r + 1 ≠ r), upd2_comm _ (by omega : r + 1 ≠ r), upd2_comm _ (by omega : r + 1 ≠ r), upd2_comm _ (by omega : r + 1 ≠ r)]
    omega
  rw [z, z, z, upd2_self, upd2_self] at e1
  rw [swp_upd M (by omega)]
  omega

theorem AM.eq_zero (h : AM n N F) : ∀ (d : Nat) (M : Nat → Nat → Int) (i : Nat), i + d + 1 < n → (∀ k, k < N → M i k = M (i + d + 1) k) → F M = 0 := by
  intro d
  induction d with
  | zero => intro M i hi he; exact h.alt hi he
  | succ d ih =>
    intro M i hi he
    have := h.swap1 M (r := i + d + 1) (by omega)
    rw [ih (swp M (i + d + 1) (i + d + 1 + 1)) i (by omega) (fun k hk => by
      unfold swp
      rw [if_neg (by omega), if_neg (by omega), if_pos rfl]
      exact he k hk)] at this
    omega
/-- Two equal rows. -/
theorem AM.same (h : AM n N F) {M : Nat → Nat → Int} {i j : Nat} (hi : i < n) (hj : j < n) (hij : i ≠ j) (he : ∀ k, k < N → M i k = M j k) : F M = 0 := by
  rcases Nat.lt_or_ge i j with hl | hl
  · exact h.eq_zero (j - i - 1) M i (by omega) (fun k hk => by rw [he k hk, show i + (j - i - 1) + 1 = j by omega])
  · exact h.eq_zero (i - j - 1) M j (by omega) (fun k hk => by rw [← he k hk, show j + (i - j - 1) + 1 = i by omega])

def wsum (n : Nat) (f : Nat → Nat) : Nat := match n with
  | 0 => 0
  | n + 1 => wsum n f + n * f n
theorem wsum_le {n B : Nat} {f : Nat → Nat} (h : ∀ a, a < n → f a ≤ B) : wsum n f ≤ n * (n * B) := by
  induction n with
  | zero => simp [wsum]
  | succ n ih =>
    simp only [wsum]
    have h1 := ih (fun a ha => h a (by omega))
    have h2 : n * f n ≤ n * B := Nat.mul_le_mul_left _ (h n (by omega))
    have h3 : n * (n * B) ≤ n * ((n + 1) * B) := Nat.mul_le_mul_left _ (Nat.mul_le_mul_right _ (by omega))
    have h4 : n * B ≤ (n + 1) * B := Nat.mul_le_mul_right _ (by omega)
    have h5 : (n + 1) * ((n + 1) * B) = n * ((n + 1) * B) + (n + 1) * B := by rw [Nat.add_mul, Nat.one_mul]
    omega
theorem wsum_congr {n : Nat} {f g : Nat → Nat} (h : ∀ a, a < n → f a = g a) : wsum n f = wsum n g := by
  induction n with
  | zero => rfl
  | succ n ih => simp only [wsum]; rw [ih (fun a ha => h a (by omega)), h n (by omega)]
def swf (f : Nat → Nat) (r : Nat) : Nat → Nat := fun a => if a = r then f (r + 1) else if a = r + 1 then f r else f a
theorem swf_le {n r B : Nat} {f : Nat → Nat} (hf : ∀ a, a < n → f a ≤ B) (hr : r + 1 < n) : ∀ a, a < n → swf f r a ≤ B := fun a ha => by
  unfold swf
  split
  · exact hf _ hr
  · split
    · exact hf _ (by omega)
    · exact hf _ ha
theorem wsum_swf {n r : Nat} {f : Nat → Nat} (hr : r + 1 < n) (h : f (r + 1) < f r) : wsum n f < wsum n (swf f r) := by
  induction n with
  | zero => omega
  | succ n ih =>
    simp only [wsum]
    by_cases e : r + 1 = n
    · subst e
      simp only [wsum]
      rw [wsum_congr (n := r) (f := swf f r) (g := f) (fun a ha => by unfold swf; rw [if_neg (by omega), if_neg (by omega)])]
      have e1 : swf f r r = f (r + 1) := by unfold swf; rw [if_pos rfl]
      have e2 : swf f r (r + 1) = f r := by unfold swf; rw [if_neg (by omega), if_pos rfl]
      rw [e1, e2, Nat.add_mul, Nat.add_mul]
      omega
    · have := ih (by omega)
      have e1 : swf f r n = f n := by unfold swf; rw [if_neg (by omega), if_neg (by omega)]
      rw [e1]
      omega

/-- Rows picked from a list: zero, or but for the sign those in increasing order. -/
theorem AM.sort (h : AM n N F) (m : Nat → Nat → Int) (B : Nat) : ∀ (d : Nat) (f : Nat → Nat), (∀ a, a < n → f a ≤ B) → n * (n * B) - wsum n f ≤ d →
    F (fun a => m (f a)) = 0 ∨ ∃ (g : Nat → Nat) (s : Int), (s = 1 ∨ s = -1) ∧ (∀ a, a < n → ∃ b, b < n ∧ g a = f b) ∧ (∀ a b, a < b → b < n → g a < g b) ∧ F (fun a => m (f a)) = s * F (fun a => m (g a)) := by
  intro d
  induction d with
  | zero =>
    intro f hf hd
    by_cases hex : ∃ r, r < n - 1 ∧ f (r + 1) ≤ f r
    · obtain ⟨r, hr, hle⟩ := hex
      rcases Nat.eq_or_lt_of_le hle with e | hlt
      · exact .inl (h.alt (r := r) (by omega) fun k _ => by rw [e])
      · have h1 := wsum_swf (n := n) (r := r) (by omega) hlt
        have h2 := wsum_le (n := n) (B := B) (f := swf f r) (swf_le hf (by omega))
        omega
    · have hm : ∀ a b, a < b → b < n → f a < f b := fun a b => by
        induction b with
        | zero => intro h _; omega
        | succ b ihb =>
          intro hab hb
          have h1 : f b < f (b + 1) := Nat.lt_of_not_le fun hh => hex ⟨b, by omega, hh⟩
          rcases Nat.eq_or_lt_of_le (Nat.le_of_lt_succ hab) with e | e
          · subst e; exact h1
          · exact Nat.lt_trans (ihb e (by omega)) h1
      exact .inr ⟨f, 1, .inl rfl, fun a ha => ⟨a, ha, rfl⟩, hm, by rw [Int.one_mul]⟩
  | succ d ih =>
    intro f hf hd
    by_cases hex : ∃ r, r < n - 1 ∧ f (r + 1) ≤ f r
    · obtain ⟨r, hr, hle⟩ := hex
      rcases Nat.eq_or_lt_of_le hle with e | hlt
      · exact .inl (h.alt (r := r) (by omega) fun k _ => by rw [e])
      · have h1 := wsum_swf (n := n) (r := r) (by omega) hlt
        have hb : ∀ a, a < n → swf f r a ≤ B := swf_le hf (by omega)
        have h2 := wsum_le (n := n) (B := B) (f := swf f r) hb
        have hF : F (fun a => m (f a)) = - F (fun a => m (swf f r a)) := by
          have := h.swap1 (fun a => m (swf f r a)) (r := r) (by omega)
          rw [← this]
          refine h.congr fun i k _ _ => ?_
          unfold swp swf
          by_cases c1 : i = r
          · subst c1; simp
          · by_cases c2 : i = r + 1
            · subst c2; simp
            · simp [c1, c2]
        rcases ih (swf f r) hb (by omega) with h0 | ⟨g, s, hs, hg, hm, he⟩
        · left; rw [hF, h0]; rfl
        · right
          refine ⟨g, -s, by omega, fun a ha => ?_, hm, by rw [hF, he, Int.neg_mul]⟩
          obtain ⟨b, hb', e⟩ := hg a ha
          unfold swf at e
          split at e
          · exact ⟨_, by omega, e⟩
          · split at e
            · exact ⟨_, by omega, e⟩
            · exact ⟨b, hb', e⟩
    · have hm : ∀ a b, a < b → b < n → f a < f b := fun a b => by
        induction b with
        | zero => intro h _; omega
        | succ b ihb =>
          intro hab hb
          have h1 : f b < f (b + 1) := Nat.lt_of_not_le fun hh => hex ⟨b, by omega, hh⟩
          rcases Nat.eq_or_lt_of_le (Nat.le_of_lt_succ hab) with e | e
          · subst e; exact h1
          · exact Nat.lt_trans (ihb e (by omega)) h1
      exact .inr ⟨f, 1, .inl rfl, fun a ha => ⟨a, ha, rfl⟩, hm, by rw [Int.one_mul]⟩

theorem AM.sum (h : AM n N F) {M : Nat → Nat → Int} {r : Nat} (hr : r < n) (c : Nat → Int) (w : Nat → Nat → Int) : ∀ R, F (upd2 M r (fun k => sumN R fun j => c j * w j k)) = sumN R fun j => c j * F (upd2 M r (w j)) := by
  intro R
  induction R with
  | zero => exact h.zrow hr fun k _ => by simp [upd2, sumN]
  | succ R ih =>
    simp only [sumN]
    rw [h.add hr, ih, h.smul hr]

theorem dvd_sumN {n : Nat} {d : Int} {f : Nat → Int} (h : ∀ i, i < n → d ∣ f i) : d ∣ sumN n f := by
  induction n with
  | zero => exact ⟨0, by simp [sumN]⟩
  | succ n ih => exact Int.dvd_add (ih fun i hi => h i (by omega)) (h n (by omega))

/-- What divides all picks of rows divides all picks of rows of the lattice. -/
theorem AM.dvd (h : AM n N F) {R : Nat} {m : Nat → Nat → Int} {d : Int} (hd : ∀ f : Nat → Nat, (∀ a, a < n → f a < R) → d ∣ F (fun a => m (f a))) :
    ∀ t, t ≤ n → ∀ w : Nat → Nat → Int, (∀ a, a < t → Lat R N m (w a)) → (∀ a, t ≤ a → a < n → ∃ j, j < R ∧ w a = m j) → d ∣ F w := by
  intro t
  induction t with
  | zero =>
    intro _ w _ hw
    have hA : ∀ a, ∃ j, a < n → j < R ∧ w a = m j := fun a => by
      by_cases ha : a < n
      · obtain ⟨j, hj⟩ := hw a (Nat.zero_le _) ha
        exact ⟨j, fun _ => hj⟩
      · exact ⟨0, fun h => absurd h ha⟩
    obtain ⟨f, hf⟩ := Classical.axiomOfChoice hA
    have := hd f (fun a ha => (hf a ha).1)
    rw [h.congr (M := w) (M' := fun a => m (f a)) (fun i k hi _ => by rw [(hf i hi).2])]
    exact this
  | succ t ih =>
    intro ht w hw hw'
    obtain ⟨c, hc⟩ := hw t (by omega)
    have : F w = F (upd2 w t (fun k => sumN R fun j => c j * m j k)) := h.congr fun i k _ hk => by
      unfold upd2
      split
      · rename_i e; rw [e, hc k hk]
      · rfl
    rw [this, h.sum (by omega)]
    refine dvd_sumN fun j hj => Int.dvd_trans (ih (by omega) _ (fun a ha => ?_) (fun a ha ha' => ?_)) (Int.dvd_mul_left _ _)
    · have : upd2 w t (m j) a = w a := by funext k; unfold upd2; rw [if_neg (by omega)]
      rw [this]; exact hw a (by omega)
    · by_cases e : a = t
      · subst e; exact ⟨j, hj, by funext k; unfold upd2; rw [if_pos rfl]⟩
      · obtain ⟨j', hj', e'⟩ := hw' a (by omega) ha'
        exact ⟨j', hj', by rw [← e']; funext k; unfold upd2; rw [if_neg e]⟩

theorem incr_id {s : Nat → Nat} (h : ∀ i, i < n → s i < n) (hm : ∀ i j, i < j → j < n → s i < s j) : ∀ i, i < n → s i = i := by
  have hg := incr_ge h hm
  have up : ∀ d i, i + d + 1 = n → s i = i := by
    intro d
    induction d with
    | zero => intro i hi; have := h i (by omega); have := hg i (by omega); omega
    | succ d ih =>
      intro i hi
      have h1 := ih (i + 1) (by omega)
      have h2 := hm i (i + 1) (by omega) (by omega)
      have h3 := hg i (by omega)
      omega
  intro i hi
  exact up (n - i - 1) i (by omega)

theorem lat_id (v : Nat → Int) : Lat n n idM v := ⟨v, fun k hk => by
  rw [sumN_one hk (fun i _ hne => by unfold idM; rw [if_neg hne, Int.mul_zero])]
  unfold idM; rw [if_pos rfl, Int.mul_one]⟩

/-- Zero at the unit matrix: zero. -/
theorem AM.zero (h : AM n n F) (h0 : F idM = 0) (M : Nat → Nat → Int) : F M = 0 := by
  have : (0 : Int) ∣ F M := by
    refine h.dvd (R := n) (m := idM) (fun f hf => ?_) n (Nat.le_refl _) M (fun a _ => lat_id _) (fun a h1 h2 => absurd h2 (by omega))
    rcases h.sort idM n _ f (fun a ha => Nat.le_of_lt (hf a ha)) (Nat.le_refl _) with e | ⟨g, s, hs, hg, hm, e⟩
    · rw [e]; exact Int.dvd_refl _
    · have hi := incr_id (s := g) (fun i hi => by obtain ⟨b, hb, eb⟩ := hg i hi; rw [eb]; exact hf b hb) hm
      rw [e, h.congr (M := fun a => idM (g a)) (M' := idM) (fun i k hi' _ => by rw [hi i hi']), h0, Int.mul_zero]
      exact Int.dvd_refl _
  exact Int.zero_dvd.1 this
end

theorem det_id (n : Nat) : det n idM = 1 := by
  induction n with
  | zero => rfl
  | succ n ih =>
    simp only [det]
    rw [sumN_one (j := 0) (by omega) (fun i _ hne => by unfold idM; rw [if_neg hne]; omega)]
    rw [det_congr n (M' := idM) (fun a b _ _ => by unfold idM skip; simp)]
    rw [ih]; rfl

theorem AM.eval {n : Nat} {F : (Nat → Nat → Int) → Int} (h : AM n n F) (M : Nat → Nat → Int) : F M = det n M * F idM := by
  have hd := det_am n
  have : AM n n (fun M => F M - det n M * F idM) := by
    refine ⟨fun {M M'} e => ?_, fun {M r a b u w} hr => ?_, fun {M r} hr e => ?_⟩
    · show F M - det n M * F idM = F M' - det n M' * F idM
      rw [h.congr e, hd.congr e]
    · show F _ - det n _ * F idM = a * (F _ - det n _ * F idM) + b * (F _ - det n _ * F idM)
      rw [h.lin hr, hd.lin hr]
      ((try simp only [Int.mul_add, Int.add_mul, Int.mul_sub, Int.sub_mul, Int.neg_mul, Int.mul_neg, Int.mul_assoc, Int.mul_comm, Int.mul_left_comm]) <;> omega)
    · show F M - det n M * F idM = 0
      rw [h.alt hr e, hd.alt hr e]; omega
  have h0 := this.zero (by show F idM - det n idM * F idM = 0; rw [det_id]; omega) M
  have h1 : F M - det n M * F idM = 0 := h0
  omega

/-- The product of matrices. -/
def mulM (n : Nat) (A B : Nat → Nat → Int) : Nat → Nat → Int := fun i k => sumN n fun j => A i j * B j k

theorem det_mul (n : Nat) (A B : Nat → Nat → Int) : det n (mulM n A B) = det n A * det n B := by
  have hd := det_am n
  have : AM n n (fun A => det n (mulM n A B)) := by
    refine ⟨fun {M M'} e => ?_, fun {M r a b u w} hr => ?_, fun {M r} hr e => ?_⟩
    · exact hd.congr fun i k hi hk => sumN_congr fun j hj => by rw [e i j hi hj]
    · have hu : ∀ v, mulM n (upd2 M r v) B = upd2 (mulM n M B) r (fun k => sumN n fun j => v j * B j k) := fun v => by
        funext i k
        unfold mulM upd2
        split <;> rfl
      show det n (mulM n _ B) = a * det n (mulM n _ B) + b * det n (mulM n _ B)
      rw [hu, hu, hu, ← hd.lin hr]
      congr 2
      funext k
      rw [← sumN_mul, ← sumN_mul, ← sumN_add]
      exact sumN_congr fun j _ => by ((try simp only [Int.mul_add, Int.add_mul, Int.mul_sub, Int.sub_mul, Int.neg_mul, Int.mul_neg, Int.mul_assoc, Int.mul_comm, Int.mul_left_comm]) <;> omega)
    · exact hd.alt hr fun k hk => sumN_congr fun j hj => by rw [e j hj]
  have h1 := this.eval A
  have h2 : det n (mulM n idM B) = det n B := det_congr n fun i k hi _ => by
    unfold mulM
    rw [sumN_one hi (fun j _ hne => by unfold idM; rw [if_neg (fun h => hne h.symm), Int.zero_mul])]
    unfold idM; rw [if_pos rfl, Int.one_mul]
  rw [← h2]
  exact h1

def trn (M : Nat → Nat → Int) : Nat → Nat → Int := fun i k => M k i

theorem sumN_succ' (n : Nat) (f : Nat → Int) : sumN (n + 1) f = f 0 + sumN n fun i => f (i + 1) := by
  induction n with
  | zero => simp [sumN]
  | succ n ih =>
    rw [sumN, ih]
    simp only [sumN]
    omega

theorem det_tr : ∀ n, (∀ M, det n (trn M) = det n M) ∧ ∀ M, det (n + 1) (trn M) = det (n + 1) M := by
  intro n
  induction n with
  | zero =>
    refine ⟨fun M => rfl, fun M => ?_⟩
    simp [det, sumN, trn]
  | succ n ih =>
    refine ⟨ih.2, ?_⟩
    have key : ∀ M, det (n + 2) M = M 0 0 * det (n + 1) (fun x y => M (x + 1) (y + 1)) + sumN (n + 1) fun a => sumN (n + 1) fun b => sgn (a + 1) * sgn b * (M (a + 1) 0 * M 0 (b + 1)) * det n (fun x y => M (skip a x + 1) (skip b y + 1)) := by
      intro M
      rw [det, sumN_succ']
      congr 1
      · have e : (fun a b => M (skip 0 a) (b + 1)) = fun x y => M (x + 1) (y + 1) := by funext a b; simp [skip]
        rw [e]; simp [sgn]
      · refine sumN_congr fun a ha => ?_
        rw [← ih.2, det, ← sumN_mul, ← sumN_mul]
        refine sumN_congr fun b hb => ?_
        rw [← ih.1]
        have e : (trn fun p q => trn (fun p q => M (skip (a + 1) p) (q + 1)) (skip b p) (q + 1)) = fun x y => M (skip a x + 1) (skip b y + 1) := by
          funext x y
          show M (skip (a + 1) (x + 1)) (skip b y + 1) = _
          congr 1
          unfold skip
          split <;> split <;> omega
        rw [e]
        have e0 : trn (fun p q => M (skip (a + 1) p) (q + 1)) b 0 = M 0 (b + 1) := by
          show M (skip (a + 1) 0) (b + 1) = _
          simp [skip]
        rw [e0]
        ((try simp only [Int.mul_add, Int.add_mul, Int.mul_sub, Int.sub_mul, Int.neg_mul, Int.mul_neg, Int.mul_assoc, Int.mul_comm, Int.mul_left_comm]) <;> omega)
    intro M
    rw [key M, key (trn M)]
    congr 1
    · show M 0 0 * det (n + 1) (trn fun x y => M (x + 1) (y + 1)) = _
      rw [ih.2]
    · rw [sumN_swap]
      refine sumN_congr fun a ha => sumN_congr fun b hb => ?_
      have e : (fun x y => trn M (skip b x + 1) (skip a y + 1)) = trn fun x y => M (skip a x + 1) (skip b y + 1) := rfl
      rw [e, ih.1, sgn_succ, sgn_succ]
      show - sgn b * sgn a * (M 0 (b + 1) * M (a + 1) 0) * _ = _
      ((try simp only [Int.mul_add, Int.add_mul, Int.mul_sub, Int.sub_mul, Int.neg_mul, Int.mul_neg, Int.mul_assoc, Int.mul_comm, Int.mul_left_comm]) <;> omega)

theorem det_trn (n : Nat) (M : Nat → Nat → Int) : det n (trn M) = det n M := (det_tr n).1 M

def prodN : Nat → (Nat → Int) → Int
  | 0, _ => 1
  | n + 1, f => prodN n f * f n
theorem prodN_succ' (n : Nat) (f : Nat → Int) : prodN (n + 1) f = f 0 * prodN n fun i => f (i + 1) := by
  induction n with
  | zero => simp [prodN]
  | succ n ih =>
    rw [prodN, ih]
    simp only [prodN]
    rw [Int.mul_assoc]
theorem prodN_congr {n : Nat} {f g : Nat → Int} (h : ∀ i, i < n → f i = g i) : prodN n f = prodN n g := by
  induction n with
  | zero => rfl
  | succ n ih => simp only [prodN]; rw [ih (fun i hi => h i (by omega)), h n (by omega)]

/-- Of an upper triangular matrix. -/
theorem det_upper : ∀ (n : Nat) (M : Nat → Nat → Int), (∀ i k, k < i → i < n → M i k = 0) → det n M = prodN n fun i => M i i := by
  intro n
  induction n with
  | zero => intro M _; rfl
  | succ n ih =>
    intro M h
    rw [det, prodN_succ', sumN_one (j := 0) (by omega) (fun i hi hne => by rw [h i 0 (by omega) hi]; omega)]
    have e : (fun a b => M (skip 0 a) (b + 1)) = fun x y => M (x + 1) (y + 1) := by funext a b; simp [skip]
    rw [e, ih _ (fun i k hki hi => h _ _ (by omega) (by omega))]
    simp [sgn]
end Go.Proofs.YtdbpkoddfcdhdaaGreat

namespace Go.Proofs.YtdbpkoddfcdhdaaGreat

/-- The elements of a matrix. -/
def en (m : List (List Int)) : Nat → Nat → Int := fun i k => (m.getD i []).getD k 0

/-- Twice the size is below 2^E. -/
def Bt (x : Int) (E : Nat) : Prop := 2 * x.natAbs < 2 ^ E

theorem Bt.mono {x : Int} {E F : Nat} (h : Bt x E) (hle : E ≤ F) : Bt x F := Nat.lt_of_lt_of_le h (Nat.pow_le_pow_right (by omega) hle)
theorem Bt.pos {x : Int} {E : Nat} (h : Bt x E) : 0 < E ∨ x = 0 := by
  rcases Nat.eq_zero_or_pos E with e | e
  · subst e; unfold Bt at h; simp at h; omega
  · exact .inl e
theorem Bt.zero {E : Nat} : Bt 0 E := by unfold Bt; exact Nat.lt_of_lt_of_le (by decide) (Nat.one_le_two_pow)
theorem Bt.neg {x : Int} {E : Nat} (h : Bt x E) : Bt (-x) E := by unfold Bt at *; rw [Int.natAbs_neg]; exact h
theorem sz_bits {x : Int} {E n : Nat} (h : Bt x E) (he : E ≤ 32 * n) : sz x ≤ n := by
  refine words_le_of_lt ?_
  have h1 : (4294967296 : Nat) ^ n = 2 ^ (32 * n) := by rw [Nat.pow_mul]
  rw [h1]
  have h2 : 2 ^ E ≤ 2 ^ (32 * n) := Nat.pow_le_pow_right (by omega) he
  unfold Bt at h
  omega

theorem two_mul_lt {a b : Nat} {E F : Nat} (ha : 2 * a < 2 ^ E) (hb : 2 * b ≤ 2 ^ F) : 4 * (a * b) < 2 ^ (E + F) ∨ b = 0 := by
  rcases Nat.eq_zero_or_pos b with e | e
  · exact .inr e
  · left
    rw [Nat.pow_add]
    have h1 : 2 * a * (2 * b) < 2 ^ E * (2 * b) := Nat.mul_lt_mul_of_pos_right ha (by omega)
    have h2 : 2 ^ E * (2 * b) ≤ 2 ^ E * 2 ^ F := Nat.mul_le_mul_left _ hb
    have h3 : 2 * a * (2 * b) = 4 * (a * b) := by rw [Nat.mul_mul_mul_comm]
    omega
theorem quarter {a b : Nat} {E F : Nat} (ha : 2 * a < 2 ^ E) (hb : 2 * b ≤ 2 ^ F) : 4 * (a * b) < 2 ^ (E + F) := by
  rcases two_mul_lt ha hb with h | h
  · exact h
  · subst h; simp; exact Nat.pow_pos (by omega)

theorem Bt.comb {a b u v : Int} {E F x y : Nat} (ha : Bt a F) (hb : Bt b E) (hu : u.natAbs ≤ y) (hy : 2 * y < 2 ^ E) (hv : v.natAbs ≤ x) (hx : 2 * x ≤ 2 ^ F) : Bt (u * a + v * b) (E + F) := by
  unfold Bt at *
  have h1 := quarter (a := y) (b := a.natAbs) hy (Nat.le_of_lt ha)
  have h2 := quarter (a := b.natAbs) (b := x) hb hx
  have h3 : (u * a).natAbs ≤ y * a.natAbs := by rw [Int.natAbs_mul]; exact Nat.mul_le_mul_right _ hu
  have h4 : (v * b).natAbs ≤ b.natAbs * x := by rw [Int.natAbs_mul, Nat.mul_comm]; exact Nat.mul_le_mul_left _ hv
  have h5 := Int.natAbs_add_le (u * a) (v * b)
  omega

theorem Bt.less {a b q : Int} {E F : Nat} {x : Nat} (ha : Bt a E) (hb : Bt b F) (hq : q.natAbs ≤ x) (hx : 2 * x < 2 ^ E) (hF : 0 < F) : Bt (a - q * b) (E + F) := by
  unfold Bt at *
  have h1 := quarter (a := x) (b := b.natAbs) hx (Nat.le_of_lt hb)
  have h3 : (q * b).natAbs ≤ x * b.natAbs := by rw [Int.natAbs_mul]; exact Nat.mul_le_mul_right _ hq
  have h5 : (a - q * b).natAbs ≤ a.natAbs + (q * b).natAbs := by omega
  have h6 : 2 ^ (E + 1) ≤ 2 ^ (E + F) := Nat.pow_le_pow_right (by omega) (by omega)
  rw [Nat.pow_succ] at h6
  omega

/-- The bound of the bits when row rows are done. -/
def eb (R E : Nat) : Nat → Nat
  | 0 => E
  | r + 1 => (R - r + 1) * eb R E r
theorem eb_succ (R E r : Nat) : eb R E (r + 1) = (R - r) * eb R E r + eb R E r := by simp [eb, Nat.add_mul]
theorem eb_pos {R E : Nat} (hE : 0 < E) : ∀ r, 0 < eb R E r
  | 0 => hE
  | r + 1 => by rw [eb_succ]; have := eb_pos (R := R) hE r; omega
theorem eb_le {R E r : Nat} (hR : R ≤ 5) (hr : r ≤ R) : eb R E r ≤ 720 * E := by
  have h : ∀ R, R ≤ 5 → ∀ r, r ≤ R → eb R 1 r ≤ 720 := by decide
  have hm : ∀ r, eb R E r = eb R 1 r * E := by
    intro r
    induction r with
    | zero => simp [eb]
    | succ r ih => simp only [eb]; rw [ih, Nat.mul_assoc]
  rw [hm]
  exact Nat.mul_le_mul_right _ (h R hR r hr)

/-- The first row rows are a Hermite normal form on the first col columns; below them there are zeros. -/
structure Ech (R row col : Nat) (m : Nat → Nat → Int) (piv : Nat → Nat) : Prop where
  lt : ∀ i, i < row → piv i < col
  mono : ∀ i j, i < j → j < row → piv i < piv j
  pos : ∀ i, i < row → 0 < m i (piv i)
  zero : ∀ i k, i < row → k < piv i → m i k = 0
  red : ∀ j i, j < i → i < row → 0 ≤ m j (piv i) ∧ m j (piv i) < m i (piv i)
  rest : ∀ i k, row ≤ i → i < R → k < col → m i k = 0

/-- The same lattice. -/
def SameL (R N : Nat) (m m0 : Nat → Nat → Int) : Prop := ∀ v, Lat R N m v ↔ Lat R N m0 v
theorem SameL.step {R N : Nat} {m m' m0 : Nat → Nat → Int} (h : SameL R N m m0) (a : ∀ i, i < R → Lat R N m (m' i)) (b : ∀ i, i < R → Lat R N m' (m i)) : SameL R N m' m0 :=
  fun v => ⟨fun hv => (h v).1 (Lat.trans a hv), fun hv => Lat.trans b ((h v).2 hv)⟩

structure G1 (R N : Nat) (m0 : List (List Int)) (E row col : Nat) (m : List (List Int)) : Prop where
  r : row ≤ R
  c : col ≤ N
  sh : Shape R N m
  sl : SameL R N (en m) (en m0)
  ec : ∃ piv, Ech R row col (en m) piv
  bt : ∀ j k, Bt (en m j k) (eb R E row)

structure G2 (R N : Nat) (m0 : List (List Int)) (E row col i : Nat) (m : List (List Int)) : Prop where
  r : row < R
  c : col < N
  i1 : row < i
  i2 : i ≤ R
  sh : Shape R N m
  sl : SameL R N (en m) (en m0)
  ec : ∃ piv, Ech R row col (en m) piv
  z : ∀ j, row < j → j < i → en m j col = 0
  b1 : ∀ j k, (j < row ∨ i ≤ j) → Bt (en m j k) (eb R E row)
  b2 : ∀ j k, Bt (en m j k) ((i - row) * eb R E row)
  b0 : en m row col = 0 → ∀ j k, Bt (en m j k) (eb R E row)

structure G3 (R N : Nat) (m0 : List (List Int)) (E row col i : Nat) (m : List (List Int)) : Prop where
  r : row < R
  c : col < N
  i2 : i ≤ row
  sh : Shape R N m
  sl : SameL R N (en m) (en m0)
  ec : ∃ piv, Ech R row col (en m) piv
  p : 0 < en m row col
  z : ∀ j, row < j → j < R → en m j col = 0
  q : ∀ j, j < i → 0 ≤ en m j col ∧ en m j col < en m row col
  b1 : ∀ j k, i ≤ j → j < row → Bt (en m j k) (eb R E row)
  b2 : ∀ j k, row ≤ j → Bt (en m j k) ((R - row) * eb R E row)
  b3 : ∀ j k, j < i → Bt (en m j k) (eb R E (row + 1))

theorem en_set {m : List (List Int)} {r : Nat} (h : r < m.length) (v : List Int) (i k : Nat) : en (m.set r v) i k = if i = r then v.getD k 0 else en m i k := by
  unfold en
  split
  · rename_i e; rw [e, mgetD_set_same h]
  · rename_i e; rw [mgetD_set_other (fun h => e h.symm)]
theorem Shape.set {R N : Nat} {m : List (List Int)} (h : Shape R N m) {r : Nat} {v : List Int} (hr : r < R) (hv : v.length = N) : Shape R N (m.set r v) := by
  refine ⟨by rw [List.length_set]; exact h.1, fun i hi => ?_⟩
  by_cases e : r = i
  · subst e; rw [mgetD_set_same (by rw [h.1]; exact hr)]; exact hv
  · rw [mgetD_set_other e]; exact h.2 i hi
theorem en_out {R N : Nat} {m : List (List Int)} (h : Shape R N m) {i k : Nat} (hk : N ≤ k) : en m i k = 0 := by
  unfold en
  rcases Nat.lt_or_ge i R with hi | hi
  · have := h.2 i hi
    simp only [List.getD_eq_getElem?_getD] at this ⊢
    rw [List.getElem?_eq_none (by omega)]; rfl
  · rw [show m.getD i [] = [] by simp [List.getD_eq_getElem?_getD, List.getElem?_eq_none (show m.length ≤ i by rw [h.1]; exact hi)]]; rfl
theorem range_at (F : Nat → Int) (n k : Nat) : ((List.range n).map F).getD k 0 = if k < n then F k else 0 := by
  split
  · rename_i h; exact getD_map_range F h
  · rename_i h; simp [List.getD_eq_getElem?_getD, List.getElem?_eq_none (show ((List.range n).map F).length ≤ k by simpa using h)]

section
variable {R N : Nat} {m0 : List (List Int)} {E : Nat}

theorem SameL.refl {R N : Nat} (m : Nat → Nat → Int) : SameL R N m m := fun _ => Iff.rfl

theorem Bt.sz {r : Nat} (hE : 720 * E ≤ 4398046511104) (hR : R ≤ 5) (hr : r ≤ R) {x : Int} (h : Bt x (eb R E r)) : sz x ≤ 137438953472 :=
  sz_bits h (by have := eb_le (E := E) hR hr; omega)

theorem eb_step {row i : Nat} (hr : row < R) (hi : i ≤ R) : (i - row) * eb R E row ≤ eb R E (row + 1) := by
  rw [eb_succ]
  have : (i - row) * eb R E row ≤ (R - row) * eb R E row := Nat.mul_le_mul_right _ (by omega)
  omega
theorem eb_up (row : Nat) : eb R E row ≤ eb R E (row + 1) := by rw [eb_succ]; omega
theorem eb_one {row i : Nat} (h : row < i) : eb R E row ≤ (i - row) * eb R E row := by
  have := Nat.mul_le_mul_right (eb R E row) (show 1 ≤ i - row by omega)
  omega

theorem en_comb {u v : Int} {a b : List Int} (h : a.length = N) {k : Nat} (hk : k < N) : (comb u a v b).getD k 0 = u * a.getD k 0 + v * b.getD k 0 := by
  rw [comb, range_at, if_pos (by omega)]
theorem en_comb2 {p q : Int} {a b : List Int} (h : a.length = N) {k : Nat} (hk : k < N) : (comb2 p b q a).getD k 0 = p * b.getD k 0 - q * a.getD k 0 := by
  rw [comb2, range_at, if_pos (by omega)]

/-- What Bezout's numbers are for two rows. -/
theorem bez_facts {x y u v : Int} (hy : y ≠ 0) (h : BezP x y u v) :
    0 < (Int.gcd x y : Int) ∧ u * x + v * y = Int.gcd x y ∧ u * (x / Int.gcd x y) + v * (y / Int.gcd x y) = 1 ∧ (x / Int.gcd x y) * y = (y / Int.gcd x y) * x := by
  have hg : 0 < (Int.gcd x y : Int) := by
    have : Int.gcd x y ≠ 0 := fun h => hy (Int.gcd_eq_zero_iff.1 h).2
    omega
  have hx' : x = x / Int.gcd x y * Int.gcd x y := (Int.ediv_mul_cancel (Int.gcd_dvd_left ..)).symm
  have hy' : y = y / Int.gcd x y * Int.gcd x y := (Int.ediv_mul_cancel (Int.gcd_dvd_right ..)).symm
  refine ⟨hg, h.eq, ?_, ?_⟩
  · have e := h.eq
    generalize (Int.gcd x y : Int) = g at *
    generalize x / g = X at *
    generalize y / g = Y at *
    have : (u * X + v * Y) * g = 1 * g := by
      rw [Int.one_mul, Int.add_mul, Int.mul_assoc, Int.mul_assoc, ← hx', ← hy']
      exact e
    exact Int.eq_of_mul_eq_mul_right (by omega) this
  · generalize (Int.gcd x y : Int) = g at *
    generalize x / g = X at *
    generalize y / g = Y at *
    rw [hx', hy', ← Int.mul_assoc, ← Int.mul_assoc, Int.mul_comm X]

theorem gplan (hE0 : 0 < E) (hE : 720 * E ≤ 4398046511104) (hR : R ≤ 5) : Plan R N N (G1 R N m0 E) (G2 R N m0 E) (G3 R N m0 E) where
  s1 := fun h => h.sh
  s2 := fun {row col i m} h => ⟨h.sh, fun j k => Bt.sz (r := row + 1) hE hR (by have := h.r; omega) ((h.b2 j k).mono (eb_step h.r h.i2))⟩
  s3 := fun {row col i m} h => ⟨h.sh, fun j k => by
      have hr := h.r
      refine Bt.sz (r := row + 1) hE hR (by omega) ?_
      rcases Nat.lt_or_ge j i with h1 | h1
      · exact h.b3 j k h1
      · rcases Nat.lt_or_ge j row with h2 | h2
        · exact (h.b1 j k h1 h2).mono (eb_up _)
        · exact (h.b2 j k h2).mono (eb_step hr (Nat.le_refl _)), by have := h.p; unfold en at this; omega⟩
  start := fun {row col m} h hc hr => ⟨hr, hc, by omega, by omega, h.sh, h.sl, h.ec, fun j h1 h2 => by omega, fun j k _ => h.bt j k, fun j k => (h.bt j k).mono (eb_one (by omega)), fun _ j k => h.bt j k⟩
  skip := fun {row col i m} h hi h0 => ⟨h.r, h.c, by have := h.i1; omega, by omega, h.sh, h.sl, h.ec, fun j h1 h2 => by
      rcases Nat.lt_or_ge j i with h3 | h3
      · exact h.z j h1 h3
      · obtain rfl : j = i := by omega
        exact h0, fun j k hj => h.b1 j k (by omega), fun j k => (h.b2 j k).mono (Nat.mul_le_mul_right _ (by omega)), h.b0⟩
  mix := fun {row col i m u v} h hri hi hc h0 hb => by
    have hb' : BezP (en m row col) (en m i col) u v := hb
    have h0' : en m i col ≠ 0 := h0
    obtain ⟨hg, e1, e2, e3⟩ := bez_facts h0' hb'
    have bX := hb'.v1
    have bY := hb'.u1
    change G2 R N m0 E row col (i + 1) ((m.set row (comb u (m.getD row []) v (m.getD i []))).set i (comb2 (en m row col / Int.gcd (en m row col) (en m i col)) (m.getD i []) (en m i col / Int.gcd (en m row col) (en m i col)) (m.getD row [])))
    clear hb hb' h0
    have hdx := Int.natAbs_ediv_le_natAbs (en m row col) (Int.gcd (en m row col) (en m i col))
    have hdy := Int.natAbs_ediv_le_natAbs (en m i col) (Int.gcd (en m row col) (en m i col))
    generalize (Int.gcd (en m row col) (en m i col) : Int) = g at *
    generalize hX : en m row col = x at *
    generalize hY : en m i col = y at *
    generalize x / g = p at *
    generalize y / g = q at *
    have hr := h.r
    have hm := h.sh.1
    have hRl := h.sh.2 row hr
    have hIl := h.sh.2 i hi
    have sh' : Shape R N ((m.set row (comb u (m.getD row []) v (m.getD i []))).set i (comb2 p (m.getD i []) q (m.getD row []))) :=
      (h.sh.set hr (by rw [comb, List.length_map, List.length_range]; exact hRl)).set hi (by rw [comb2, List.length_map, List.length_range]; exact hRl)
    have hen : ∀ j k, k < N → en ((m.set row (comb u (m.getD row []) v (m.getD i []))).set i (comb2 p (m.getD i []) q (m.getD row []))) j k =
        if j = i then p * en m i k - q * en m row k else if j = row then u * en m row k + v * en m i k else en m j k := fun j k hk => by
      rw [en_set (by rw [List.length_set, hm]; exact hi), en_set (by rw [hm]; exact hr), en_comb hRl hk, en_comb2 hRl hk]
      rfl
    generalize ((m.set row (comb u (m.getD row []) v (m.getD i []))).set i (comb2 p (m.getD i []) q (m.getD row []))) = m' at *
    have hout : ∀ j k, N ≤ k → en m' j k = 0 := fun j k hk => en_out sh' hk
    obtain ⟨piv, ec⟩ := h.ec
    have old : ∀ j, j < row → ∀ k, en m' j k = en m j k := fun j hj k => by
      rcases Nat.lt_or_ge k N with hk | hk
      · rw [hen j k hk, if_neg (by omega), if_neg (by omega)]
      · rw [hout j k hk, en_out h.sh hk]
    refine ⟨hr, hc, by omega, by omega, sh', ?_, ⟨piv, ?_⟩, ?_, ?_, ?_, ?_⟩
    · refine h.sl.step (fun j hj => ?_) (fun j hj => ?_)
      · by_cases h1 : j = i
        · subst h1
          exact (((Lat.row hi).smul p).sub ((Lat.row hr).smul q)).congr fun k hk => by rw [hen _ k hk, if_pos rfl]
        · by_cases h2 : j = row
          · subst h2
            exact (((Lat.row hr).smul u).add ((Lat.row hi).smul v)).congr fun k hk => by rw [hen _ k hk, if_neg h1, if_pos rfl]
          · exact (Lat.row hj).congr fun k hk => by rw [hen _ k hk, if_neg h1, if_neg h2]
      · have eqr : ∀ k, k < N → en m' row k = u * en m row k + v * en m i k := fun k hk => by rw [hen _ k hk, if_neg (by omega), if_pos rfl]
        have eqi : ∀ k, k < N → en m' i k = p * en m i k - q * en m row k := fun k hk => by rw [hen _ k hk, if_pos rfl]
        by_cases h1 : j = i
        · subst h1
          exact (((Lat.row (m := en m') hr).smul q).add ((Lat.row hi).smul u)).congr fun k hk => by
            rw [eqr k hk, eqi k hk]
            have : q * (u * en m row k + v * en m j k) + u * (p * en m j k - q * en m row k) = (u * p + v * q) * en m j k := by ((try simp only [Int.mul_add, Int.add_mul, Int.mul_sub, Int.sub_mul, Int.neg_mul, Int.mul_neg, Int.mul_assoc, Int.mul_comm, Int.mul_left_comm]) <;> omega)
            rw [this, e2, Int.one_mul]
        · by_cases h2 : j = row
          · subst h2
            exact (((Lat.row (m := en m') hr).smul p).sub ((Lat.row hi).smul v)).congr fun k hk => by
              rw [eqr k hk, eqi k hk]
              have : p * (u * en m j k + v * en m i k) - v * (p * en m i k - q * en m j k) = (u * p + v * q) * en m j k := by ((try simp only [Int.mul_add, Int.add_mul, Int.mul_sub, Int.sub_mul, Int.neg_mul, Int.mul_neg, Int.mul_assoc, Int.mul_comm, Int.mul_left_comm]) <;> omega)
              rw [this, e2, Int.one_mul]
          · exact (Lat.row (m := en m') hj).congr fun k hk => by rw [hen _ k hk, if_neg h1, if_neg h2]
    · refine ⟨ec.lt, ec.mono, fun j hj => by rw [old j hj]; exact ec.pos j hj, fun j k hj hk => by rw [old j hj]; exact ec.zero j k hj hk, fun a b hab hb => by rw [old a (by omega), old b hb]; exact ec.red a b hab hb, fun j k h1 h2 h3 => ?_⟩
      rw [hen j k (by omega)]
      have z1 := ec.rest row k (Nat.le_refl _) hr h3
      have z2 := ec.rest i k (by omega) hi h3
      split
      · rw [z1, z2]; omega
      · split
        · rw [z1, z2]; omega
        · exact ec.rest j k h1 h2 h3
    · intro j h1 h2
      rw [hen j col hc]
      split
      · rw [hX, hY]; omega
      · rw [if_neg (by omega)]; exact h.z j h1 (by omega)
    · intro j k hj
      rcases Nat.lt_or_ge k N with hk | hk
      · rw [hen j k hk, if_neg (by omega), if_neg (by omega)]; exact h.b1 j k (by omega)
      · rw [hout j k hk]; exact Bt.zero
    · intro j k
      have hee : (i + 1 - row) * eb R E row = eb R E row + (i - row) * eb R E row := by
        rw [show i + 1 - row = (i - row) + 1 by omega, Nat.add_mul]; omega
      rw [hee]
      have hbx := h.b2 row col
      have hby := h.b1 i col (.inr (Nat.le_refl _))
      rw [hX] at hbx
      rw [hY] at hby
      unfold Bt at hbx hby
      have hF : 0 < (i - row) * eb R E row := Nat.mul_pos (by omega) (eb_pos hE0 _)
      have hev : 2 * (x.natAbs + 1) ≤ 2 ^ ((i - row) * eb R E row) := by
        generalize (i - row) * eb R E row = F at *
        obtain ⟨f, rfl⟩ : ∃ f, F = f + 1 := ⟨F - 1, by omega⟩
        rw [Nat.pow_succ] at hbx ⊢
        omega
      rcases Nat.lt_or_ge k N with hk | hk
      · rw [hen j k hk]
        split
        · have := Bt.comb (a := en m row k) (b := en m i k) (u := -q) (v := p) (E := eb R E row) (F := (i - row) * eb R E row) (y := y.natAbs) (x := x.natAbs) (h.b2 row k) (h.b1 i k (.inr (Nat.le_refl _))) (by omega) hby (by omega) (by omega)
          rw [show p * en m i k - q * en m row k = -q * en m row k + p * en m i k by rw [Int.neg_mul]; omega]
          exact this
        · split
          · exact Bt.comb (y := y.natAbs) (x := x.natAbs + 1) (h.b2 row k) (h.b1 i k (.inr (Nat.le_refl _))) (by omega) hby (by omega) (by omega)
          · exact (h.b2 j k).mono (by omega)
      · rw [hout j k hk]; exact Bt.zero
    · intro hz
      rw [hen row col hc, if_neg (by omega), if_pos rfl, hX, hY] at hz
      omega
  none := fun {row col m} h h0 => by
    obtain ⟨piv, ec⟩ := h.ec
    have hc := h.c
    refine ⟨Nat.le_of_lt h.r, hc, h.sh, h.sl, ⟨piv, ⟨fun i hi => by have := ec.lt i hi; omega, ec.mono, ec.pos, ec.zero, ec.red, fun i k h1 h2 h3 => ?_⟩⟩, h.b0 h0⟩
    by_cases e : k = col
    · subst e
      by_cases e2 : i = row
      · subst e2; exact h0
      · exact h.z i (by omega) h2
    · exact ec.rest i k h1 h2 (by omega)
  pos := fun {row col m} h h0 => ⟨h.r, h.c, Nat.zero_le _, h.sh, h.sl, h.ec, h0, fun j h1 h2 => h.z j h1 h2, fun j hj => absurd hj (Nat.not_lt_zero j), fun j k _ hj => h.b1 j k (.inl hj), fun j k _ => h.b2 j k, fun j k hj => absurd hj (Nat.not_lt_zero j)⟩
  neg := fun {row col m} h h0 => by
    have hr := h.r
    have hc := h.c
    have hm := h.sh.1
    have hRl := h.sh.2 row hr
    have sh' : Shape R N (m.set row (negR (m.getD row []))) := h.sh.set hr (by rw [negR, List.length_map, List.length_range]; exact hRl)
    have hen : ∀ j k, en (m.set row (negR (m.getD row []))) j k = if j = row then - en m row k else en m j k := fun j k => by
      rw [en_set (by rw [hm]; exact hr)]
      split
      · rw [negR, range_at]
        split
        · rfl
        · rename_i hk
          have : en m row k = 0 := en_out h.sh (by omega)
          rw [this]; rfl
      · rfl
    generalize m.set row (negR (m.getD row [])) = m' at *
    obtain ⟨piv, ec⟩ := h.ec
    have old : ∀ j, j < row → ∀ k, en m' j k = en m j k := fun j hj k => by rw [hen, if_neg (by omega)]
    have h0' : en m row col < 0 := h0
    refine ⟨hr, hc, Nat.zero_le _, sh', ?_, ⟨piv, ?_⟩, ?_, ?_, fun j hj => absurd hj (Nat.not_lt_zero j), ?_, ?_, fun j k hj => absurd hj (Nat.not_lt_zero j)⟩
    · refine h.sl.step (fun j hj => ?_) (fun j hj => ?_)
      · by_cases e : j = row
        · subst e
          exact ((Lat.row hr).smul (-1)).congr fun k _ => by rw [hen, if_pos rfl]; omega
        · exact (Lat.row hj).congr fun k _ => by rw [hen, if_neg e]
      · by_cases e : j = row
        · subst e
          exact ((Lat.row (m := en m') hr).smul (-1)).congr fun k _ => by rw [hen, if_pos rfl]; omega
        · exact (Lat.row (m := en m') hj).congr fun k _ => by rw [hen, if_neg e]
    · refine ⟨ec.lt, ec.mono, fun j hj => by rw [old j hj]; exact ec.pos j hj, fun j k hj hk => by rw [old j hj]; exact ec.zero j k hj hk, fun a b hab hb => by rw [old a (by omega), old b hb]; exact ec.red a b hab hb, fun j k h1 h2 h3 => ?_⟩
      rw [hen]
      split
      · rw [ec.rest row k (Nat.le_refl _) hr h3]; rfl
      · exact ec.rest j k h1 h2 h3
    · rw [hen, if_pos rfl]; omega
    · intro j h1 h2
      rw [hen, if_neg (by omega)]; exact h.z j h1 h2
    · intro j k _ hj
      rw [hen, if_neg (by omega)]; exact h.b1 j k (.inl hj)
    · intro j k hj
      rw [hen]
      split
      · exact (h.b2 row k).neg
      · exact h.b2 j k
  red := fun {row col i m} h hr hi => by
    have hc := h.c
    have hm := h.sh.1
    have hIl := h.sh.2 i (by omega)
    have hp : 0 < en m row col := h.p
    have hq : (m.getD i []).getD col 0 / (m.getD row []).getD col 0 = en m i col / en m row col := rfl
    rw [hq]
    have hqb := Int.natAbs_ediv_le_natAbs (en m i col) (en m row col)
    have hm0 := Int.emod_nonneg (en m i col) (b := en m row col) (by omega)
    have hm1 := Int.emod_lt_of_pos (en m i col) hp
    rw [Int.emod_def, Int.mul_comm] at hm0 hm1
    generalize en m i col / en m row col = q at *
    have sh' : Shape R N (m.set i (lessR (m.getD i []) q (m.getD row []))) := h.sh.set (by omega) (by rw [lessR, List.length_map, List.length_range]; exact hIl)
    have hen : ∀ j k, en (m.set i (lessR (m.getD i []) q (m.getD row []))) j k = if j = i then en m i k - q * en m row k else en m j k := fun j k => by
      rw [en_set (by rw [hm]; omega)]
      split
      · rw [lessR, range_at]
        split
        · rfl
        · rename_i hk
          have z1 : en m i k = 0 := en_out h.sh (by omega)
          have z2 : en m row k = 0 := en_out h.sh (by omega)
          rw [z1, z2]; omega
      · rfl
    generalize m.set i (lessR (m.getD i []) q (m.getD row [])) = m' at *
    obtain ⟨piv, ec⟩ := h.ec
    have old : ∀ j k, k < col → en m' j k = en m j k := fun j k hk => by
      rw [hen]
      split
      · rename_i e
        rw [ec.rest row k (Nat.le_refl _) hr hk, e]; omega
      · rfl
    refine ⟨hr, hc, by omega, sh', ?_, ⟨piv, ?_⟩, ?_, ?_, ?_, ?_, ?_, ?_⟩
    · refine h.sl.step (fun j hj => ?_) (fun j hj => ?_)
      · by_cases e : j = i
        · subst e
          exact ((Lat.row hj).sub ((Lat.row hr).smul q)).congr fun k _ => by rw [hen, if_pos rfl]
        · exact (Lat.row hj).congr fun k _ => by rw [hen, if_neg e]
      · by_cases e : j = i
        · subst e
          exact ((Lat.row (m := en m') hj).add ((Lat.row hr).smul q)).congr fun k _ => by rw [hen, hen, if_pos rfl, if_neg (by omega)]; omega
        · exact (Lat.row (m := en m') hj).congr fun k _ => by rw [hen, if_neg e]
    · refine ⟨ec.lt, ec.mono, fun j hj => ?_, fun j k hj hk => ?_, fun a b hab hb => ?_, fun j k h1 h2 h3 => ?_⟩
      · rw [old j _ (ec.lt j hj)]; exact ec.pos j hj
      · rw [old j k (by have := ec.lt j hj; omega)]; exact ec.zero j k hj hk
      · rw [old a _ (ec.lt b hb), old b _ (ec.lt b hb)]; exact ec.red a b hab hb
      · rw [old j k h3]; exact ec.rest j k h1 h2 h3
    · rw [hen, if_neg (by omega)]; exact hp
    · intro j h1 h2
      rw [hen, if_neg (by omega)]; exact h.z j h1 h2
    · intro j hj
      rw [hen, hen row, if_neg (show ¬ row = i by omega)]
      split
      · omega
      · exact h.q j (by omega)
    · intro j k h1 h2
      rw [hen, if_neg (by omega)]; exact h.b1 j k (by omega) h2
    · intro j k hj
      rw [hen, if_neg (by omega)]; exact h.b2 j k hj
    · intro j k hj
      rw [hen]
      split
      · have e1 := h.b1 i k (Nat.le_refl _) hi
        have e2 := h.b1 i col (Nat.le_refl _) hi
        rw [eb_succ, Nat.add_comm]
        exact Bt.less e1 (h.b2 row k (Nat.le_refl _)) hqb e2 (Nat.mul_pos (by omega) (eb_pos hE0 _))
      · exact h.b3 j k (by omega)
  next := fun {row col m} h => by
    have hr := h.r
    have hc := h.c
    have hp := h.p
    obtain ⟨piv, ec⟩ := h.ec
    refine ⟨hr, hc, h.sh, h.sl, ⟨fun i => if i = row then col else piv i, ⟨fun i hi => ?_, fun i j hij hj => ?_, fun i hi => ?_, fun i k hi hk => ?_, fun j i hji hi => ?_, fun i k h1 h2 h3 => ?_⟩⟩, fun j k => ?_⟩
    · show (if i = row then col else piv i) < col + 1
      split
      · omega
      · have := ec.lt i (by omega); omega
    · show (if i = row then col else piv i) < (if j = row then col else piv j)
      rw [if_neg (by omega)]
      split
      · exact ec.lt i (by omega)
      · exact ec.mono i j hij (by omega)
    · show 0 < en m i (if i = row then col else piv i)
      split
      · rename_i e; rw [e]; exact hp
      · exact ec.pos i (by omega)
    · by_cases e : i = row
      · subst e
        rw [if_pos rfl] at hk
        exact ec.rest i k (Nat.le_refl _) hr hk
      · rw [if_neg e] at hk
        exact ec.zero i k (by omega) hk
    · show 0 ≤ en m j (if i = row then col else piv i) ∧ en m j (if i = row then col else piv i) < en m i (if i = row then col else piv i)
      by_cases e : i = row
      · rw [if_pos e, e]; exact h.q j (by omega)
      · rw [if_neg e]; exact ec.red j i hji (by omega)
    · by_cases e : k = col
      · subst e; exact h.z i (by omega) h2
      · exact ec.rest i k (by omega) h2 (by omega)
    · rcases Nat.lt_or_ge j row with h1 | h1
      · exact h.b3 j k h1
      · exact (h.b2 j k h1).mono (eb_step hr (Nat.le_refl _))

theorem g1_start {m : List (List Int)} (hs : Shape R N m) (hb : ∀ j k, Bt (en m j k) E) : G1 R N m E 0 0 m :=
  ⟨Nat.zero_le _, Nat.zero_le _, hs, SameL.refl _, ⟨fun _ => 0, ⟨fun i hi => absurd hi (Nat.not_lt_zero i), fun i j _ hj => absurd hj (Nat.not_lt_zero j), fun i hi => absurd hi (Nat.not_lt_zero i), fun i k hi => absurd hi (Nat.not_lt_zero i), fun j i _ hi => absurd hi (Nat.not_lt_zero i), fun i k _ _ hk => absurd hk (Nat.not_lt_zero k)⟩⟩, hb⟩

/-- What is done at the end. -/
theorem G1.done {row col : Nat} {m : List (List Int)} (h : G1 R N m0 E row col m) (he : col = N ∨ row = R) : (∃ piv, Hnf row N (en m) piv) ∧ (∀ i k, row ≤ i → i < R → k < N → en m i k = 0) := by
  obtain ⟨piv, ec⟩ := h.ec
  have hc := h.c
  refine ⟨⟨piv, ⟨fun i hi => by have := ec.lt i hi; omega, ec.mono, ec.pos, ec.zero, ec.red⟩⟩, fun i k h1 h2 h3 => ?_⟩
  rcases he with e | e
  · subst e; exact ec.rest i k h1 h2 h3
  · omega
end
end Go.Proofs.YtdbpkoddfcdhdaaGreat
