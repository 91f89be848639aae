/-
  Rows with units behind them, in Hermite normal form: solutions, and relations. No program.
  The relations of rows; the plan of a matrix that is in Hermite normal form already. No program.
  lattice's functions at small matrices: what they return, in words of lattices.
-/
import Derived.Test.YtdbpkoddfcdhdaaGreatPS
import Derived.Test.YtdbpkoddfcdhdaaGreatPP
import Derived.Test.YtdbpkoddfcdhdaaGreatPK
import Derived.Test.YtdbpkoddfcdhdaaGreatPN
set_option linter.unusedSimpArgs false
set_option linter.unusedVariables false

namespace Go.Proofs.YtdbpkoddfcdhdaaGreat

theorem en_unit {R n : Nat} {m : List (List Int)} (hs : Shape R n m) {i k : Nat} (hi : i < R) : en (unitM m n R) i k = if k < n then en m i k else if k = n + i then 1 else 0 := by
  have hg : (unitM m n R).getD i [] = unitRow m n R i := by simp [unitM, List.getD_eq_getElem?_getD, hi]
  unfold en
  rw [hg, unitRow]
  have hl := hs.2 i hi
  by_cases e : k = n + i
  · subst e
    rw [if_neg (by omega), if_pos rfl, getD_set_same (by rw [List.length_append, hl, List.length_replicate]; omega)]
  · rw [getD_set_other (by omega), if_neg e]
    split
    · rename_i hk
      simp only [List.getD_eq_getElem?_getD] at *
      rw [List.getElem?_append_left (by omega)]
    · rename_i hk
      simp only [List.getD_eq_getElem?_getD] at *
      rw [List.getElem?_append_right (by omega)]
      rcases Nat.lt_or_ge (k - (m[i]?.getD []).length) R with h | h
      · simp [h]
      · rw [List.getElem?_eq_none (by simpa using h)]; rfl
theorem unit_shape {R n : Nat} {m : List (List Int)} (hs : Shape R n m) : Shape R (n + R) (unitM m n R) := by
  refine ⟨by simp [unitM], fun i hi => ?_⟩
  have hg : (unitM m n R).getD i [] = unitRow m n R i := by simp [unitM, List.getD_eq_getElem?_getD, hi]
  rw [hg, unitRow, List.length_set, List.length_append, hs.2 i hi, List.length_replicate]

/-- The rows of a matrix with units behind them, brought to the Hermite normal form; the first r0 rows begin in the matrix. -/
structure Trk (R n : Nat) (m A : List (List Int)) (E r0 : Nat) (piv : Nat → Nat) : Prop where
  sh : Shape R (n + R) A
  hn : Hnf R (n + R) (en A) piv
  sl : SameL R (n + R) (en A) (en (unitM m n R))
  r : r0 ≤ R
  lo : ∀ i, i < r0 → piv i < n
  hi : ∀ i, r0 ≤ i → i < R → n ≤ piv i
  bt : ∀ j k, Bt (en A j k) E

/-- Where increasing numbers pass a bound. -/
theorem split_at {R n : Nat} {piv : Nat → Nat} (hm : ∀ i j, i < j → j < R → piv i < piv j) : ∃ r0, r0 ≤ R ∧ (∀ i, i < r0 → piv i < n) ∧ ∀ i, r0 ≤ i → i < R → n ≤ piv i := by
  by_cases h : ∃ i, i < R ∧ n ≤ piv i
  · obtain ⟨i, h1, h2, h3⟩ := least_of h
    refine ⟨i, by omega, fun j hj => Nat.lt_of_not_le (h3 j hj), fun j hj hjR => ?_⟩
    rcases Nat.eq_or_lt_of_le hj with e | e
    · subst e; exact h2
    · have := hm i j e hjR; omega
  · exact ⟨R, Nat.le_refl _, fun i hi => Nat.lt_of_not_le fun hh => h ⟨i, hi, hh⟩, fun i h1 h2 => absurd h2 (by omega)⟩

/-- All rows are there: the units are. -/
theorem unit_rank {R n row : Nat} {m A : List (List Int)} (hs : Shape R n m) (hr : row ≤ R) (sl : SameL R (n + R) (en A) (en (unitM m n R))) (h0 : ∀ i k, row ≤ i → i < R → k < n + R → en A i k = 0) : row = R := by
  rcases Nat.lt_or_ge row R with hlt | hge
  · have hA : ∀ i, ∃ c : Nat → Int, i < R → ∀ k, k < n + R → en (unitM m n R) i k = sumN R fun j => c j * en A j k := fun i => by
      by_cases hi : i < R
      · obtain ⟨c, hc⟩ := (sl (en (unitM m n R) i)).2 (Lat.row hi)
        exact ⟨c, fun _ => hc⟩
      · exact ⟨fun _ => 0, fun h => absurd h hi⟩
    obtain ⟨C, hC⟩ := Classical.axiomOfChoice hA
    have h1 : det R (mulM R C (fun j k => en A j (n + k))) = 1 := by
      rw [← det_id R]
      refine det_congr R fun i k hi hk => ?_
      have := hC i hi (n + k) (by omega)
      rw [en_unit hs hi, if_neg (by omega)] at this
      unfold mulM
      rw [← this]
      unfold idM
      by_cases e : i = k
      · subst e; rw [if_pos rfl, if_pos rfl]
      · rw [if_neg (by omega), if_neg e]
    rw [det_mul] at h1
    have h2 : det R (fun j k => en A j (n + k)) = 0 := (det_am R).zrow (r := row) hlt fun k hk => h0 row (n + k) (Nat.le_refl _) hlt (by omega)
    rw [h2, Int.mul_zero] at h1
    cases h1
  · omega

theorem trk_of {R n E row col : Nat} {m A : List (List Int)} (hs : Shape R n m) (hR : R ≤ 5) (h : G1 R (n + R) (unitM m n R) E row col A) (he : col = n + R ∨ row = R) : row = R ∧ ∃ r0 piv, Trk R n m A (720 * E) r0 piv := by
  obtain ⟨⟨piv, hn⟩, h0⟩ := h.done he
  have hr := unit_rank hs h.r h.sl h0
  subst hr
  obtain ⟨r0, h1, h2, h3⟩ := split_at (n := n) hn.mono
  exact ⟨rfl, r0, piv, h.sh, hn, h.sl, h1, h2, h3, fun j k => (h.bt j k).mono (eb_le hR (Nat.le_refl _))⟩

section
variable {R n E r0 : Nat} {m A : List (List Int)} {piv : Nat → Nat}

theorem Trk.z (h : Trk R n m A E r0 piv) {i k : Nat} (h1 : r0 ≤ i) (h2 : i < R) (hk : k < n) : en A i k = 0 := h.hn.zero i k h2 (by have := h.hi i h1 h2; omega)

/-- A row of A is the combination of the rows of m by its own units. -/
theorem Trk.own (h : Trk R n m A E r0 piv) (hs : Shape R n m) {i k : Nat} (hi : i < R) (hk : k < n) : en A i k = sumN R fun j => en A i (n + j) * en m j k := by
  obtain ⟨c, hc⟩ := (h.sl (en A i)).1 (Lat.row hi)
  have hcj : ∀ j, j < R → c j = en A i (n + j) := fun j hj => by
    rw [hc (n + j) (by omega), sumN_one hj (fun a ha hne => by rw [en_unit hs ha, if_neg (by omega), if_neg (by omega), Int.mul_zero])]
    rw [en_unit hs hj, if_neg (by omega), if_pos rfl, Int.mul_one]
  rw [hc k (by omega)]
  refine sumN_congr fun j hj => ?_
  rw [en_unit hs hj, if_pos hk, hcj j hj]

/-- The first r0 rows, as far as the matrix goes, are its Hermite normal form. -/
theorem Trk.hnf (h : Trk R n m A E r0 piv) : Hnf r0 n (en A) piv :=
  ⟨h.lo, fun i j hij hj => h.hn.mono i j hij (by have := h.r; omega), fun i hi => h.hn.pos i (by have := h.r; omega), fun i k hi hk => h.hn.zero i k (by have := h.r; omega) hk, fun j i hji hi => h.hn.red j i hji (by have := h.r; omega)⟩

theorem Trk.lat (h : Trk R n m A E r0 piv) (hs : Shape R n m) (v : Nat → Int) : Lat r0 n (en A) v ↔ Lat R n (en m) v := by
  constructor
  · intro hv
    refine Lat.trans (fun i hi => ?_) hv
    exact ⟨fun j => en A i (n + j), fun k hk => h.own hs (by have := h.r; omega) hk⟩
  · intro hv
    refine Lat.trans (fun i hi => ?_) hv
    have h1 : Lat R n (en A) (en (unitM m n R) i) := ((h.sl _).2 (Lat.row hi)).less (by omega)
    exact (h1.cut h.r fun a k ha hb hk => h.z ha hb hk).congr fun k hk => by rw [en_unit hs hi, if_pos hk]

/-- What is left of a vector behind i rows. -/
structure Left (R n : Nat) (A : List (List Int)) (E r0 : Nat) (piv : Nat → Nat) (l : List Int) (F i : Nat) (t : List Int) : Prop where
  len : t.length = n + R
  le : i ≤ r0
  eq : ∃ q : Nat → Int, ∀ k, k < n + R → t.getD k 0 = (if k < n then l.getD k 0 else 0) - sumN i fun j => q j * en A j k
  red : ∀ j, j < i → 0 ≤ t.getD (piv j) 0 ∧ t.getD (piv j) 0 < en A j (piv j)
  bt : ∀ k, Bt (t.getD k 0) (F + i * E)

theorem getD_app_zero {l : List Int} {n R : Nat} (hl : l.length = n) (k : Nat) : (l ++ List.replicate R 0).getD k 0 = if k < n then l.getD k 0 else 0 := by
  simp only [List.getD_eq_getElem?_getD]
  split
  · rw [List.getElem?_append_left (by omega)]
  · rw [List.getElem?_append_right (by omega)]
    rcases Nat.lt_or_ge (k - l.length) R with h | h
    · simp [h]
    · rw [List.getElem?_eq_none (by simpa using h)]; rfl

theorem Left.start {l : List Int} {F : Nat} (hl : l.length = n) (hb : ∀ k, Bt (l.getD k 0) F) : Left R n A E r0 piv l F 0 (l ++ List.replicate R 0) := by
  refine ⟨by simp [hl], Nat.zero_le _, ⟨fun _ => 0, fun k hk => ?_⟩, fun j hj => absurd hj (Nat.not_lt_zero j), fun k => ?_⟩
  · rw [getD_app_zero hl]; simp [sumN]
  · rw [getD_app_zero hl]
    split
    · exact (hb k).mono (by omega)
    · exact Bt.zero

/-- Where a row of A begins, seen from the matrix. -/
theorem Trk.idx (h : Trk R n m A E r0 piv) {i : Nat} (hi : i < R) : (i < r0 → idxI nz ((A.getD i []).take n) = (piv i : Int)) ∧ (r0 ≤ i → idxI nz ((A.getD i []).take n) = -1) := by
  have hl := h.sh.2 i hi
  have htk : ∀ k, k < n → ((A.getD i []).take n).getD k 0 = en A i k := fun k hk => by
    unfold en
    simp only [List.getD_eq_getElem?_getD]
    rw [List.getElem?_take_of_lt hk]
  constructor
  · intro hr
    have hp := h.lo i hr
    refine idxI_hit (d := 0) (by rw [List.length_take, hl]; omega) ?_ (fun j hj => ?_)
    · rw [htk _ hp]
      have := h.hn.pos i hi
      simp [nz]; omega
    · rw [htk _ (by omega), h.hn.zero i j hi hj]
      rfl
  · intro hr
    have ha : ((A.getD i []).take n).any nz = false := any_false (d := 0) fun j hj => by
      rw [List.length_take, hl] at hj
      rw [htk _ (by omega), h.z hr hi (by omega)]
      rfl
    have := idxI_any nz ((A.getD i []).take n)
    rw [ha] at this
    unfold idxI at this ⊢
    split
    · rename_i hh; rw [if_pos hh] at this; simp at this
    · rfl

theorem Left.splan (h : Trk R n m A E r0 piv) {l : List Int} {F : Nat} (hE : 0 < E) (hb : F + R * E ≤ 4398046511104) : SPlan R n A (Left R n A E r0 piv l F) where
  s := fun {i t} ht => ⟨ht.len, fun k => sz_bits (n := 137438953472) (ht.bt k) (by
    have h1 := Nat.mul_le_mul_right E (Nat.le_trans ht.le h.r)
    omega)⟩
  step := fun {i t k} ht hi hk hkn => by
    have hx := h.idx hi
    have hir : i < r0 := Nat.lt_of_not_le fun hh => by rw [hx.2 hh] at hk; omega
    rw [hx.1 hir] at hk
    have hk' : piv i = k := by omega
    subst hk'
    have hp := h.hn.pos i hi
    have hen : (A.getD i []).getD (piv i) 0 = en A i (piv i) := rfl
    rw [hen]
    have hqb := Int.natAbs_ediv_le_natAbs (t.getD (piv i) 0) (en A i (piv i))
    have hm0 := Int.emod_nonneg (t.getD (piv i) 0) (b := en A i (piv i)) (by omega)
    have hm1 := Int.emod_lt_of_pos (t.getD (piv i) 0) hp
    rw [Int.emod_def, Int.mul_comm] at hm0 hm1
    generalize t.getD (piv i) 0 / en A i (piv i) = q at *
    have hl : ∀ k, (lessR t q (A.getD i [])).getD k 0 = t.getD k 0 - q * en A i k := fun k => by
      rw [lessR, range_at]
      split
      · rfl
      · rename_i hh
        have h1 : t.getD k 0 = 0 := by simp [List.getD_eq_getElem?_getD, List.getElem?_eq_none (show t.length ≤ k by omega)]
        have h2 : en A i k = 0 := en_out h.sh (by have := ht.len; omega)
        rw [h1, h2]; omega
    obtain ⟨q0, hq0⟩ := ht.eq
    refine ⟨by rw [lessR, List.length_map, List.length_range]; exact ht.len, hir, ⟨fun j => if j = i then q else q0 j, fun k hk => ?_⟩, fun j hj => ?_, fun k => ?_⟩
    · rw [hl k, hq0 k hk]
      show _ = _ - (sumN i (fun j => (if j = i then q else q0 j) * en A j k) + (if i = i then q else q0 i) * en A i k)
      rw [if_pos rfl]
      rw [sumN_congr (n := i) (f := fun j => (if j = i then q else q0 j) * en A j k) (g := fun j => q0 j * en A j k) (fun j hj => by rw [if_neg (by omega)])]
      omega
    · rw [hl]
      by_cases e : j = i
      · subst e; omega
      · rw [h.hn.zero i (piv j) hi (h.hn.mono j i (by omega) hi)]
        have := ht.red j (by omega)
        omega
    · rw [hl, Nat.add_mul, Nat.one_mul, ← Nat.add_assoc]
      exact Bt.less (ht.bt k) (h.bt i k) hqb (ht.bt (piv i)) hE

/-- At the end: nothing is left in the matrix exactly if the vector is in the lattice; then the units have the solution. -/
theorem Left.done (h : Trk R n m A E r0 piv) (hs : Shape R n m) {l : List Int} {F i : Nat} {t : List Int} (ht : Left R n A E r0 piv l F i t) (hiR : i ≤ R) (he : i = R ∨ idxI nz ((A.getD i []).take n) = -1) :
    ((t.take n).any nz = false ↔ Lat R n (en m) (fun k => l.getD k 0)) ∧ ((t.take n).any nz = false → ∀ k, k < n → l.getD k 0 = sumN R fun j => (negR (t.drop n)).getD j 0 * en m j k) := by
  have hr := h.r
  have hi : i = r0 := by
    have := ht.le
    rcases he with e | e
    · omega
    · rcases Nat.lt_or_ge i R with hh | hh
      · rcases Nat.lt_or_ge i r0 with h3 | h3
        · rw [(h.idx hh).1 h3] at e; omega
        · omega
      · omega
  subst hi
  obtain ⟨q, hq⟩ := ht.eq
  have htk : ∀ k, k < n → (t.take n).getD k 0 = t.getD k 0 := fun k hk => by
    simp only [List.getD_eq_getElem?_getD]
    rw [List.getElem?_take_of_lt hk]
  have hany : (t.take n).any nz = false ↔ ∀ k, k < n → t.getD k 0 = 0 := by
    constructor
    · intro hh k hk
      have hlt : k < (t.take n).length := by rw [List.length_take, ht.len]; omega
      have := List.any_eq_false.1 hh _ (List.getElem_mem hlt)
      have e : (t.take n)[k] = t.getD k 0 := by rw [← htk k hk, List.getD_eq_getElem?_getD, List.getElem?_eq_getElem hlt]; rfl
      rw [e] at this
      simpa [nz] using this
    · intro hh
      refine any_false (d := 0) fun j hj => ?_
      rw [List.length_take] at hj
      rw [htk j (by omega), hh j (by omega)]; decide
  have hz : ∀ k, k < n → t.getD k 0 = 0 → l.getD k 0 = sumN i fun j => q j * en A j k := fun k hk h0 => by
    have := hq k (by omega)
    rw [if_pos hk, h0] at this
    omega
  refine ⟨?_, fun hh k hk => ?_⟩
  · rw [hany]
    constructor
    · intro hh
      exact (h.lat hs _).1 ⟨q, fun k hk => hz k hk (hh k hk)⟩
    · intro hL k hk
      refine Classical.byContradiction fun hne => ?_
      have hT : Lat i n (en A) (fun k => t.getD k 0) := by
        refine (((h.lat hs _).2 hL).sub (⟨q, fun k _ => rfl⟩ : Lat i n (en A) (fun k => sumN i fun j => q j * en A j k))).congr fun k hk => ?_
        rw [hq k (by omega), if_pos hk]
      obtain ⟨j, c, hj, -, h1, h2⟩ := h.hnf.lead hT ⟨k, hk, hne⟩
      have hrd := ht.red j hj
      have hd : en A j (piv j) ∣ t.getD (piv j) 0 := ⟨c, by rw [h2, Int.mul_comm]⟩
      exact h1 (Int.eq_zero_of_dvd_of_natAbs_lt_natAbs hd (by omega))
  · have h0 := hany.1 hh k hk
    rw [hz k hk h0]
    have hneg : ∀ j, j < R → (negR (t.drop n)).getD j 0 = sumN i fun a => q a * en A a (n + j) := fun j hj => by
      rw [negR, range_at, if_pos (by rw [List.length_drop, ht.len]; omega)]
      have : (t.drop n).getD j 0 = t.getD (n + j) 0 := by simp [List.getD_eq_getElem?_getD]
      rw [this, hq (n + j) (by omega), if_neg (by omega)]
      omega
    rw [sumN_congr (n := R) (g := fun j => sumN i fun a => q a * en A a (n + j) * en m j k) (fun j hj => by
      rw [hneg j hj, Int.mul_comm, ← sumN_mul]
      exact sumN_congr fun a _ => by rw [Int.mul_comm])]
    rw [sumN_swap]
    refine sumN_congr fun a ha => ?_
    rw [h.own hs (by omega) hk, ← sumN_mul]
    exact sumN_congr fun j _ => by rw [Int.mul_assoc]
end
end Go.Proofs.YtdbpkoddfcdhdaaGreat

namespace Go.Proofs.YtdbpkoddfcdhdaaGreat

section
variable {R n E r0 : Nat} {m A : List (List Int)} {piv : Nat → Nat}

theorem filter_drop {α : Type} (p : α → Bool) (d : α) : ∀ (l : List α) (r : Nat), (∀ i, i < r → i < l.length → p (l.getD i d) = false) → (∀ i, r ≤ i → i < l.length → p (l.getD i d) = true) → l.filter p = l.drop r
  | [], r, _, _ => by simp
  | x :: l, 0, _, h => by
    have h0 : p x = true := by have := h 0 (Nat.le_refl _) (by simp); simpa [List.getD_eq_getElem?_getD] using this
    rw [List.filter_cons_of_pos h0, filter_drop p d l 0 (fun i hi => absurd hi (Nat.not_lt_zero i)) (fun i _ hi => by have := h (i + 1) (Nat.zero_le _) (by simp; omega); simpa [List.getD_eq_getElem?_getD] using this)]
    rfl
  | x :: l, r + 1, h, h' => by
    have h0 : ¬ p x = true := by have := h 0 (by omega) (by simp); simpa [List.getD_eq_getElem?_getD] using this
    rw [List.filter_cons_of_neg h0, filter_drop p d l r (fun i hi hl => by have := h (i + 1) (by omega) (by simp; omega); simpa [List.getD_eq_getElem?_getD] using this) (fun i hi hl => by have := h' (i + 1) (by omega) (by simp; omega); simpa [List.getD_eq_getElem?_getD] using this)]
    rfl

theorem Trk.ker (h : Trk R n m A E r0 piv) : kerL n A = (A.drop r0).map (List.drop n) := by
  unfold kerL
  congr 1
  have hz : ∀ i, i < R → (((A.getD i []).take n).any nz = true ↔ i < r0) := fun i hi => by
    have e := idxI_any nz ((A.getD i []).take n)
    rcases Nat.lt_or_ge i r0 with hh | hh
    · rw [(h.idx hi).1 hh] at e
      rw [← e]
      simp [hh]
    · rw [(h.idx hi).2 hh] at e
      rw [← e]
      simp; omega
  refine filter_drop _ [] A r0 (fun i hi hl => ?_) (fun i hi hl => ?_)
  · rw [h.sh.1] at hl
    rw [(hz i hl).2 hi]; rfl
  · rw [h.sh.1] at hl
    rw [Bool.not_eq_true', Bool.eq_false_iff]
    exact fun hh => absurd ((hz i hl).1 hh) (by omega)

theorem Trk.ker_row (h : Trk R n m A E r0 piv) {i : Nat} (hi : i < R - r0) : (kerL n A).getD i [] = (A.getD (r0 + i) []).drop n := by
  rw [h.ker]
  simp only [List.getD_eq_getElem?_getD, List.getElem?_map, List.getElem?_drop]
  rw [List.getElem?_eq_getElem (by rw [h.sh.1]; omega)]
  rfl
theorem Trk.ker_en (h : Trk R n m A E r0 piv) {i : Nat} (hi : i < R - r0) (k : Nat) : en (kerL n A) i k = en A (r0 + i) (n + k) := by
  unfold en
  rw [h.ker_row hi]
  simp only [List.getD_eq_getElem?_getD, List.getElem?_drop]
theorem Trk.ker_shape (h : Trk R n m A E r0 piv) : Shape (R - r0) R (kerL n A) :=
  ⟨by rw [h.ker, List.length_map, List.length_drop, h.sh.1], fun i hi => by rw [h.ker_row hi, List.length_drop, h.sh.2 _ (by omega)]; omega⟩
theorem Trk.ker_hnf (h : Trk R n m A E r0 piv) : Hnf (R - r0) R (en (kerL n A)) (fun i => piv (r0 + i) - n) := by
  have hp : ∀ i, i < R - r0 → n + (piv (r0 + i) - n) = piv (r0 + i) := fun i hi => by have := h.hi (r0 + i) (by omega) (by omega); omega
  refine ⟨fun i hi => ?_, fun i j hij hj => ?_, fun i hi => ?_, fun i k hi hk => ?_, fun j i hji hi => ?_⟩
  · have := h.hn.lt (r0 + i) (by omega)
    have := hp i hi
    show piv (r0 + i) - n < R
    omega
  · have := h.hn.mono (r0 + i) (r0 + j) (by omega) (by omega)
    have := hp i (by omega)
    have := hp j hj
    show piv (r0 + i) - n < piv (r0 + j) - n
    omega
  · rw [h.ker_en hi, hp i hi]; exact h.hn.pos _ (by omega)
  · rw [h.ker_en hi]
    exact h.hn.zero _ _ (by omega) (by have := hp i hi; omega)
  · rw [h.ker_en hi, h.ker_en (by omega), hp i hi]
    exact h.hn.red _ _ (by omega) (by omega)
theorem Trk.ker_bt (h : Trk R n m A E r0 piv) (j k : Nat) : Bt (en (kerL n A) j k) E := by
  rcases Nat.lt_or_ge j (R - r0) with hj | hj
  · rw [h.ker_en hj]; exact h.bt _ _
  · unfold en
    rw [show (kerL n A).getD j [] = [] by simp [List.getD_eq_getElem?_getD, List.getElem?_eq_none (show (kerL n A).length ≤ j by rw [h.ker_shape.1]; exact hj)]]
    exact Bt.zero

/-- The relations are the lattice of these rows. -/
theorem Trk.ker_lat (h : Trk R n m A E r0 piv) (hs : Shape R n m) (c : Nat → Int) : Lat (R - r0) R (en (kerL n A)) c ↔ ∀ k, k < n → sumN R (fun i => c i * en m i k) = 0 := by
  constructor
  · rintro ⟨d, hd⟩ k hk
    rw [sumN_congr (n := R) (g := fun i => sumN (R - r0) fun a => d a * en A (r0 + a) (n + i) * en m i k) (fun i hi => by
      rw [hd i hi, Int.mul_comm, ← sumN_mul]
      exact sumN_congr fun a ha => by rw [h.ker_en ha, Int.mul_comm])]
    rw [sumN_swap]
    refine sumN_zero fun a ha => ?_
    have : sumN R (fun i => d a * en A (r0 + a) (n + i) * en m i k) = d a * en A (r0 + a) k := by
      rw [h.own hs (by omega) hk, ← sumN_mul]
      exact sumN_congr fun i _ => by rw [Int.mul_assoc]
    rw [this, h.z (by omega) (by omega) hk, Int.mul_zero]
  · intro hc
    have hL : Lat R (n + R) (en A) (fun k => if k < n then 0 else c (k - n)) := by
      refine (h.sl _).2 ⟨c, fun k hk => ?_⟩
      show (if k < n then 0 else c (k - n)) = _
      split
      · rename_i hkn
        rw [sumN_congr (n := R) (g := fun i => c i * en m i k) (fun i hi => by rw [en_unit hs hi, if_pos hkn]), hc k hkn]
      · rename_i hkn
        rw [sumN_one (j := k - n) (by omega) (fun i hi hne => by rw [en_unit hs hi, if_neg hkn, if_neg (by omega), Int.mul_zero])]
        rw [en_unit hs (by omega), if_neg hkn, if_pos (by omega), Int.mul_one]
    obtain ⟨d, hd0⟩ := hL
    have hd : ∀ k, k < n + R → (if k < n then (0 : Int) else c (k - n)) = sumN R fun i => d i * en A i k := hd0
    clear hd0
    have hz : ∀ i, i < r0 → d i = 0 := by
      refine fun i hi => Classical.byContradiction fun hne => ?_
      obtain ⟨a, ha, hda, hmin⟩ := least_of (p := fun i => d i ≠ 0) ⟨i, hi, hne⟩
      have har := h.r
      have hpa := h.lo a ha
      have := hd (piv a) (by omega)
      rw [if_pos hpa, sumN_one (j := a) (by omega) (fun b hb hne => by
        rcases Nat.lt_or_ge b a with h1 | h1
        · have : d b = 0 := Classical.byContradiction fun hh => hmin b h1 hh
          rw [this, Int.zero_mul]
        · rw [h.hn.zero b (piv a) hb (h.hn.mono a b (by omega) hb), Int.mul_zero])] at this
      have hp := h.hn.pos a (by omega)
      rcases Int.mul_eq_zero.1 this.symm with e | e
      · exact hda e
      · omega
    refine ⟨fun a => d (r0 + a), fun k hk => ?_⟩
    show c k = sumN (R - r0) fun a => d (r0 + a) * en (kerL n A) a k
    have := hd (n + k) (by omega)
    rw [if_neg (by omega), show n + k - n = k by omega] at this
    rw [this]
    have hsp : ∀ (f : Nat → Int) (a b : Nat), sumN (a + b) f = sumN a f + sumN b fun i => f (a + i) := fun f a b => by
      induction b with
      | zero => simp [sumN]
      | succ b ih => rw [← Nat.add_assoc]; simp only [sumN]; rw [ih]; omega
    have hR : R = r0 + (R - r0) := by have := h.r; omega
    rw [sumN_congr (n := R - r0) (g := fun a => d (r0 + a) * en A (r0 + a) (n + k)) (fun a ha => by rw [h.ker_en ha])]
    have h1 := hsp (fun i => d i * en A i (n + k)) r0 (R - r0)
    rw [← hR, sumN_zero (n := r0) (fun i hi => by rw [hz i hi, Int.zero_mul])] at h1
    rw [h1]; omega
end

/-- What a plan for rows with units behind them has to end with. -/
def TrkPlan (R n : Nat) (m : List (List Int)) (E : Nat) : Prop :=
  ∃ (P1 : Nat → Nat → List (List Int) → Prop) (P2 P3 : Nat → Nat → Nat → List (List Int) → Prop), Plan R (n + R) (n + R) P1 P2 P3 ∧ P1 0 0 (unitM m n R) ∧
    ∀ row col A, P1 row col A → (col = n + R ∨ row = R) → ∃ r0 piv, Trk R n m A E r0 piv

theorem unit_bt {R n E : Nat} {m : List (List Int)} (hs : Shape R n m) (hE : 2 ≤ E) (hb : ∀ j k, Bt (en m j k) E) (j k : Nat) : Bt (en (unitM m n R) j k) E := by
  rcases Nat.lt_or_ge j R with hj | hj
  · rw [en_unit hs hj]
    split
    · exact hb j k
    · split
      · exact (show Bt 1 2 by unfold Bt; decide).mono hE
      · exact Bt.zero
  · unfold en
    rw [show (unitM m n R).getD j [] = [] by simp [List.getD_eq_getElem?_getD, List.getElem?_eq_none (show (unitM m n R).length ≤ j by rw [(unit_shape hs).1]; exact hj)]]
    exact Bt.zero

theorem trkplan_g {R n E : Nat} {m : List (List Int)} (hs : Shape R n m) (hR : R ≤ 5) (hE0 : 2 ≤ E) (hE : 720 * E ≤ 4398046511104) (hb : ∀ j k, Bt (en m j k) E) : TrkPlan R n m (720 * E) :=
  ⟨_, _, _, gplan (by omega) hE hR, g1_start (unit_shape hs) (unit_bt hs hE0 hb), fun row col A hP he => (trk_of hs hR hP he).2⟩

/-- A matrix with units behind it that is in Hermite normal form: nothing changes. -/
theorem cplan {R n E : Nat} {m : List (List Int)} {piv : Nat → Nat} (hs : Shape R n m) (hn : Hnf R n (en m) piv) (hE : E ≤ 4398046511104) (hE0 : 2 ≤ E) (hb : ∀ j k, Bt (en m j k) E) :
    Plan R (n + R) (n + R) (fun row col A => A = unitM m n R ∧ row ≤ R ∧ (∀ i, i < row → piv i < col) ∧ ∀ i, row ≤ i → i < R → col ≤ piv i)
      (fun row col i A => A = unitM m n R ∧ row < R ∧ row < i ∧ i ≤ R ∧ (∀ j, j < row → piv j < col) ∧ ∀ j, row ≤ j → j < R → col ≤ piv j) (fun row col _ A => A = unitM m n R ∧ row < R ∧ col = piv row) := by
  have hsh := unit_shape hs
  have hsm : SmallM (unitM m n R) := fun j k => sz_bits (n := 137438953472) (unit_bt hs hE0 hb j k) (by omega)
  have hen : ∀ i k, i < R → k < n → ((unitM m n R).getD i []).getD k 0 = en m i k := fun i k hi hk => by
    show en (unitM m n R) i k = _
    rw [en_unit hs hi, if_pos hk]
  refine ⟨?_, ?_, ?_, ?_, ?_, ?_, ?_, ?_, ?_, ?_, ?_⟩
  · rintro row col A ⟨rfl, -⟩; exact hsh
  · rintro row col i A ⟨rfl, -⟩; exact ⟨hsh, hsm⟩
  · rintro row col i A ⟨rfl, h1, rfl⟩
    refine ⟨hsh, hsm, ?_⟩
    rw [hen _ _ h1 (hn.lt _ h1)]
    have := hn.pos _ h1; omega
  · rintro row col A ⟨rfl, h1, h2, h3⟩ hc hr
    exact ⟨rfl, hr, by omega, by omega, h2, h3⟩
  · rintro row col i A ⟨rfl, h1, h2, h3, h4, h5⟩ hi h0
    exact ⟨rfl, h1, by omega, by omega, h4, h5⟩
  · rintro row col i A u v ⟨rfl, h1, h2, h3, h4, h5⟩ hri hi hc h0 -
    have hp := h5 row (Nat.le_refl _) h1
    have hlt := hn.lt row h1
    rw [hen i col hi (by omega), hn.zero i col hi (by have := hn.mono row i hri hi; omega)] at h0
    exact absurd rfl h0
  · rintro row col A ⟨rfl, h1, h2, h3, h4, h5⟩ h0
    have hp := h5 row (Nat.le_refl _) h1
    have hlt := hn.lt row h1
    rw [hen row col h1 (by omega)] at h0
    have hne : col ≠ piv row := by rintro rfl; have := hn.pos row h1; omega
    refine ⟨rfl, by omega, fun i hi => by have := h4 i hi; omega, fun i hi hiR => ?_⟩
    rcases Nat.eq_or_lt_of_le hi with e | e
    · subst e; omega
    · have := hn.mono row i e hiR; omega
  · rintro row col A ⟨rfl, h1, h2, h3, h4, h5⟩ h0
    have hp := h5 row (Nat.le_refl _) h1
    have hlt := hn.lt row h1
    rw [hen row col h1 (by omega)] at h0
    refine ⟨rfl, h1, ?_⟩
    rcases Nat.eq_or_lt_of_le hp with e | e
    · exact e
    · rw [hn.zero row col h1 e] at h0; omega
  · rintro row col A ⟨rfl, h1, h2, h3, h4, h5⟩ h0
    have hp := h5 row (Nat.le_refl _) h1
    have hlt := hn.lt row h1
    rw [hen row col h1 (by omega)] at h0
    rcases Nat.eq_or_lt_of_le hp with e | e
    · subst e; have := hn.pos row h1; omega
    · rw [hn.zero row col h1 e] at h0; omega
  · rintro row col i A ⟨rfl, h1, rfl⟩ - hi
    refine ⟨?_, h1, rfl⟩
    have hlt := hn.lt row h1
    have hr := hn.red i row hi h1
    rw [hen i _ (by omega) hlt, hen row _ h1 hlt, Int.ediv_eq_zero_of_lt hr.1 hr.2, lessR_zero, mset_self _ (by rw [hsh.1]; omega)]
  · rintro row col A ⟨rfl, h1, rfl⟩
    refine ⟨rfl, h1, fun i hi => ?_, fun i hi hiR => ?_⟩
    · rcases Nat.eq_or_lt_of_le (Nat.le_of_lt_succ hi) with e | e
      · subst e; omega
      · have := hn.mono i row e h1; omega
    · have := hn.mono row i (by omega) hiR; omega

theorem trkplan_c {R n E : Nat} {m : List (List Int)} {piv : Nat → Nat} (hs : Shape R n m) (hn : Hnf R n (en m) piv) (hE : E ≤ 4398046511104) (hE0 : 2 ≤ E) (hb : ∀ j k, Bt (en m j k) E) : TrkPlan R n m E := by
  refine ⟨_, _, _, cplan hs hn hE hE0 hb, ⟨rfl, Nat.zero_le _, fun i hi => absurd hi (Nat.not_lt_zero i), fun i _ _ => Nat.zero_le _⟩, fun row col A hP he => ?_⟩
  obtain ⟨rfl, -⟩ := hP
  have hen : ∀ i k, i < R → k < n → en (unitM m n R) i k = en m i k := fun i k hi hk => by rw [en_unit hs hi, if_pos hk]
  refine ⟨R, piv, unit_shape hs, ⟨fun i hi => by have := hn.lt i hi; omega, hn.mono, fun i hi => ?_, fun i k hi hk => ?_, fun j i hji hi => ?_⟩, SameL.refl _, Nat.le_refl _, hn.lt, fun i h1 h2 => absurd h2 (by omega), unit_bt hs hE0 hb⟩
  · rw [hen i _ hi (hn.lt i hi)]; exact hn.pos i hi
  · rw [hen i k hi (by have := hn.lt i hi; omega)]; exact hn.zero i k hi hk
  · rw [hen j _ (by omega) (hn.lt i hi), hen i _ hi (hn.lt i hi)]; exact hn.red j i hji hi
end Go.Proofs.YtdbpkoddfcdhdaaGreat

namespace Go.Proofs.YtdbpkoddfcdhdaaGreat
open Go.RowKit

/-- What Solve returns. -/
def SolR (R n F : Nat) (m : List (List Int)) (l : List Int) (w : World) (e : Ending) (w' : World) : Prop :=
  ((¬ Lat R n (en m) (fun k => l.getD k 0) ∧ e = .returned (.tuple #[.slice none 0 0, .int .i64 6])) ∨
    (Lat R n (en m) (fun k => l.getD k 0) ∧ ∃ v' s, e = .returned (.tuple #[v', .int .i64 0]) ∧ Rw w' v' s ∧ s.length = R ∧ (∀ k, Bt (s.getD k 0) F) ∧ ∀ k, k < n → l.getD k 0 = sumN R fun j => s.getD j 0 * en m j k)) ∧ Below w.heap.size w w'

theorem Solve_g {R n E F : Nat} {m : List (List Int)} (tp : TrkPlan R n m E) (v u : Value) (l : List Int) (w : World) (h : Mx w v m) (hu : Rw w u l) (hs : Shape R n m) (hl : l.length = n) (hR0 : 0 < R) (hR : R ≤ 12) (hN0 : 0 < n) (hN : n ≤ 12)
    (hF : ∀ k, Bt (l.getD k 0) F) (hE0 : 0 < E) (hb : F + R * E ≤ 4398046511104) : Calls Tryz.prog 19 #[v, u] w (SolR R n (F + R * E) m l w) := by
  obtain ⟨P1, P2, P3, pl, h0, hfin⟩ := tp
  have hEb : E ≤ 4398046511104 := by
    have := Nat.mul_le_mul_right E (show 1 ≤ R from hR0)
    omega
  refine (Solve_ok pl v u m l w h hu hs hl h0 hR0 hR hN0 hN (fun A i t => ∃ r0 piv, Trk R n m A E r0 piv ∧ Left R n A E r0 piv l F i t) (fun row col A hP he => ?_)).mono ?_
  · obtain ⟨r0, piv, tk⟩ := hfin row col A hP he
    refine ⟨fun j k => sz_bits (n := 137438953472) (tk.bt j k) (by omega), ⟨fun {i t} ht => ?_, fun {i t k} ht hi hk hkn => ?_⟩, ⟨r0, piv, tk, Left.start hl hF⟩⟩
    · obtain ⟨r0, piv, tk, ht⟩ := ht
      exact (Left.splan tk hE0 hb).s ht
    · obtain ⟨r0, piv, tk, ht⟩ := ht
      exact ⟨r0, piv, tk, (Left.splan tk hE0 hb).step ht hi hk hkn⟩
  · rintro e w' ⟨row, col, A, i, t, hP, hrc, hrow, ⟨r0, piv, tk, ht⟩, hiR, hend, hbl, he⟩
    obtain ⟨d1, d2⟩ := Left.done tk hs ht hiR hend
    refine ⟨?_, hbl⟩
    rcases he with ⟨hh, rfl⟩ | ⟨hh, v', rfl, hv⟩
    · exact .inl ⟨fun hL => (by rw [d1.2 hL] at hh; cases hh), rfl⟩
    · refine .inr ⟨d1.1 hh, v', _, rfl, hv, by rw [negR, List.length_map, List.length_range, List.length_drop, ht.len]; omega, fun k => ?_, d2 hh⟩
      have : (negR (t.drop n)).getD k 0 = - t.getD (n + k) 0 := by
        rw [negR, range_at]
        split
        · simp [List.getD_eq_getElem?_getD]
        · rename_i hk
          rw [List.length_drop] at hk
          simp [List.getD_eq_getElem?_getD, List.getElem?_eq_none (show t.length ≤ n + k by omega)]
      rw [this]
      have h1 := Nat.mul_le_mul_right E (Nat.le_trans ht.le tk.r)
      exact ((ht.bt (n + k)).mono (by omega)).neg

/-- In: is the vector in the lattice? -/
def InR (R n : Nat) (m : List (List Int)) (l : List Int) (w : World) (e : Ending) (w' : World) : Prop :=
  ∃ b, e = .returned (.tuple #[.bool b, .int .i64 0]) ∧ (b = true ↔ Lat R n (en m) (fun k => l.getD k 0)) ∧ Below w.heap.size w w'

theorem In_g {R n E F : Nat} {m : List (List Int)} (tp : TrkPlan R n m E) (v u : Value) (l : List Int) (w : World) (h : Mx w v m) (hu : Rw w u l) (hs : Shape R n m) (hl : l.length = n) (hR0 : 0 < R) (hR : R ≤ 12) (hN0 : 0 < n) (hN : n ≤ 12)
    (hF : ∀ k, Bt (l.getD k 0) F) (hE0 : 0 < E) (hb : F + R * E ≤ 4398046511104) : Calls Tryz.prog 16 #[v, u] w (InR R n m l w) := by
  have hS := Solve_g tp v u l w h hu hs hl hR0 hR hN0 hN hF hE0 hb
  by_cases hL : Lat R n (en m) (fun k => l.getD k 0)
  · refine (In_of v u w (fun w' => Below w.heap.size w w') true (hS.mono fun e w' hh => ?_)).mono fun e w' ⟨he, hb⟩ => ⟨true, he, ⟨fun _ => hL, fun _ => rfl⟩, hb⟩
    rcases hh with ⟨⟨hn, -⟩ | ⟨-, v', s, rfl, -⟩, hb⟩
    · exact absurd hL hn
    · exact ⟨v', rfl, hb⟩
  · refine (In_of v u w (fun w' => Below w.heap.size w w') false (hS.mono fun e w' hh => ?_)).mono fun e w' ⟨he, hb⟩ => ⟨false, he, ⟨fun h => Bool.noConfusion h, fun h => absurd h hL⟩, hb⟩
    rcases hh with ⟨⟨-, rfl⟩ | ⟨hn, -⟩, hb⟩
    · exact ⟨_, rfl, hb⟩
    · exact absurd hn hL

/-- .. of no rows. -/
theorem In_n (v u : Value) (l : List Int) (w : World) (h : Mx w v []) (hu : Rw w u l) (hl : l.length ≤ 12) :
    Calls Tryz.prog 16 #[v, u] w fun e w' => e = .returned (.tuple #[.bool (!l.any nz), .int .i64 0]) ∧ Below w.heap.size w w' := by
  have hS := Solve_nil v u l w h hu hl
  cases hz : l.any nz with
  | true =>
    rw [hz] at hS
    exact In_of v u w (fun w' => Below w.heap.size w w') false (hS.mono fun e w' ⟨he, hb⟩ => ⟨_, he, hb⟩)
  | false =>
    rw [hz] at hS
    exact In_of v u w (fun w' => Below w.heap.size w w') true (hS.mono fun e w' ⟨he, hb⟩ => ⟨_, he, hb⟩)

/-- The Hermite normal form of a small matrix. -/
structure Herm (R N : Nat) (m h : List (List Int)) (E : Nat) (piv : Nat → Nat) : Prop where
  le : h.length ≤ R
  sh : Shape h.length N h
  hn : Hnf h.length N (en h) piv
  lat : ∀ v, Lat h.length N (en h) v ↔ Lat R N (en m) v
  bt : ∀ j k, Bt (en h j k) E

theorem herm_of {R N E row col : Nat} {m A : List (List Int)} (hR : R ≤ 5) (h : G1 R N m E row col A) (he : col = N ∨ row = R) (hrow : row ≤ R) : (A.take row).length = row ∧ ∃ piv, Herm R N m (A.take row) (720 * E) piv := by
  obtain ⟨⟨piv, hn⟩, h0⟩ := h.done he
  have hl : (A.take row).length = row := by rw [List.length_take, h.sh.1, Nat.min_eq_left hrow]
  have hr : ∀ i, i < row → (A.take row).getD i [] = A.getD i [] := fun i hi => by
    simp only [List.getD_eq_getElem?_getD]
    rw [List.getElem?_take_of_lt hi]
  have hen : ∀ i k, i < row → en (A.take row) i k = en A i k := fun i k hi => by unfold en; rw [hr i hi]
  refine ⟨hl, piv, ?_⟩
  refine ⟨by omega, ?_, ?_, fun v => ?_, fun j k => ?_⟩
  · rw [hl]
    exact ⟨hl, fun i hi => by rw [hr i hi]; exact h.sh.2 i (by omega)⟩
  · rw [hl]
    exact ⟨hn.lt, hn.mono, fun i hi => by rw [hen i _ hi]; exact hn.pos i hi, fun i k hi hk => by rw [hen i k hi]; exact hn.zero i k hi hk, fun j i hji hi => by rw [hen j _ (by omega), hen i _ hi]; exact hn.red j i hji hi⟩
  · rw [hl]
    constructor
    · intro hv
      exact (h.sl v).1 ((Lat.ext (fun i k hi _ => hen i k hi) hv).more hrow)
    · intro hv
      exact Lat.ext (fun i k hi _ => (hen i k hi).symm) (((h.sl v).2 hv).cut hrow h0)
  · rcases Nat.lt_or_ge j row with hj | hj
    · rw [hen j k hj]; exact (h.bt j k).mono (eb_le hR hrow)
    · unfold en
      rw [show (A.take row).getD j [] = [] by simp [List.getD_eq_getElem?_getD, List.getElem?_eq_none (show (A.take row).length ≤ j by rw [hl]; exact hj)]]
      exact Bt.zero

section
variable {R N E : Nat} {m : List (List Int)}

theorem hermite_g (v : Value) (w : World) (h : Mx w v m) (hs : Shape R N m) (hR0 : 0 < R) (hR : R ≤ 5) (hN : N ≤ 12) (hE0 : 0 < E) (hE : 720 * E ≤ 4398046511104) (hb : ∀ j k, Bt (en m j k) E) :
    Calls Tryz.prog 30 #[v] w fun e w' => ∃ v' h piv, e = .returned v' ∧ Herm R N m h (720 * E) piv ∧ Mx w' v' h ∧ Below w.heap.size w w' := by
  refine (hermite_any (gplan hE0 hE hR) v m w h (g1_start hs hb) hR0 (by omega) (by omega)).mono ?_
  rintro e w' ⟨v', row, col, A, rfl, hP, hc, hrow, hM, hbl⟩
  obtain ⟨-, piv, hh⟩ := herm_of hR hP hc hrow
  exact ⟨v', _, piv, rfl, hh, hM, hbl⟩

theorem Hermite_g (v : Value) (w : World) (h : Mx w v m) (hs : Shape R N m) (hR0 : 0 < R) (hR : R ≤ 5) (hN0 : 0 < N) (hN : N ≤ 12) (hE0 : 0 < E) (hE : 720 * E ≤ 4398046511104) (hb : ∀ j k, Bt (en m j k) E) :
    Calls Tryz.prog 25 #[v] w fun e w' => ∃ v' h, e = .returned (.tuple #[v', .int .i64 0]) ∧ (∃ piv, Herm R N m h (720 * E) piv) ∧ Mx w' v' h ∧ Below w.heap.size w w' := by
  refine (Hermite_ok (gplan hE0 hE hR) v m w h (g1_start hs hb) hR0 (by omega) hN0 hN).mono ?_
  rintro e w' ⟨v', row, col, A, rfl, hP, hc, hrow, hM, hbl⟩
  obtain ⟨-, piv, hh⟩ := herm_of hR hP hc hrow
  exact ⟨v', _, rfl, ⟨piv, hh⟩, hM, hbl⟩

theorem Rank_g (v : Value) (w : World) (h : Mx w v m) (hs : Shape R N m) (hR0 : 0 < R) (hR : R ≤ 5) (hN0 : 0 < N) (hN : N ≤ 12) (hE0 : 0 < E) (hE : 720 * E ≤ 4398046511104) (hb : ∀ j k, Bt (en m j k) E) :
    Calls Tryz.prog 10 #[v] w fun e w' => ∃ h piv, e = .returned (.tuple #[.int .i64 (h.length : Int), .int .i64 0]) ∧ Herm R N m h (720 * E) piv ∧ Below w.heap.size w w' := by
  refine (Rank_ok (gplan hE0 hE hR) v m w h (g1_start hs hb) hR0 (by omega) hN0 hN).mono ?_
  rintro e w' ⟨row, col, A, rfl, hP, hc, hrow, hbl⟩
  obtain ⟨hl, piv, hh⟩ := herm_of hR hP hc hrow
  exact ⟨_, piv, by rw [hl], hh, hbl⟩

/-- Kernel: the rows of the normal form of the rows with units that are zero in the matrix. -/
theorem Kernel_g (v : Value) (w : World) (h : Mx w v m) (hs : Shape R N m) (hR0 : 0 < R) (hR : R ≤ 5) (hN0 : 0 < N) (hN : N ≤ 12) (hE0 : 2 ≤ E) (hE : 720 * E ≤ 4398046511104) (hb : ∀ j k, Bt (en m j k) E) :
    Calls Tryz.prog 26 #[v] w fun e w' => ∃ v' K, e = .returned (.tuple #[v', .int .i64 0]) ∧ (∃ A r0 piv, Trk R N m A (720 * E) r0 piv ∧ K = kerL N A) ∧ Mx w' v' K ∧ Below w.heap.size w w' := by
  refine (Kernel_ok (gplan (by omega) hE hR) v m w h hs (g1_start (unit_shape hs) (unit_bt hs hE0 hb)) hR0 (by omega) hN0 hN).mono ?_
  rintro e w' ⟨v', row, col, A, rfl, hP, hc, hrow, hM, hbl⟩
  obtain ⟨-, r0, piv, hh⟩ := trk_of hs hR hP hc
  exact ⟨v', _, rfl, ⟨A, r0, piv, hh, rfl⟩, hM, hbl⟩
end
end Go.Proofs.YtdbpkoddfcdhdaaGreat
