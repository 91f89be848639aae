/-
  What divides all minors of k rows: kept by the lattice of the rows and by transposing; there is one chain of elementary divisors. No program.
  Smith's plan for every small matrix: what divides all minors stays, the measure goes down. No program.
  Smith's plan for every small matrix, carried out.
  lattice.Smith of a small matrix: the chain of its elementary divisors.
  lattice.Smith of a matrix, of its transposed, of its normal form.
-/
import Derived.Test.YtdbpkoddfcdhdaaGreatPS
import Derived.Test.YtdbpkoddfcdhdaaGreatPM
import Derived.Test.YtdbpkoddfcdhdaaGreatPT
import Derived.Test.YtdbpkoddfcdhdaaGreatPY
set_option linter.unusedSimpArgs false
set_option linter.unusedVariables false

namespace Go.Proofs.YtdbpkoddfcdhdaaGreat

/-- d divides all minors of k rows. -/
def MD (k R N : Nat) (A : Nat → Nat → Int) (d : Int) : Prop :=
  ∀ f g : Nat → Nat, (∀ a, a < k → f a < R) → (∀ a, a < k → g a < N) → d ∣ det k fun a b => A (f a) (g b)

theorem am_cols {k N : Nat} {g : Nat → Nat} (hg : ∀ a, a < k → g a < N) : AM k N (fun M => det k fun a b => M a (g b)) where
  congr := fun {M M'} h => det_congr k fun i j hi hj => h i (g j) hi (hg j hj)
  lin := fun {M r a b u w} hr => by
    have := (det_am k).lin (M := fun x y => M x (g y)) (r := r) (a := a) (b := b) (u := fun y => u (g y)) (w := fun y => w (g y)) hr
    have e : ∀ v : Nat → Int, (fun x y => upd2 M r v x (g y)) = upd2 (fun x y => M x (g y)) r fun y => v (g y) := fun v => by
      funext x y; unfold upd2; split <;> rfl
    show det k (fun x y => upd2 M r _ x (g y)) = a * det k (fun x y => upd2 M r u x (g y)) + b * det k (fun x y => upd2 M r w x (g y))
    rw [e, e, e]; exact this
  alt := fun {M r} hr h => (det_am k).alt (M := fun x y => M x (g y)) hr fun j hj => h (g j) (hg j hj)

section
variable {k R R' N : Nat} {A B : Nat → Nat → Int} {d : Int}

theorem MD.lat (h : MD k R N A d) (hB : ∀ i, i < R' → Lat R N A (B i)) : MD k R' N B d := fun f g hf hg =>
  (am_cols hg).dvd (R := R) (m := A) (fun f' hf' => h f' g hf' hg) k (Nat.le_refl _) (fun a => B (f a)) (fun a ha => hB _ (hf a ha)) (fun a h1 h2 => absurd h2 (by omega))

theorem MD.ext (h : MD k R N A d) (e : ∀ i j, i < R → j < N → A i j = B i j) : MD k R N B d := fun f g hf hg => by
  have := h f g hf hg
  rw [det_congr k (M' := fun a b => B (f a) (g b)) (fun i j hi hj => e _ _ (hf i hi) (hg j hj))] at this
  exact this

theorem MD.trn (h : MD k R N A d) : MD k N R (trn A) d := fun f g hf hg => by
  have := h g f hg hf
  rw [← det_trn] at this
  exact this

theorem MD.dvd {c : Int} (h : MD k R N A d) (hc : c ∣ d) : MD k R N A c := fun f g hf hg => Int.dvd_trans hc (h f g hf hg)

/-- More rows than there are. -/
theorem MD.many (hk : R < k) : MD k R N A d := fun f g hf hg => by
  have h0 : (det k fun a b => A (f a) (g b)) = 0 := by
    rcases (am_cols hg).sort A R _ f (fun a ha => Nat.le_of_lt (hf a ha)) (Nat.le_refl _) with e | ⟨s, t, -, hs, hm, -⟩
    · exact e
    · have hlt : ∀ a, a < k → s a < R := fun a ha => by
        obtain ⟨b, hb, e⟩ := hs a ha
        rw [e]; exact hf b hb
      have h1 := incr_ge hlt hm (k - 1) (by omega)
      have h2 := hlt (k - 1) (by omega)
      omega
  rw [h0]
  exact Int.dvd_zero d
end

theorem prodN_ne {n : Nat} {f : Nat → Int} (h : ∀ i, i < n → f i ≠ 0) : prodN n f ≠ 0 := by
  induction n with
  | zero => simp [prodN]
  | succ n ih => exact Int.mul_ne_zero (ih fun i hi => h i (by omega)) (h n (by omega))
theorem prodN_pos {n : Nat} {f : Nat → Int} (h : ∀ i, i < n → 0 < f i) : 0 < prodN n f := by
  induction n with
  | zero => simp [prodN]
  | succ n ih => exact Int.mul_pos (ih fun i hi => h i (by omega)) (h n (by omega))

/-- Not all minors of a normal form are zero. -/
theorem Hnf.md {r N : Nat} {m : Nat → Nat → Int} {piv : Nat → Nat} (h : Hnf r N m piv) : ¬ MD r r N m 0 := by
  intro hm
  have := hm id piv (fun a ha => ha) h.lt
  rw [det_upper r (fun a b => m (id a) (piv b)) (fun i k hki hi => h.zero i _ hi (h.mono k i hki hi))] at this
  exact prodN_ne (fun i hi => by have := h.pos i hi; show m i (piv i) ≠ 0; omega) (Int.zero_dvd.1 this)

/-- A matrix of a diagonal. -/
def dg (l : Nat → Int) : Nat → Nat → Int := fun i k => if i = k then l i else 0

theorem det_scale {n : Nat} (c : Nat → Int) (M : Nat → Nat → Int) : det n (fun a b => c a * M a b) = prodN n c * det n M := by
  have key : ∀ t, t ≤ n → det n (fun a b => (if a < t then c a else 1) * M a b) = prodN t c * det n M := by
    intro t
    induction t with
    | zero =>
      intro _
      simp only [prodN, Int.one_mul]
      exact det_congr n fun i j _ _ => by rw [if_neg (by omega), Int.one_mul]
    | succ t ih =>
      intro ht
      have h1 := (det_am n).smul (M := fun a b => (if a < t then c a else 1) * M a b) (r := t) (a := c t) (u := M t) (by omega)
      have h2 : det n (fun a b => (if a < t + 1 then c a else 1) * M a b) = det n (upd2 (fun a b => (if a < t then c a else 1) * M a b) t fun b => c t * M t b) := det_congr n fun i j _ _ => by
        unfold upd2
        by_cases e : i = t
        · subst e; rw [if_pos (by omega), if_pos rfl]
        · rw [if_neg e]
          congr 1
          by_cases e2 : i < t
          · rw [if_pos (by omega), if_pos e2]
          · rw [if_neg (by omega), if_neg e2]
      have h3 : det n (upd2 (fun a b => (if a < t then c a else 1) * M a b) t (M t)) = det n (fun a b => (if a < t then c a else 1) * M a b) := det_congr n fun i j _ _ => by
        unfold upd2
        by_cases e : i = t
        · subst e; rw [if_pos rfl, if_neg (by omega), Int.one_mul]
        · rw [if_neg e]
      rw [h2, h1, h3, ih (by omega)]
      simp only [prodN]
      rw [← Int.mul_assoc, Int.mul_comm (c t)]
  have := key n (Nat.le_refl _)
  rw [← this]
  exact det_congr n fun i j hi _ => by rw [if_pos hi]

/-- A chain of divisors: positive, each divides the later ones. -/
structure Chain (r : Nat) (l : Nat → Int) : Prop where
  pos : ∀ i, i < r → 0 < l i
  dvd : ∀ i j, i < j → j < r → l i ∣ l j

theorem Chain.md {r N k : Nat} {l : Nat → Int} (h : Chain r l) (hr : r ≤ N) (hk : k ≤ r) (c : Int) : MD k r N (dg l) c ↔ c ∣ prodN k l := by
  constructor
  · intro hm
    have := hm id id (fun a ha => by show a < r; omega) (fun a ha => by show a < N; omega)
    rw [det_upper k (fun a b => dg l (id a) (id b)) (fun i j hji hi => by unfold dg; rw [if_neg (by show ¬ i = j; omega)])] at this
    rw [prodN_congr (g := l) (fun i hi => by show (if i = i then l i else 0) = l i; rw [if_pos rfl])] at this
    exact this
  · intro hc f g hf hg
    refine Int.dvd_trans hc ?_
    rcases (am_cols hg).sort (dg l) r _ f (fun a ha => Nat.le_of_lt (hf a ha)) (Nat.le_refl _) with e | ⟨s, t, -, hs, hm, e⟩
    · show prodN k l ∣ det k fun a b => dg l (f a) (g b)
      rw [show (det k fun a b => dg l (f a) (g b)) = 0 from e]
      exact Int.dvd_zero _
    · show prodN k l ∣ det k fun a b => dg l (f a) (g b)
      rw [show (det k fun a b => dg l (f a) (g b)) = t * det k fun a b => dg l (s a) (g b) from e]
      refine Int.dvd_trans ?_ (Int.dvd_mul_left _ _)
      have hlt : ∀ a, a < k → s a < r := fun a ha => by
        obtain ⟨b, hb, e⟩ := hs a ha
        rw [e]; exact hf b hb
      have hge := incr_ge hlt hm
      have hd : ∀ a, a < k → l a ∣ l (s a) := fun a ha => by
        rcases Nat.eq_or_lt_of_le (hge a ha) with e | e
        · rw [← e]; exact Int.dvd_refl _
        · exact h.dvd _ _ e (hlt a ha)
      rw [det_congr k (M' := fun a b => l a * ((l (s a) / l a) * if s a = g b then 1 else 0)) (fun i j hi _ => by
        unfold dg
        split
        · rw [Int.mul_one, Int.mul_ediv_cancel' (hd i hi)]
        · simp)]
      rw [det_scale]
      exact Int.dvd_mul_right _ _

theorem dg_trn (l : Nat → Int) : trn (dg l) = dg l := by
  funext x y
  unfold trn dg
  by_cases h : x = y
  · subst h; rfl
  · rw [if_neg h, if_neg (Ne.symm h)]

/-- Two elements p g, q g of a diagonal put in the place of each other's greatest common divisor and least common multiple. -/
theorem dg_step {R k i j : Nat} {l l' : Nat → Int} {g p q u v c : Int} (hi : i < R) (hj : j < R) (hij : i ≠ j) (hp : l i = p * g) (hq : l j = q * g) (e1 : u * p + v * q = 1)
    (gi : l' i = g) (gj : l' j = p * (q * g)) (go : ∀ x, x ≠ i → x ≠ j → l' x = l x) : MD k R R (dg l) c ↔ MD k R R (dg l') c := by
  have hji : j ≠ i := fun h => hij h.symm
  obtain ⟨C, hC⟩ : ∃ C : Nat → Nat → Int, C = fun x y => if x = i then (if y = i then p * g else if y = j then - (p * (v * (q * g))) else 0) else if x = j then (if y = i then q * g else if y = j then u * (p * (q * g)) else 0) else dg l x y := ⟨_, rfl⟩
  have Ci : ∀ y, C i y = if y = i then p * g else if y = j then - (p * (v * (q * g))) else 0 := fun y => by rw [hC]; simp
  have Cj : ∀ y, C j y = if y = i then q * g else if y = j then u * (p * (q * g)) else 0 := fun y => by rw [hC]; simp [hji]
  have Co : ∀ x y, x ≠ i → x ≠ j → C x y = if x = y then l x else 0 := fun x y h1 h2 => by rw [hC]; simp [h1, h2, dg]
  clear hC
  have Ti : ∀ y, trn C i y = if y = i then p * g else if y = j then q * g else 0 := fun y => by
    show C y i = _
    by_cases h1 : y = i
    · subst h1; rw [Ci]; simp
    · by_cases h2 : y = j
      · subst h2; rw [Cj]; simp [h1]
      · rw [Co y i h1 h2]; simp [h1, h2]
  have Tj : ∀ y, trn C j y = if y = i then - (p * (v * (q * g))) else if y = j then u * (p * (q * g)) else 0 := fun y => by
    show C y j = _
    by_cases h1 : y = i
    · subst h1; rw [Ci]; simp [hji]
    · by_cases h2 : y = j
      · subst h2; rw [Cj]; simp [h1]
      · rw [Co y j h1 h2]; simp [h1, h2]
  have To : ∀ x y, x ≠ i → x ≠ j → trn C x y = if x = y then l x else 0 := fun x y h1 h2 => by
    show C y x = _
    by_cases h3 : y = i
    · subst h3; rw [Ci]; simp [h1, h2]
    · by_cases h4 : y = j
      · subst h4; rw [Cj]; simp [h1, h2]
      · rw [Co y x h3 h4]
        by_cases h5 : y = x
        · subst h5; simp
        · simp [h5, Ne.symm h5]
  have Ai : ∀ y, dg l i y = if y = i then p * g else 0 := fun y => by unfold dg; rw [hp]; simp only [@eq_comm _ i y]
  have Aj : ∀ y, dg l j y = if y = j then q * g else 0 := fun y => by unfold dg; rw [hq]; simp only [@eq_comm _ j y]
  have Bi : ∀ y, dg l' i y = if y = i then g else 0 := fun y => by unfold dg; rw [gi]; simp only [@eq_comm _ i y]
  have Bj : ∀ y, dg l' j y = if y = j then p * (q * g) else 0 := fun y => by unfold dg; rw [gj]; simp only [@eq_comm _ j y]
  have e2 : p * u + q * v = 1 := by rw [Int.mul_comm p, Int.mul_comm q]; exact e1
  have up : ∀ z : Int, u * (p * z) + v * (q * z) = z := fun z => by rw [← Int.mul_assoc, ← Int.mul_assoc, ← Int.add_mul, e1, Int.one_mul]
  constructor
  · intro h
    -- the columns, then the rows
    have h1 : MD k R R (trn C) c := (dg_trn l ▸ h.trn : MD k R R (dg l) c).lat fun x hx => by
      by_cases c1 : x = i
      · subst c1
        exact ((Lat.row hi).add (Lat.row hj)).congr fun y _ => by
          rw [Ai, Aj, Ti]
          by_cases d1 : y = x
          · subst d1; simp [hij, hji]
          · simp [d1, hij, hji]
      · by_cases c2 : x = j
        · subst c2
          exact (((Lat.row hj).smul (u * p)).sub ((Lat.row hi).smul (v * q))).congr fun y _ => by
            rw [Ai, Aj, Tj]
            by_cases d1 : y = i
            · subst d1; simp [hij, hji]; ((try simp only [Int.mul_add, Int.add_mul, Int.mul_sub, Int.sub_mul, Int.neg_mul, Int.mul_neg, Int.mul_assoc, Int.mul_comm, Int.mul_left_comm]) <;> omega)
            · by_cases d2 : y = x
              · subst d2; simp [d1, hij, hji]; ((try simp only [Int.mul_add, Int.add_mul, Int.mul_sub, Int.sub_mul, Int.neg_mul, Int.mul_neg, Int.mul_assoc, Int.mul_comm, Int.mul_left_comm]) <;> omega)
              · simp [d1, d2, hij, hji]
        · exact (Lat.row hx).congr fun y _ => by rw [To x y c1 c2]; rfl
    have h2 : MD k R R C c := h1.trn
    exact h2.lat fun x hx => by
      by_cases c1 : x = i
      · subst c1
        exact (((Lat.row hi).smul u).add ((Lat.row hj).smul v)).congr fun y _ => by
          rw [Ci, Cj, Bi]
          by_cases d1 : y = x
          · subst d1; simp; exact up g
          · by_cases d2 : y = j
            · subst d2; simp [d1, hij, hji]; ((try simp only [Int.mul_add, Int.add_mul, Int.mul_sub, Int.sub_mul, Int.neg_mul, Int.mul_neg, Int.mul_assoc, Int.mul_comm, Int.mul_left_comm]) <;> omega)
            · simp [d1, d2, hij, hji]
      · by_cases c2 : x = j
        · subst c2
          exact (((Lat.row hj).smul p).sub ((Lat.row hi).smul q)).congr fun y _ => by
            rw [Ci, Cj, Bj]
            by_cases d1 : y = i
            · subst d1; simp [hij, hji]; ((try simp only [Int.mul_add, Int.add_mul, Int.mul_sub, Int.sub_mul, Int.neg_mul, Int.mul_neg, Int.mul_assoc, Int.mul_comm, Int.mul_left_comm]) <;> omega)
            · by_cases d2 : y = x
              · subst d2; simp [d1, hij, hji]
                have := up (p * (q * g))
                (simp only [Int.mul_add, Int.add_mul, Int.mul_sub, Int.sub_mul, Int.neg_mul, Int.mul_neg, Int.mul_assoc, Int.mul_comm, Int.mul_left_comm] at this ⊢) <;> omega
              · simp [d1, d2, hij, hji]
        · exact (Lat.row hx).congr fun y _ => by rw [Co x y c1 c2]; unfold dg; rw [go x c1 c2]
  · intro h
    have h1 : MD k R R C c := h.lat fun x hx => by
      by_cases c1 : x = i
      · subst c1
        exact (((Lat.row hi).smul p).sub ((Lat.row hj).smul v)).congr fun y _ => by
          rw [Ci, Bi, Bj]
          by_cases d1 : y = x
          · subst d1; simp [hij, hji]
          · by_cases d2 : y = j
            · subst d2; simp [d1, hij, hji]; ((try simp only [Int.mul_add, Int.add_mul, Int.mul_sub, Int.sub_mul, Int.neg_mul, Int.mul_neg, Int.mul_assoc, Int.mul_comm, Int.mul_left_comm]) <;> omega)
            · simp [d1, d2, hij, hji]
      · by_cases c2 : x = j
        · subst c2
          exact (((Lat.row hi).smul q).add ((Lat.row hj).smul u)).congr fun y _ => by
            rw [Cj, Bi, Bj]
            by_cases d1 : y = i
            · subst d1; simp [hij, hji]
            · by_cases d2 : y = x
              · subst d2; simp [d1, hij, hji]
              · simp [d1, d2, hij, hji]
        · exact (Lat.row hx).congr fun y _ => by rw [Co x y c1 c2]; unfold dg; rw [go x c1 c2]
    have h2 : MD k R R (trn C) c := h1.trn
    refine (h2.lat (R' := R) (B := dg l) fun x hx => ?_)
    by_cases c1 : x = i
    · subst c1
      exact (((Lat.row hi).smul (u * p)).sub (Lat.row hj)).congr fun y _ => by
        rw [Ti, Tj, Ai]
        by_cases d1 : y = x
        · subst d1; simp
          have := up (p * g)
          (simp only [Int.mul_add, Int.add_mul, Int.mul_sub, Int.sub_mul, Int.neg_mul, Int.mul_neg, Int.mul_assoc, Int.mul_comm, Int.mul_left_comm] at this ⊢) <;> omega
        · by_cases d2 : y = j
          · subst d2; simp [d1, hij, hji]; ((try simp only [Int.mul_add, Int.add_mul, Int.mul_sub, Int.sub_mul, Int.neg_mul, Int.mul_neg, Int.mul_assoc, Int.mul_comm, Int.mul_left_comm]) <;> omega)
          · simp [d1, d2, hij, hji]
    · by_cases c2 : x = j
      · subst c2
        exact (((Lat.row hi).smul (v * q)).add (Lat.row hj)).congr fun y _ => by
          rw [Ti, Tj, Aj]
          by_cases d1 : y = i
          · subst d1; simp [hij, hji]; ((try simp only [Int.mul_add, Int.add_mul, Int.mul_sub, Int.sub_mul, Int.neg_mul, Int.mul_neg, Int.mul_assoc, Int.mul_comm, Int.mul_left_comm]) <;> omega)
          · by_cases d2 : y = x
            · subst d2; simp [d1, hij, hji]
              have := up (q * g)
              (simp only [Int.mul_add, Int.add_mul, Int.mul_sub, Int.sub_mul, Int.neg_mul, Int.mul_neg, Int.mul_assoc, Int.mul_comm, Int.mul_left_comm] at this ⊢) <;> omega
            · simp [d1, d2, hij, hji]
      · exact (Lat.row hx).congr fun y _ => by rw [To x y c1 c2]; rfl

/-- There is one chain. -/
theorem Chain.uniq {r r' N N' : Nat} {l l' : Nat → Int} (h : Chain r l) (h' : Chain r' l') (hr : r ≤ N) (hr' : r' ≤ N') (e : ∀ k c, MD k r N (dg l) c ↔ MD k r' N' (dg l') c) : r = r' ∧ ∀ i, i < r → l i = l' i := by
  have hle : ∀ {r r' N N' : Nat} {l l' : Nat → Int}, Chain r l → r ≤ N → (∀ k c, MD k r N (dg l) c ↔ MD k r' N' (dg l') c) → r ≤ r' := fun {r r' N N' l l'} h hr e => by
    refine Classical.byContradiction fun hlt => ?_
    have := (h.md hr (Nat.le_refl _) 0).1 ((e r 0).2 (MD.many (by omega)))
    exact prodN_ne (fun i hi => by have := h.pos i hi; omega) (Int.zero_dvd.1 this)
  have er : r = r' := Nat.le_antisymm (hle h hr e) (hle h' hr' fun k c => (e k c).symm)
  subst er
  refine ⟨rfl, ?_⟩
  have hp : ∀ k, k ≤ r → prodN k l = prodN k l' := fun k hk => by
    have p1 := prodN_pos (n := k) (f := l) fun i hi => h.pos i (by omega)
    have p2 := prodN_pos (n := k) (f := l') fun i hi => h'.pos i (by omega)
    refine Int.dvd_antisymm (by omega) (by omega) ?_ ?_
    · exact (h'.md hr' hk _).1 ((e k _).1 ((h.md hr hk _).2 (Int.dvd_refl _)))
    · exact (h.md hr hk _).1 ((e k _).2 ((h'.md hr' hk _).2 (Int.dvd_refl _)))
  intro i hi
  have e1 := hp i (by omega)
  have e2 := hp (i + 1) (by omega)
  simp only [prodN] at e2
  rw [e1] at e2
  have p2 := prodN_pos (n := i) (f := l') fun j hj => h'.pos j (by omega)
  exact Int.eq_of_mul_eq_mul_left (by omega) e2
end Go.Proofs.YtdbpkoddfcdhdaaGreat

namespace Go.Proofs.YtdbpkoddfcdhdaaGreat

theorem bezout (a b : Int) : ∃ u v : Int, u * a + v * b = Int.gcd a b := by
  have key : ∀ (n : Nat) (a b : Int), b.natAbs ≤ n → ∃ u v : Int, u * a + v * b = Int.gcd a b := by
    intro n
    induction n with
    | zero =>
      intro a b hb
      have : b = 0 := by omega
      subst this
      rcases Int.natAbs_eq a with h | h
      · exact ⟨1, 0, by rw [Int.gcd_zero_right]; omega⟩
      · exact ⟨-1, 0, by rw [Int.gcd_zero_right]; omega⟩
    | succ n ih =>
      intro a b hb
      by_cases h0 : b = 0
      · exact ih a b (by omega)
      · have hlt : (a % b).natAbs < b.natAbs := by
          have h1 := Int.emod_nonneg a h0
          have h2 := Int.emod_lt a h0
          omega
        obtain ⟨u, v, e⟩ := ih b (a % b) (by omega)
        refine ⟨v, u - v * (a / b), ?_⟩
        have hd := Int.mul_ediv_add_emod a b
        have hg : Int.gcd b (a % b) = Int.gcd a b := by
          refine Nat.dvd_antisymm (Int.dvd_gcd ?_ (Int.gcd_dvd_left ..)) (Int.dvd_gcd (Int.gcd_dvd_right ..) ?_)
          · have := Int.dvd_add (Int.dvd_trans (Int.gcd_dvd_left b (a % b)) (Int.dvd_mul_right b (a / b))) (Int.gcd_dvd_right b (a % b))
            rw [hd] at this; exact this
          · have := Int.dvd_sub (Int.gcd_dvd_left a b) (Int.dvd_trans (Int.gcd_dvd_right a b) (Int.dvd_mul_right b (a / b)))
            rw [show a - b * (a / b) = a % b by omega] at this; exact this
        rw [← hg, ← e]
        have : v * a = v * (b * (a / b)) + v * (a % b) := by rw [← Int.mul_add, hd]
        rw [this]
        ((try simp only [Int.mul_add, Int.add_mul, Int.mul_sub, Int.sub_mul, Int.neg_mul, Int.mul_neg, Int.mul_assoc, Int.mul_comm, Int.mul_left_comm]) <;> omega)
  exact key _ a b (Nat.le_refl _)

theorem Bt.mul {a b : Int} {E F : Nat} (ha : Bt a E) (hb : Bt b F) : Bt (a * b) (E + F) := by
  unfold Bt at *
  rw [Int.natAbs_mul]
  have := quarter ha (Nat.le_of_lt hb)
  omega
theorem Bt.prod {n : Nat} {f : Nat → Int} {E : Nat} (h : ∀ i, i < n → Bt (f i) E) (hn : 0 < n) : Bt (prodN n f) (n * E) := by
  induction n with
  | zero => omega
  | succ n ih =>
    simp only [prodN]
    rcases Nat.eq_zero_or_pos n with e | e
    · subst e
      simpa [prodN] using h 0 (by omega)
    · rw [Nat.add_mul, Nat.one_mul]
      exact (ih (fun i hi => h i (by omega)) e).mul (h n (by omega))
theorem prodN_ge {n : Nat} {f : Nat → Int} (h : ∀ i, i < n → 0 < f i) {j : Nat} (hj : j < n) : f j ≤ prodN n f := by
  induction n with
  | zero => omega
  | succ n ih =>
    simp only [prodN]
    have hp := prodN_pos (n := n) (f := f) fun i hi => h i (by omega)
    have hf := h n (by omega)
    by_cases e : j = n
    · subst e
      have := Int.mul_le_mul_of_nonneg_right (show 1 ≤ prodN j f by omega) (show 0 ≤ f j by omega)
      omega
    · have h1 := ih (fun i hi => h i (by omega)) (by omega)
      have := Int.mul_le_mul_of_nonneg_left (show 1 ≤ f n by omega) (show 0 ≤ prodN n f by omega)
      omega
theorem Bt.le {x y : Int} {E : Nat} (h : Bt y E) (h0 : 0 ≤ x) (hxy : x ≤ y) : Bt x E := by
  unfold Bt at *; omega

/-- The first index that has not p. -/
def lead (p : Nat → Bool) : Nat → Nat → Nat
  | 0, i => i
  | n + 1, i => if p i then lead p n (i + 1) else i
theorem lead_spec (p : Nat → Bool) : ∀ n i, i ≤ lead p n i ∧ lead p n i ≤ i + n ∧ (∀ j, i ≤ j → j < lead p n i → p j = true) ∧ (lead p n i < i + n → p (lead p n i) = false) := by
  intro n
  induction n with
  | zero => intro i; exact ⟨Nat.le_refl _, Nat.le_refl _, fun j h1 h2 => by simp [lead] at h2; omega, fun h => by simp [lead] at h⟩
  | succ n ih =>
    intro i
    obtain ⟨a, b, c, d⟩ := ih (i + 1)
    cases hp : p i with
    | true =>
      simp only [lead, hp, if_true]
      refine ⟨by omega, by omega, fun j h1 h2 => ?_, fun h => d (by omega)⟩
      by_cases e : j = i
      · rw [e]; exact hp
      · exact c j (by omega) h2
    | false =>
      simp only [lead, hp]
      exact ⟨Nat.le_refl _, by simp, fun j h1 h2 => by simp at h2; omega, fun _ => hp⟩

section
variable {r : Nat} {H H' : Nat → Nat → Int} {piv piv' : Nat → Nat}

theorem Hnf.piv_id (h : Hnf r r H piv) : ∀ i, i < r → piv i = i := incr_id h.lt h.mono

theorem Hnf.dvd_at (h : Hnf r r H piv) {v : Nat → Int} (hv : Lat r r H v) {i : Nat} (hi : i < r) (hz : ∀ j, j < i → v j = 0) : ∃ q, v i = q * H i i := by
  by_cases h0 : v i = 0
  · exact ⟨0, by rw [h0, Int.zero_mul]⟩
  · obtain ⟨j, q, hj, h1, h2, h3⟩ := h.lead hv ⟨i, hi, h0⟩
    rw [h.piv_id j hj] at h1 h2 h3
    have : j = i := by
      rcases Nat.lt_trichotomy j i with hl | he | hg
      · exact absurd (hz j hl) h2
      · exact he
      · exact absurd (h1 i hg) h0
    subst this
    exact ⟨q, h3⟩

theorem Hnf.split (h : Hnf r r H piv) {i : Nat} (hi : i < r) (hv : Lat r r H (fun k => if k = i then H i i else 0)) : ∀ k, k < r → k ≠ i → H i k = 0 := by
  intro k hk hki
  refine Classical.byContradiction fun hne => ?_
  have hL : Lat r r H (fun k => H i k - if k = i then H i i else 0) := (Lat.row hi).sub hv
  obtain ⟨j, q, hj, h1, h2, h3⟩ := h.lead hL ⟨k, hk, by rw [if_neg hki]; omega⟩
  rw [h.piv_id j hj] at h1 h2 h3
  have hji : j ≠ i := fun e => by subst e; simp at h2
  rw [if_neg hji, Int.sub_zero] at h2 h3
  have hgt : i < j := by
    rcases Nat.lt_trichotomy j i with hl | he | hg
    · exact absurd (h.zero i j hi (by rw [h.piv_id i hi]; exact hl)) h2
    · exact absurd he hji
    · exact hg
  have hr := h.red i j hgt hj
  rw [h.piv_id j hj] at hr
  have hd : H j j ∣ H i j := ⟨q, by rw [h3, Int.mul_comm]⟩
  exact h2 (Int.eq_zero_of_dvd_of_natAbs_lt_natAbs hd (by omega))

theorem Hnf.bound (h : Hnf r r H piv) {i k : Nat} (hi : i < r) (hk : k < r) : 0 ≤ H i k ∧ H i k ≤ prodN r fun x => H x x := by
  have hpos : ∀ x, x < r → 0 < H x x := fun x hx => by have := h.pos x hx; rw [h.piv_id x hx] at this; exact this
  have hge := fun j hj => prodN_ge hpos (j := j) hj
  have hpp := prodN_pos hpos
  rcases Nat.lt_trichotomy i k with hl | he | hg
  · have := h.red i k hl hk
    rw [h.piv_id k hk] at this
    have := hge k hk
    omega
  · subst he
    have := hpos i hi
    have := hge i hi
    omega
  · rw [h.zero i k hi (by rw [h.piv_id i hi]; exact hg)]
    omega

/-- The rows of the next normal form. -/
theorem split_next (h : Hnf r r H piv) (h' : Hnf r r H' piv') (sl : ∀ v, Lat r r H' v ↔ Lat r r (trn H) v) {s : Nat} (hs : s < r) (hsp : ∀ i, i < s → ∀ k, k < r → k ≠ i → H i k = 0) :
    (∀ i, i < s → ∀ k, k < r → k ≠ i → H' i k = 0) ∧ (H' s s < H s s ∨ ∀ k, k < r → k ≠ s → H' s k = 0) := by
  have hpos : ∀ x, x < r → 0 < H x x := fun x hx => by have := h.pos x hx; rw [h.piv_id x hx] at this; exact this
  have hpos' : ∀ x, x < r → 0 < H' x x := fun x hx => by have := h'.pos x hx; rw [h'.piv_id x hx] at this; exact this
  have hcol : ∀ i, i ≤ s → Lat r r H' (fun k => if k = i then H i i else 0) := fun i hi => (sl _).2 ((Lat.row (m := Go.Proofs.YtdbpkoddfcdhdaaGreat.trn H) (i := i) (by omega)).congr fun k hk => by
    show H k i = _
    split
    · rename_i e; rw [e]
    · rename_i e
      rcases Nat.lt_or_ge k i with hl | hg
      · exact hsp k (by omega) i (by omega) (by omega)
      · exact h.zero k i hk (by rw [h.piv_id k hk]; omega))
  have hle : ∀ i, i ≤ s → ∃ q, H i i = q * H' i i := fun i hi => by
    obtain ⟨q, hq⟩ := h'.dvd_at (hcol i hi) (i := i) (by omega) (fun j hj => by rw [if_neg (by omega)])
    rw [if_pos rfl] at hq
    exact ⟨q, hq⟩
  have hspl : ∀ i, i ≤ s → H' i i = H i i → ∀ k, k < r → k ≠ i → H' i k = 0 := fun i hi e => h'.split (by omega) (by rw [e]; exact hcol i hi)
  refine ⟨fun i hi => ?_, ?_⟩
  · refine hspl i (by omega) ?_
    obtain ⟨q, hq⟩ := hle i (by omega)
    obtain ⟨c, hc⟩ := (sl _).1 (Lat.row (m := H') (i := i) (by omega))
    have h1 := hc i (by omega)
    rw [sumN_one (j := i) (by omega) (fun k hk hne => by show c k * H i k = 0; rw [hsp i hi k hk hne, Int.mul_zero])] at h1
    have h2 : H' i i = c i * H i i := h1
    have p1 := hpos i (by omega)
    have p2 := hpos' i (by omega)
    exact Int.dvd_antisymm (by omega) (by omega) ⟨q, by rw [hq, Int.mul_comm]⟩ ⟨c i, by rw [h2, Int.mul_comm]⟩
  · obtain ⟨q, hq⟩ := hle s (Nat.le_refl _)
    have p1 := hpos s hs
    have p2 := hpos' s hs
    by_cases e : H' s s = H s s
    · exact .inr (hspl s (Nat.le_refl _) e)
    · left
      have := Int.le_of_dvd p1 (show H' s s ∣ H s s from ⟨q, by rw [hq, Int.mul_comm]⟩)
      omega
end
end Go.Proofs.YtdbpkoddfcdhdaaGreat

namespace Go.Proofs.YtdbpkoddfcdhdaaGreat
open Go.RowKit

theorem trM_at {r N : Nat} {h : List (List Int)} (hs : Shape r N h) (hr : 0 < r) {i : Nat} (hi : i < N) : (trM h).getD i [] = colM h i := by
  unfold trM
  rw [hs.2 0 hr]
  simp [List.getD_eq_getElem?_getD, hi]
theorem trM_shape {r N : Nat} {h : List (List Int)} (hs : Shape r N h) (hr : 0 < r) : Shape N r (trM h) := by
  refine ⟨by rw [trM, List.length_map, List.length_range, hs.2 0 hr], fun i hi => ?_⟩
  rw [trM_at hs hr hi, colM, List.length_map, hs.1]
theorem en_trM {r N : Nat} {h : List (List Int)} (hs : Shape r N h) (hr : 0 < r) {i k : Nat} (hi : i < N) (hk : k < r) : en (trM h) i k = en h k i := by
  have hl := hs.1
  unfold en
  rw [trM_at hs hr hi, colM]
  simp [List.getD_eq_getElem?_getD, hl, hk]
theorem trM_bt {r N E : Nat} {h : List (List Int)} (hs : Shape r N h) (hr : 0 < r) (hb : ∀ j k, Bt (en h j k) E) (i k : Nat) : Bt (en (trM h) i k) E := by
  by_cases hk : k < r
  · by_cases hi : i < N
    · rw [en_trM hs hr hi hk]; exact hb k i
    · have hl := (trM_shape hs hr).1
      unfold en
      rw [show (trM h).getD i [] = [] by simp [List.getD_eq_getElem?_getD, List.getElem?_eq_none (show (trM h).length ≤ i by omega)]]
      exact Bt.zero
  · rw [en_out (trM_shape hs hr) (by omega)]; exact Bt.zero

/-- All full minors are the determinant, its opposite, or zero. -/
theorem MD.full (r : Nat) (A : Nat → Nat → Int) : MD r r r A (det r A) := by
  have one : ∀ (A : Nat → Nat → Int) (g : Nat → Nat), (∀ a, a < r → g a < r) → det r A ∣ det r fun a b => A (g a) b := fun A g hg => by
    rcases (det_am r).sort A r _ g (fun a ha => Nat.le_of_lt (hg a ha)) (Nat.le_refl _) with e | ⟨s, t, -, hs, hm, e⟩
    · rw [show (det r fun a b => A (g a) b) = 0 from e]; exact Int.dvd_zero _
    · rw [show (det r fun a b => A (g a) b) = t * det r fun a => A (s a) from e]
      have hid := incr_id (s := s) (fun i hi => by obtain ⟨b, hb, eb⟩ := hs i hi; rw [eb]; exact hg b hb) hm
      rw [det_congr r (M := fun a => A (s a)) (M' := A) (fun i k hi _ => by rw [hid i hi])]
      exact Int.dvd_mul_left _ _
  intro f g hf hg
  refine Int.dvd_trans ?_ (one (fun a b => A a (g b)) f hf)
  have := one (Go.Proofs.YtdbpkoddfcdhdaaGreat.trn A) g hg
  rw [det_trn] at this
  rw [← det_trn r (fun a b => A a (g b))]
  exact this

/-- Two triangular matrices with the same minors. -/
theorem tri_same {r : Nat} {A B : Nat → Nat → Int} (ha : ∀ i k, k < i → i < r → A i k = 0) (hb : ∀ i k, k < i → i < r → B i k = 0) (pa : ∀ i, i < r → 0 < A i i) (pb : ∀ i, i < r → 0 < B i i)
    (e : ∀ k c, MD k r r A c ↔ MD k r r B c) : (prodN r fun i => A i i) = prodN r fun i => B i i := by
  have h1 := det_upper r A ha
  have h2 := det_upper r B hb
  have p1 := prodN_pos pa
  have p2 := prodN_pos pb
  refine Int.dvd_antisymm (by omega) (by omega) ?_ ?_
  · have := (e r _).1 (MD.full r A) id id (fun a ha => ha) (fun a ha => ha)
    rw [← h1, ← h2]; exact this
  · have := (e r _).2 (MD.full r B) id id (fun a ha => ha) (fun a ha => ha)
    rw [← h1, ← h2]; exact this

theorem Hnf.upper {r : Nat} {H : Nat → Nat → Int} {piv : Nat → Nat} (h : Hnf r r H piv) : (∀ i k, k < i → i < r → H i k = 0) ∧ ∀ i, i < r → 0 < H i i :=
  ⟨fun i k hk hi => h.zero i k hi (by rw [h.piv_id i hi]; exact hk), fun i hi => by have := h.pos i hi; rw [h.piv_id i hi] at this; exact this⟩

/-- The states of Smith's matrix: all minors are those of m. -/
def HSt (R0 N0 : Nat) (m : List (List Int)) (E1 : Nat) (h : List (List Int)) : Prop :=
  ∃ N piv, N ≤ 5 ∧ Shape h.length N h ∧ Hnf h.length N (en h) piv ∧ (∀ k c, MD k h.length N (en h) c ↔ MD k R0 N0 (en m) c) ∧
    ((∀ j k, Bt (en h j k) E1) ∨ (N = h.length ∧ Bt (prodN h.length fun i => en h i i) (3600 * E1)))

def sp (h : List (List Int)) : Nat := lead (fun i => (List.range h.length).all fun k => decide (k = i) || decide (en h i k = 0)) h.length 0
theorem sp_spec (h : List (List Int)) : sp h ≤ h.length ∧ (∀ i, i < sp h → ∀ k, k < h.length → k ≠ i → en h i k = 0) ∧ (sp h < h.length → ¬ ∀ k, k < h.length → k ≠ sp h → en h (sp h) k = 0) := by
  obtain ⟨-, a, b, c⟩ := lead_spec (fun i => (List.range h.length).all fun k => decide (k = i) || decide (en h i k = 0)) h.length 0
  change sp h ≤ _ at a
  change ∀ j, 0 ≤ j → j < sp h → _ at b
  change sp h < _ → _ at c
  refine ⟨by omega, fun i hi k hk hne => ?_, fun hlt hall => ?_⟩
  · have := b i (Nat.zero_le _) hi
    simp only [List.all_eq_true, List.mem_range, Bool.or_eq_true, decide_eq_true_eq] at this
    exact (this k hk).resolve_left hne
  · have := c (by omega)
    change (List.all _ fun k => decide (k = sp h) || decide (en h (sp h) k = 0)) = false at this
    have ht : ((List.range h.length).all fun k => decide (k = sp h) || decide (en h (sp h) k = 0)) = true := by
      simp only [List.all_eq_true, List.mem_range, Bool.or_eq_true, decide_eq_true_eq]
      intro k hk
      by_cases e : k = sp h
      · exact .inl e
      · exact .inr (hall k hk e)
    rw [ht] at this
    cases this

def mu (E1 : Nat) (h : List (List Int)) : Nat :=
  if (h.getD 0 []).length = h.length then (h.length - sp h) * (2 ^ (3600 * E1) + 1) + (en h (sp h) (sp h)).natAbs else (h.length + 1) * (2 ^ (3600 * E1) + 1)

section
variable {R0 N0 E1 : Nat} {m : List (List Int)}

theorem HSt.bts {h : List (List Int)} (hE0 : 0 < E1) (hh : HSt R0 N0 m E1 h) : ∀ j k, Bt (en h j k) (3600 * E1) := by
  obtain ⟨N, piv, hN, hs, hn, hm, hb⟩ := hh
  intro j k
  rcases hb with hb | ⟨rfl, hb⟩
  · exact (hb j k).mono (by omega)
  · by_cases hj : j < h.length
    · by_cases hk : k < h.length
      · have := hn.bound hj hk
        exact hb.le this.1 this.2
      · rw [en_out hs (by omega)]; exact Bt.zero
    · unfold en
      rw [show h.getD j [] = [] by simp [List.getD_eq_getElem?_getD, List.getElem?_eq_none (show h.length ≤ j by omega)]]
      exact Bt.zero

theorem Bt.abs_lt {x : Int} {E : Nat} (h : Bt x E) : x.natAbs < 2 ^ E := by unfold Bt at h; omega

theorem not_diag {N : Nat} {h : List (List Int)} (hs : Shape h.length N h) (hd : diagB h = false) : ∃ i k, i < h.length ∧ k < N ∧ k ≠ i ∧ en h i k ≠ 0 := by
  refine Classical.byContradiction fun hno => ?_
  have : diagB h = true := (diagB_iff h).2 fun i hi k hk hne => Classical.byContradiction fun h0 => hno ⟨i, k, hi, by rw [hs.2 i hi] at hk; exact hk, fun e => hne e.symm, h0⟩
  rw [this] at hd
  cases hd

theorem mu_le {h : List (List Int)} (hE0 : 0 < E1) (hh : HSt R0 N0 m E1 h) (hsq : (h.getD 0 []).length = h.length) : mu E1 h ≤ (h.length - sp h) * (2 ^ (3600 * E1) + 1) + 2 ^ (3600 * E1) := by
  have := (hh.bts hE0 (sp h) (sp h)).abs_lt
  unfold mu
  rw [if_pos hsq]
  omega

theorem hst_step {h h' : List (List Int)} {N E : Nat} {piv piv' : Nat → Nat} (hE0 : 0 < E1) (hr : 0 < h.length) (hN : N ≤ 5) (hs : Shape h.length N h) (hn : Hnf h.length N (en h) piv) (hm : ∀ k c, MD k h.length N (en h) c ↔ MD k R0 N0 (en m) c)
    (hst : E = E1 ∨ (N = h.length ∧ Bt (prodN h.length fun i => en h i i) (3600 * E1))) (hd : diagB h = false)
    (hh : Herm N h.length (trM h) h' (720 * E) piv') : HSt R0 N0 m E1 h' ∧ mu E1 h' < mu E1 h := by
  have tsh := trM_shape hs hr
  have hm' : ∀ k c, MD k h'.length h.length (en h') c ↔ MD k h.length N (en h) c := fun k c => by
    constructor
    · intro hx
      have h1 : MD k N h.length (en (trM h)) c := hx.lat fun i hi => (hh.lat _).2 (Lat.row hi)
      exact (h1.trn).ext fun i j hi hj => en_trM hs hr hj hi
    · intro hx
      have h1 : MD k N h.length (en (trM h)) c := (hx.trn).ext fun i j hi hj => (en_trM hs hr hi hj).symm
      exact h1.lat fun i hi => (hh.lat _).1 (Lat.row hi)
  have el : h'.length = h.length := by
    refine Nat.le_antisymm ?_ ?_
    · rcases Nat.eq_zero_or_pos h'.length with e | e
      · omega
      · have h1 := incr_ge hh.hn.lt hh.hn.mono (h'.length - 1) (by omega)
        have h2 := hh.hn.lt (h'.length - 1) (by omega)
        omega
    · refine Classical.byContradiction fun hlt => hn.md ((hm' _ 0).1 (MD.many (by omega)))
  have hn' := hh.hn
  have hs' := hh.sh
  rw [el] at hn' hs'
  have hlat := hh.lat
  rw [el] at hlat
  have hst' : HSt R0 N0 m E1 h' := by
    refine ⟨h.length, piv', ?_, by rw [el]; exact hs', by rw [el]; exact hn', fun k c => (hm' k c).trans (hm k c), .inr ⟨el.symm, ?_⟩⟩
    · have h1 := incr_ge hn.lt hn.mono (h.length - 1) (by omega)
      have h2 := hn.lt (h.length - 1) (by omega)
      omega
    · rw [el]
      rcases hst with rfl | ⟨rfl, hb⟩
      · have h5 : h.length ≤ 5 := by
          have h1 := incr_ge hn.lt hn.mono (h.length - 1) (by omega)
          have h2 := hn.lt (h.length - 1) (by omega)
          omega
        refine (Bt.prod (fun i _ => hh.bt i i) hr).mono ?_
        have := Nat.mul_le_mul_right (720 * E) h5
        omega
      · have hm2 := hm'
        rw [el] at hm2
        rw [tri_same hn'.upper.1 hn.upper.1 hn'.upper.2 hn.upper.2 hm2]
        exact hb
  refine ⟨hst', ?_⟩
  have hsq' : (h'.getD 0 []).length = h'.length := by rw [hs'.2 0 hr, el]
  have hmu := mu_le hE0 hst' hsq'
  obtain ⟨q1, q2, q3⟩ := sp_spec h'
  rw [el] at hmu q1 q2 q3
  by_cases hsq : (h.getD 0 []).length = h.length
  · have eN : N = h.length := by rw [← hsq, hs.2 0 hr]
    subst eN
    obtain ⟨s1, s2, s3⟩ := sp_spec h
    have hlt : sp h < h.length := by
      obtain ⟨i, k, hi, hk, hne, h0⟩ := not_diag hs hd
      refine Classical.byContradiction fun hge => h0 (s2 i (by omega) k hk hne)
    obtain ⟨t1, t2⟩ := split_next hn hn' (fun v => (hlat v).trans ⟨Lat.ext (fun i k hi hk => en_trM hs hr hi hk), Lat.ext (fun i k hi hk => (en_trM hs hr hi hk).symm)⟩) hlt s2
    have hge : sp h ≤ sp h' := by
      refine Classical.byContradiction fun hl => ?_
      exact q3 (by omega) (t1 _ (by omega))
    rw [show mu E1 h = (h.length - sp h) * (2 ^ (3600 * E1) + 1) + (en h (sp h) (sp h)).natAbs by unfold mu; rw [if_pos hsq]]
    rcases Nat.eq_or_lt_of_le hge with e | e
    · rcases t2 with t2 | t2
      · unfold mu
        rw [if_pos hsq', el, ← e]
        have := hn'.upper.2 (sp h) hlt
        omega
      · rw [e] at t2
        exact absurd t2 (q3 (by omega))
    · have h1 : (h.length - sp h') * (2 ^ (3600 * E1) + 1) + (2 ^ (3600 * E1) + 1) ≤ (h.length - sp h) * (2 ^ (3600 * E1) + 1) := by
        have := Nat.mul_le_mul_right (2 ^ (3600 * E1) + 1) (show h.length - sp h' + 1 ≤ h.length - sp h by omega)
        rw [Nat.add_mul, Nat.one_mul] at this
        exact this
      omega
  · rw [show mu E1 h = (h.length + 1) * (2 ^ (3600 * E1) + 1) by unfold mu; rw [if_neg hsq]]
    have := Nat.mul_le_mul_right (2 ^ (3600 * E1) + 1) (show h.length - sp h' ≤ h.length by omega)
    rw [Nat.add_mul, Nat.one_mul]
    omega

theorem hplan (hE0 : 0 < E1) (hE : 2592000 * E1 ≤ 4398046511104) : HPlan (HSt R0 N0 m E1) (mu E1) where
  s := fun {h} hh => by
    obtain ⟨N, piv, hN, hs, hn, -, -⟩ := hh
    rcases Nat.eq_zero_or_pos h.length with e | e
    · exact .inl (List.eq_nil_of_length_eq_zero e)
    · have h1 := incr_ge hn.lt hn.mono (h.length - 1) (by omega)
      have h2 := hn.lt (h.length - 1) (by omega)
      exact .inr ⟨h.length, N, e, by omega, by omega, hs⟩
  step := fun {h} hh hd => by
    have hbts := hh.bts hE0
    obtain ⟨N, piv, hN, hs, hn, hm, hb⟩ := hh
    have hr : 0 < h.length := by
      rcases Nat.eq_zero_or_pos h.length with e | e
      · rw [List.eq_nil_of_length_eq_zero e] at hd
        exact absurd hd (by decide)
      · exact e
    have h1 := incr_ge hn.lt hn.mono (h.length - 1) (by omega)
    have h2 := hn.lt (h.length - 1) (by omega)
    obtain ⟨E, hE1, hE2, hE3, hE4⟩ : ∃ E, 0 < E ∧ 720 * E ≤ 4398046511104 ∧ (∀ j k, Bt (en h j k) E) ∧ (E = E1 ∨ (N = h.length ∧ Bt (prodN h.length fun i => en h i i) (3600 * E1))) := by
      rcases hb with hb | hb
      · exact ⟨E1, hE0, by omega, hb, .inl rfl⟩
      · exact ⟨3600 * E1, by omega, by omega, hbts, .inr hb⟩
    refine ⟨N, h.length, _, _, _, gplan (m0 := trM h) hE1 hE2 hN, by omega, by omega, by omega, g1_start (trM_shape hs hr) (trM_bt hs hr hE3), fun row col A hP hc hrow => ?_⟩
    obtain ⟨-, piv', hh'⟩ := herm_of hN hP hc hrow
    exact hst_step hE0 hr hN hs hn hm hE4 hd hh'
end
end Go.Proofs.YtdbpkoddfcdhdaaGreat

namespace Go.Proofs.YtdbpkoddfcdhdaaGreat
open Go.RowKit

def lf (l : List Int) : Nat → Int := fun j => l.getD j 0

/-- The columns behind a diagonal do not count. -/
theorem dg_wide {r N k : Nat} {l : Nat → Int} {c : Int} (hr : r ≤ N) : MD k r N (dg l) c ↔ MD k r r (dg l) c := by
  constructor
  · intro h f g hf hg
    exact h f g hf (fun a ha => Nat.lt_of_lt_of_le (hg a ha) hr)
  · intro h
    have h1 : MD k r r (dg l) c := dg_trn l ▸ h.trn
    have h2 : MD k N r (dg l) c := h1.lat fun i hi => by
      rcases Nat.lt_or_ge i r with h' | h'
      · exact Lat.row h'
      · exact Lat.zero.congr fun y hy => by unfold dg; rw [if_neg (by omega)]
    exact dg_trn l ▸ h2.trn

structure DSt (R0 N0 : Nat) (m : List (List Int)) (E : Nat) (n i k : Nat) (l : List Int) : Prop where
  len : l.length = n
  pos : ∀ j, j < n → 0 < lf l j
  md : ∀ k c, MD k n n (dg (lf l)) c ↔ MD k R0 N0 (en m) c
  bt : Bt (prodN n (lf l)) E
  d1 : ∀ j x, j < i → j < x → x < n → lf l j ∣ lf l x
  d2 : ∀ x, i < x → x < k → x < n → lf l i ∣ lf l x

section
variable {R0 N0 E n i k : Nat} {m : List (List Int)} {l : List Int}

theorem DSt.bts (h : DSt R0 N0 m E n i k l) (j : Nat) : Bt (lf l j) E := by
  by_cases hj : j < n
  · exact h.bt.le (by have := h.pos j hj; omega) (prodN_ge h.pos hj)
  · unfold lf
    rw [List.getD_eq_getElem?_getD, List.getElem?_eq_none (by rw [h.len]; omega)]
    exact Bt.zero

theorem dg_prod {a b : Nat → Int} (pa : ∀ j, j < n → 0 < a j) (pb : ∀ j, j < n → 0 < b j) (e : ∀ k c, MD k n n (dg a) c ↔ MD k n n (dg b) c) : prodN n a = prodN n b := by
  have := tri_same (A := dg a) (B := dg b) (fun i k hk hi => by unfold dg; rw [if_neg (by omega)]) (fun i k hk hi => by unfold dg; rw [if_neg (by omega)])
    (fun i hi => by unfold dg; rw [if_pos rfl]; exact pa i hi) (fun i hi => by unfold dg; rw [if_pos rfl]; exact pb i hi) e
  have ea : ∀ a : Nat → Int, (fun i => dg a i i) = a := fun a => by funext i; unfold dg; rw [if_pos rfl]
  rw [ea, ea] at this
  exact this

theorem DSt.step (h : DSt R0 N0 m E n i k l) (hik : i < k) (hk : k < n) : DSt R0 N0 m E n i (k + 1) (gcdStep l i k) := by
  have hl := h.len
  have hi : i < n := by omega
  have p1 := h.pos i hi
  have p2 := h.pos k hk
  have d1 : ((Int.gcd (lf l i) (lf l k) : Nat) : Int) ∣ lf l i := Int.gcd_dvd_left ..
  have d2 : ((Int.gcd (lf l i) (lf l k) : Nat) : Int) ∣ lf l k := Int.gcd_dvd_right ..
  have d3 : ∀ c : Int, c ∣ lf l i → c ∣ lf l k → c ∣ ((Int.gcd (lf l i) (lf l k) : Nat) : Int) := fun c h1 h2 => Int.dvd_coe_gcd h1 h2
  obtain ⟨u, v, e⟩ := bezout (lf l i) (lf l k)
  have g1 : ∀ x, x ≠ i → x ≠ k → lf (gcdStep l i k) x = lf l x := fun x h1 h2 => by
    unfold lf gcdStep
    rw [getD_set_other (by omega), getD_set_other (by omega)]
  have g2 : lf (gcdStep l i k) i = ((Int.gcd (lf l i) (lf l k) : Nat) : Int) := by
    unfold gcdStep
    show List.getD _ i 0 = _
    rw [getD_set_other (by omega), getD_set_same (by omega)]
    rfl
  have g3 : lf (gcdStep l i k) k = lf l i / ((Int.gcd (lf l i) (lf l k) : Nat) : Int) * lf l k := by
    unfold gcdStep
    show List.getD _ k 0 = _
    rw [getD_set_same (by rw [List.length_set]; omega)]
    rfl
  have hlen : (gcdStep l i k).length = n := by unfold gcdStep; rw [List.length_set, List.length_set, hl]
  have hg0 : 0 < ((Int.gcd (lf l i) (lf l k) : Nat) : Int) := by
    have : Int.gcd (lf l i) (lf l k) ≠ 0 := fun h => by have := (Int.gcd_eq_zero_iff.1 h).1; omega
    omega
  generalize ((Int.gcd (lf l i) (lf l k) : Nat) : Int) = g at *
  generalize gcdStep l i k = l' at *
  obtain ⟨p, hp⟩ := d1
  obtain ⟨q, hq⟩ := d2
  rw [Int.mul_comm] at hp hq
  have hpp : 0 < p := by
    rw [hp] at p1
    exact Int.pos_of_mul_pos_left p1 (by omega)
  rw [show lf l i / g = p by rw [hp]; exact Int.mul_ediv_cancel _ (by omega)] at g3
  have e1 : u * p + v * q = 1 := by
    have : (u * p + v * q) * g = 1 * g := by
      rw [Int.one_mul, Int.add_mul, Int.mul_assoc, Int.mul_assoc, ← hp, ← hq]; exact e
    exact Int.eq_of_mul_eq_mul_right (by omega) this
  have hmd : ∀ t c, MD t n n (dg (lf l)) c ↔ MD t n n (dg (lf l')) c := fun t c =>
    dg_step hi hk (by omega) hp hq e1 g2 (by rw [g3, hq]) g1
  have hpos : ∀ j, j < n → 0 < lf l' j := fun j hj => by
    by_cases c1 : j = i
    · rw [c1, g2]; exact hg0
    · by_cases c2 : j = k
      · rw [c2, g3]; exact Int.mul_pos hpp p2
      · rw [g1 j c1 c2]; exact h.pos j hj
  have dk : ∀ c : Int, c ∣ lf l k → c ∣ lf l' k := fun c hc => by rw [g3]; exact Int.dvd_trans hc (Int.dvd_mul_left _ _)
  have gi : g ∣ lf l i := ⟨p, by rw [hp, Int.mul_comm]⟩
  have gk : g ∣ lf l k := ⟨q, by rw [hq, Int.mul_comm]⟩
  refine ⟨hlen, hpos, fun t c => (hmd t c).symm.trans (h.md t c), by rw [← dg_prod h.pos hpos hmd]; exact h.bt, fun j x hj hjx hx => ?_, fun x hx1 hx2 hx3 => ?_⟩
  · rw [g1 j (by omega) (by omega)]
    by_cases c1 : x = i
    · rw [c1, g2]; exact d3 _ (h.d1 j i hj (by omega) hi) (h.d1 j k hj (by omega) hk)
    · by_cases c2 : x = k
      · rw [c2]; exact dk _ (h.d1 j k hj (by omega) hk)
      · rw [g1 x c1 c2]; exact h.d1 j x hj hjx hx
  · rw [g2]
    by_cases c2 : x = k
    · rw [c2]; exact dk _ gk
    · rw [g1 x (by omega) c2]; exact Int.dvd_trans gi (h.d2 x hx1 (by omega) hx3)

theorem dplan (hE : E ≤ 4398046511104) : DPlan n (DSt R0 N0 m E n) where
  s := fun {i k l} h => ⟨h.len, fun j => sz_bits (h.bts j) (by omega), fun j hj => by have := h.pos j hj; unfold lf at this; omega⟩
  step := fun h h1 h2 => h.step h1 h2
  next := fun {i k l} h hk => ⟨h.len, h.pos, h.md, h.bt, fun j x hj hjx hx => by
    by_cases e : j = i
    · subst e; exact h.d2 x hjx (by omega) hx
    · exact h.d1 j x (by omega) hjx hx, fun x h1 h2 h3 => by omega⟩

/-- The elementary divisors of m. -/
structure Elem (R0 N0 : Nat) (m : List (List Int)) (l : List Int) (E : Nat) : Prop where
  ch : Chain l.length (lf l)
  md : ∀ k c, MD k l.length l.length (dg (lf l)) c ↔ MD k R0 N0 (en m) c
  bt : ∀ j, Bt (lf l j) E

theorem dstart {E1 : Nat} {h : List (List Int)} (hE0 : 0 < E1) (hh : HSt R0 N0 m E1 h) (hd : diagB h = true) : DSt R0 N0 m (3600 * E1) h.length 0 1 (diagL h) := by
  have hb0 := hh.bts hE0
  obtain ⟨N, piv, hN, hs, hn, hm, hb⟩ := hh
  have hdz := (diagB_iff h).1 hd
  have hat : ∀ j, j < h.length → lf (diagL h) j = en h j j := fun j hj => by
    unfold lf diagL en
    exact getD_map_range (fun i => (h.getD i []).getD i 0) hj
  have hrN : h.length ≤ N := by
    rcases Nat.eq_zero_or_pos h.length with e | e
    · omega
    · have h1 := incr_ge hn.lt hn.mono (h.length - 1) (by omega)
      have h2 := hn.lt (h.length - 1) (by omega)
      omega
  have hz : ∀ j k, j < h.length → k < N → j ≠ k → en h j k = 0 := fun j k hj hk hne => hdz j hj k (by rw [hs.2 j hj]; exact hk) hne
  have hpv : ∀ j, j < h.length → piv j = j := fun j hj => Classical.byContradiction fun hne => by
    have := hn.pos j hj
    have := hz j (piv j) hj (hn.lt j hj) (fun e => hne e.symm)
    omega
  have hpos : ∀ j, j < h.length → 0 < lf (diagL h) j := fun j hj => by
    have := hn.pos j hj
    rw [hpv j hj] at this
    rw [hat j hj]; exact this
  refine ⟨by simp [diagL], hpos, fun k c => ?_, ?_, fun j x hj => absurd hj (Nat.not_lt_zero j), fun x h1 h2 h3 => by omega⟩
  · rw [← hm, ← dg_wide hrN]
    have he : ∀ i j, i < h.length → j < N → dg (lf (diagL h)) i j = en h i j := fun i j hi hj => by
      unfold dg
      by_cases e : i = j
      · subst e; rw [if_pos rfl, hat i hi]
      · rw [if_neg e, hz i j hi hj e]
    exact ⟨fun hx => hx.ext he, fun hx => hx.ext fun i j hi hj => (he i j hi hj).symm⟩
  · rcases Nat.eq_zero_or_pos h.length with e | e
    · rw [e]
      have := Nat.pow_le_pow_right (show 0 < 2 by omega) (show 2 ≤ 3600 * E1 by omega)
      unfold Bt
      simp [prodN]
      omega
    · rw [prodN_congr (g := fun j => en h j j) hat]
      rcases hb with hb | ⟨-, hb⟩
      · refine (Bt.prod (fun i _ => hb i i) e).mono (Nat.mul_le_mul_right _ ?_)
        omega
      · exact hb

/-- Smith, over what hermite gives of the matrix. -/
theorem Smith_of {E1 : Nat} (v : Value) (x : List (List Int)) (w : World) (h : Mx w v x) (hN : x.length ≤ 1099511627776) (hr : refM x = 0) (hE0 : 0 < E1) (hE : 2592000 * E1 ≤ 4398046511104)
    (hH : HerOk w v (HSt R0 N0 m E1)) :
    Calls Tryz.prog 11 #[v] w fun e w' => ∃ (v' : Value) (l : List Int), e = .returned (.tuple #[v', .int .i64 0]) ∧ Elem R0 N0 m l (3600 * E1) ∧ Rw w' v' l ∧ Below w.heap.size w w' := by
  refine (Smith_ok v x w h hN hr (HSt R0 N0 m E1) (mu E1) (hplan hE0 hE) hH (fun h => DSt R0 N0 m (3600 * E1) h.length) (fun h hh hd => ⟨dplan (by omega), dstart hE0 hh hd⟩)).mono ?_
  rintro e w' ⟨v', h, k, l, rfl, hh, hd, hD, hR, hb⟩
  have hl := hD.len
  refine ⟨v', l, rfl, ⟨⟨?_, ?_⟩, ?_, hD.bts⟩, hR, hb⟩
  · rw [hl]; exact hD.pos
  · rw [hl]; exact fun i j hij hj => hD.d1 i j (by omega) hij hj
  · rw [hl]; exact hD.md

/-- One matrix, one list of elementary divisors. -/
theorem Elem.same {R1 N1 E' : Nat} {m' : List (List Int)} {l' : List Int} (h : Elem R0 N0 m l E) (h' : Elem R1 N1 m' l' E') (e : ∀ k c, MD k R0 N0 (en m) c ↔ MD k R1 N1 (en m') c) : l' = l := by
  obtain ⟨h1, h2⟩ := h.ch.uniq h'.ch (Nat.le_refl _) (Nat.le_refl _) (fun k c => ((h.md k c).trans (e k c)).trans (h'.md k c).symm)
  exact row_ext h1.symm fun k hk => (h2 k (by omega)).symm
end
end Go.Proofs.YtdbpkoddfcdhdaaGreat

namespace Go.Proofs.YtdbpkoddfcdhdaaGreat
open Go.RowKit

section
variable {R n : Nat} {m : List (List Int)}

theorem Herm.md {R N E : Nat} {m h : List (List Int)} {piv : Nat → Nat} (hh : Herm R N m h E piv) (k : Nat) (c : Int) : MD k h.length N (en h) c ↔ MD k R N (en m) c :=
  ⟨fun hx => hx.lat fun i hi => (hh.lat _).2 (Lat.row hi), fun hx => hx.lat fun i hi => (hh.lat _).1 (Lat.row hi)⟩

/-- .. of a small matrix. -/
theorem Smith_g (v : Value) (w : World) (h : Mx w v m) (hs : Shape R n m) (hR0 : 0 < R) (hR : R ≤ 5) (hn0 : 0 < n) (hn : n ≤ 5) (hb : ∀ j k, Bt (en m j k) 9) :
    Calls Tryz.prog 11 #[v] w fun e w' => ∃ (v' : Value) (l : List Int), e = .returned (.tuple #[v', .int .i64 0]) ∧ Elem R n m l 23328000 ∧ Rw w' v' l ∧ Below w.heap.size w w' := by
  refine Smith_of (E1 := 6480) v m w h (by rw [hs.1]; omega) (refM_shape hs (by omega) hn0 (by omega)) (by decide) (by decide) fun W hW => ?_
  refine (hermite_g (E := 9) v W (h.up hW) hs hR0 hR (by omega) (by decide) (by decide) hb).mono ?_
  rintro e w' ⟨v', h', piv, rfl, hh, hM, hb'⟩
  exact ⟨v', h', rfl, ⟨n, piv, hn, hh.sh, hh.hn, hh.md, .inl hh.bt⟩, hM, hb'⟩

/-- .. of a normal form. -/
theorem Smith_h {piv : Nat → Nat} {h : List (List Int)} (hh : Herm R n m h 6480 piv) (hR : R ≤ 5) (hn0 : 0 < n) (hn : n ≤ 5) (v : Value) (w : World) (hM : Mx w v h) :
    Calls Tryz.prog 11 #[v] w fun e w' => ∃ (v' : Value) (l : List Int), e = .returned (.tuple #[v', .int .i64 0]) ∧ Elem R n m l 23328000 ∧ Rw w' v' l ∧ Below w.heap.size w w' := by
  have hle := hh.le
  have hH : HSt R n m 6480 h := ⟨n, piv, hn, hh.sh, hh.hn, hh.md, .inl hh.bt⟩
  refine Smith_of (E1 := 6480) v h w hM (by omega) ?_ (by decide) (by decide) fun W hW => ?_
  · rcases Nat.eq_zero_or_pos h.length with e | e
    · rw [List.eq_nil_of_length_eq_zero e]; rfl
    · exact refM_shape hh.sh (by omega) hn0 (by omega)
  · rcases Nat.eq_zero_or_pos h.length with e | e
    · have : h = [] := List.eq_nil_of_length_eq_zero e
      subst this
      exact (hermite_nil v W (hM.up hW)).mono fun e w' ⟨he, hw⟩ => ⟨_, [], he, hH, ⟨none, 0, rfl, Nat.le_refl _, .inl rfl⟩, hw ▸ Below.refl _ _⟩
    · refine (hermite_g (E := 6480) v W (hM.up hW) hh.sh e (by omega) (by omega) (by decide) (by decide) hh.bt).mono ?_
      rintro e w' ⟨v', h', piv', rfl, hh', hM', hb'⟩
      have := hh.same hh' (fun v => hh.lat v)
      subst this
      exact ⟨v', _, rfl, hH, hM', hb'⟩

/-- .. of the transposed. -/
theorem Smith_t (v : Value) (w : World) (h : Mx w v (trM m)) (hs : Shape R n m) (hR0 : 0 < R) (hR : R ≤ 5) (hn0 : 0 < n) (hn : n ≤ 5) (hb : ∀ j k, Bt (en m j k) 9) :
    Calls Tryz.prog 11 #[v] w fun e w' => ∃ (v' : Value) (l : List Int), e = .returned (.tuple #[v', .int .i64 0]) ∧ Elem n R (trM m) l 23328000 ∧ Rw w' v' l ∧ Below w.heap.size w w' :=
  Smith_g v w h (trM_shape hs hR0) hn0 hn hR0 hR (trM_bt hs hR0 hb)

theorem md_trM (hs : Shape R n m) (hR0 : 0 < R) (k : Nat) (c : Int) : MD k R n (en m) c ↔ MD k n R (en (trM m)) c :=
  ⟨fun hx => hx.trn.ext fun i j hi hj => (en_trM hs hR0 hi hj).symm, fun hx => hx.trn.ext fun i j hi hj => en_trM hs hR0 hj hi⟩
end
end Go.Proofs.YtdbpkoddfcdhdaaGreat
