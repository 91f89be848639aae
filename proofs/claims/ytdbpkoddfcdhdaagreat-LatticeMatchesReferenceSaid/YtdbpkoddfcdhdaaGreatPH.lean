/-
  What the Hermite reduction asks of an invariant: a plan. No program.
  Plans for given matrices: the states are listed, the conditions checked. No program.
  A region that draws its order, whose last operations store into cells that it loads: loads are taken first, under a condition S that need not hold behind the stores. No program.
  The like, with cells that the region's stores do not hit besides: S2 holds behind every operation. No program.
  A region that draws its order: a chain of two operations beside a third one; all three only make memory. No program.
  The moves of a region that draws its order, in short form. No program.
-/
import Derived.Deep.RegionHeld3
import Derived.Test.YtdbpkoddfcdhdaaGreatPD
import Derived.Test.YtdbpkoddfcdhdaaGreatPF
import Derived.Test.YtdbpkoddfcdhdaaGreatPA
set_option linter.unusedSimpArgs false
set_option linter.unusedVariables false

namespace Go.Proofs.YtdbpkoddfcdhdaaGreat

def comb (u : Int) (a : List Int) (v : Int) (b : List Int) : List Int := (List.range a.length).map fun k => u * a.getD k 0 + v * b.getD k 0
def comb2 (p : Int) (b : List Int) (q : Int) (a : List Int) : List Int := (List.range a.length).map fun k => p * b.getD k 0 - q * a.getD k 0
def lessR (a : List Int) (q : Int) (b : List Int) : List Int := (List.range a.length).map fun k => a.getD k 0 - q * b.getD k 0
def negR (a : List Int) : List Int := (List.range a.length).map fun k => - a.getD k 0

/-- R rows of N integers each. -/
def Shape (R N : Nat) (m : List (List Int)) : Prop := m.length = R ∧ ∀ i, i < R → (m.getD i []).length = N

/-- All integers of a matrix are small. -/
def SmallM (m : List (List Int)) : Prop := ∀ i k, sz ((m.getD i []).getD k 0) ≤ 137438953472

structure Plan (R N n : Nat) (P1 : Nat → Nat → List (List Int) → Prop) (P2 P3 : Nat → Nat → Nat → List (List Int) → Prop) : Prop where
  s1 : ∀ {row col m}, P1 row col m → Shape R N m
  s2 : ∀ {row col i m}, P2 row col i m → Shape R N m ∧ SmallM m
  s3 : ∀ {row col i m}, P3 row col i m → Shape R N m ∧ SmallM m ∧ (m.getD row []).getD col 0 ≠ 0
  start : ∀ {row col m}, P1 row col m → col < n → row < R → P2 row col (row + 1) m
  skip : ∀ {row col i m}, P2 row col i m → i < R → (m.getD i []).getD col 0 = 0 → P2 row col (i + 1) m
  mix : ∀ {row col i m u v}, P2 row col i m → row < i → i < R → col < n → (m.getD i []).getD col 0 ≠ 0 →
    BezP ((m.getD row []).getD col 0) ((m.getD i []).getD col 0) u v →
    P2 row col (i + 1) ((m.set row (comb u (m.getD row []) v (m.getD i []))).set i
      (comb2 ((m.getD row []).getD col 0 / Int.gcd ((m.getD row []).getD col 0) ((m.getD i []).getD col 0)) (m.getD i []) ((m.getD i []).getD col 0 / Int.gcd ((m.getD row []).getD col 0) ((m.getD i []).getD col 0)) (m.getD row [])))
  none : ∀ {row col m}, P2 row col R m → (m.getD row []).getD col 0 = 0 → P1 row (col + 1) m
  pos : ∀ {row col m}, P2 row col R m → 0 < (m.getD row []).getD col 0 → P3 row col 0 m
  neg : ∀ {row col m}, P2 row col R m → (m.getD row []).getD col 0 < 0 → P3 row col 0 (m.set row (negR (m.getD row [])))
  red : ∀ {row col i m}, P3 row col i m → row < R → i < row → P3 row col (i + 1) (m.set i (lessR (m.getD i []) ((m.getD i []).getD col 0 / (m.getD row []).getD col 0) (m.getD row [])))
  next : ∀ {row col m}, P3 row col row m → P1 (row + 1) (col + 1) m
end Go.Proofs.YtdbpkoddfcdhdaaGreat

namespace Go.Proofs.YtdbpkoddfcdhdaaGreat

theorem BezP.uniq {x y u v u' v' : Int} (h : BezP x y u v) (h' : BezP x y u' v') : u = u' ∧ v = v' := by
  obtain ⟨e, -, -, a0, a1⟩ := h
  obtain ⟨e', -, -, b0, b1⟩ := h'
  have hy : y ≠ 0 := by
    rintro rfl
    simp at a1
    omega
  have hg : (Int.gcd x y : Int) ≠ 0 := by
    intro h
    have := (Int.gcd_eq_zero_iff (a := x) (b := y)).1 (by exact_mod_cast h)
    exact hy this.2
  have hgx : x = x / Int.gcd x y * Int.gcd x y := (Int.ediv_mul_cancel (Int.gcd_dvd_left ..)).symm
  have hgy : y = y / Int.gcd x y * Int.gcd x y := (Int.ediv_mul_cancel (Int.gcd_dvd_right ..)).symm
  have hcop : Int.gcd (x / Int.gcd x y) (y / Int.gcd x y) = 1 := Int.gcd_ediv_gcd_ediv_gcd (Nat.pos_of_ne_zero (by exact_mod_cast hg))
  generalize hG : (Int.gcd x y : Int) = g at *
  generalize x / g = X at *
  generalize y / g = Y at *
  have hd : (u - u') * X = (v' - v) * Y := by
    have : ((u - u') * X) * g = ((v' - v) * Y) * g := by
      rw [Int.mul_assoc, Int.mul_assoc, ← hgx, ← hgy, Int.sub_mul, Int.sub_mul]
      omega
    exact Int.eq_of_mul_eq_mul_right hg this
  have hdv : Y ∣ (u - u') := by
    have h1 : Y ∣ X * (u - u') := ⟨v' - v, by rw [Int.mul_comm X, hd, Int.mul_comm]⟩
    have h2 : Y.natAbs ∣ X.natAbs * (u - u').natAbs := by rw [← Int.natAbs_mul]; exact Int.natAbs_dvd_natAbs.2 h1
    exact Int.natAbs_dvd_natAbs.1 (Nat.Coprime.dvd_of_dvd_mul_left (show Nat.gcd Y.natAbs X.natAbs = 1 by rw [Nat.gcd_comm]; exact hcop) h2)
  have hu : u - u' = 0 := Int.eq_zero_of_dvd_of_natAbs_lt_natAbs hdv (by omega)
  have hu' : u = u' := by omega
  refine ⟨hu', ?_⟩
  subst hu'
  have : v * y = v' * y := by omega
  exact Int.eq_of_mul_eq_mul_right hy this

/-- u and v by trial. -/
def bz (x y : Int) : Int × Int :=
  let u : Nat := ((List.range y.natAbs).find? fun u : Nat => ((Int.gcd x y : Int) - (u : Int) * x) % y == 0).getD 0
  ((u : Int), ((Int.gcd x y : Int) - (u : Int) * x) / y)

def bezB (x y u v : Int) : Bool :=
  decide (u * x + v * y = Int.gcd x y) && decide (u.natAbs ≤ y.natAbs) && decide (v.natAbs ≤ x.natAbs + 1) && decide (0 ≤ u) && decide (u < ((y / Int.gcd x y).natAbs : Int))

theorem bezB_out {x y u v : Int} (h : bezB x y u v = true) : BezP x y u v := by
  unfold bezB at h
  simp only [Bool.and_eq_true, decide_eq_true_eq] at h
  obtain ⟨⟨⟨⟨h1, h2⟩, h3⟩, h4⟩, h5⟩ := h
  exact ⟨h1, h2, h3, h4, h5⟩

def shB (R N : Nat) (m : List (List Int)) : Bool := m.length == R && (List.range R).all fun i => (m.getD i []).length == N
def smB (m : List (List Int)) : Bool := m.all fun r => r.all fun x => decide (x.natAbs < 4294967296)

theorem shB_out {R N : Nat} {m : List (List Int)} (h : shB R N m = true) : Shape R N m := by
  unfold shB at h
  simp only [Bool.and_eq_true, beq_iff_eq, List.all_eq_true, List.mem_range] at h
  exact ⟨h.1, h.2⟩

theorem smB_out {m : List (List Int)} (h : smB m = true) : SmallM m := by
  intro i k
  refine Nat.le_trans (words_le_of_lt (n := 1) ?_) (by decide)
  unfold smB at h
  simp only [List.all_eq_true, decide_eq_true_eq] at h
  rcases Nat.lt_or_ge i m.length with hi | hi
  · have e : m.getD i [] = m[i] := by simp [List.getD_eq_getElem?_getD, hi]
    rw [e]
    rcases Nat.lt_or_ge k m[i].length with hk | hk
    · have e2 : (m[i]).getD k 0 = (m[i])[k] := by simp [List.getD_eq_getElem?_getD, hk]
      rw [e2]
      simpa using h _ (List.getElem_mem hi) _ (List.getElem_mem hk)
    · simp [List.getD_eq_getElem?_getD, hk]
  · simp [List.getD_eq_getElem?_getD, hi]

abbrev S1 := List (Nat × Nat × List (List Int))
abbrev S2 := List (Nat × Nat × Nat × List (List Int))

def mixed (row col i : Nat) (m : List (List Int)) (u v : Int) : List (List Int) :=
  (m.set row (comb u (m.getD row []) v (m.getD i []))).set i
      (comb2 ((m.getD row []).getD col 0 / Int.gcd ((m.getD row []).getD col 0) ((m.getD i []).getD col 0)) (m.getD i []) ((m.getD i []).getD col 0 / Int.gcd ((m.getD row []).getD col 0) ((m.getD i []).getD col 0)) (m.getD row []))

def chk1 (R N n : Nat) (L1 : S1) (L2 : S2) : Bool := L1.all fun (row, col, m) => shB R N m && (!(decide (col < n) && decide (row < R)) || L2.contains (row, col, row + 1, m))
def chk2 (R N n : Nat) (L1 : S1) (L2 L3 : S2) : Bool := L2.all fun (row, col, i, m) => shB R N m && smB m &&
  (!(decide (i < R) && decide ((m.getD i []).getD col 0 = 0)) || L2.contains (row, col, i + 1, m)) &&
  (!(decide (row < i) && decide (i < R) && decide (col < n) && !decide ((m.getD i []).getD col 0 = 0)) ||
    (bezB ((m.getD row []).getD col 0) ((m.getD i []).getD col 0) (bz ((m.getD row []).getD col 0) ((m.getD i []).getD col 0)).1 (bz ((m.getD row []).getD col 0) ((m.getD i []).getD col 0)).2 &&
      L2.contains (row, col, i + 1, mixed row col i m (bz ((m.getD row []).getD col 0) ((m.getD i []).getD col 0)).1 (bz ((m.getD row []).getD col 0) ((m.getD i []).getD col 0)).2))) &&
  (!decide (i = R) || (if (m.getD row []).getD col 0 = 0 then L1.contains (row, col + 1, m) else if 0 < (m.getD row []).getD col 0 then L3.contains (row, col, 0, m) else L3.contains (row, col, 0, m.set row (negR (m.getD row [])))))
def chk3 (R N : Nat) (L1 : S1) (L3 : S2) : Bool := L3.all fun (row, col, i, m) => shB R N m && smB m && !decide ((m.getD row []).getD col 0 = 0) &&
  (!(decide (row < R) && decide (i < row)) || L3.contains (row, col, i + 1, m.set i (lessR (m.getD i []) ((m.getD i []).getD col 0 / (m.getD row []).getD col 0) (m.getD row [])))) &&
  (!decide (i = row) || L1.contains (row + 1, col + 1, m))

theorem plan_of {R N n : Nat} {L1 : S1} {L2 L3 : S2} (h1 : chk1 R N n L1 L2 = true) (h2 : chk2 R N n L1 L2 L3 = true) (h3 : chk3 R N L1 L3 = true) :
    Plan R N n (fun row col m => (row, col, m) ∈ L1) (fun row col i m => (row, col, i, m) ∈ L2) (fun row col i m => (row, col, i, m) ∈ L3) := by
  unfold chk1 at h1
  unfold chk2 at h2
  unfold chk3 at h3
  simp only [List.all_eq_true, Prod.forall, Bool.and_eq_true, Bool.or_eq_true, Bool.not_eq_true', Bool.and_eq_false_iff, decide_eq_false_iff_not, decide_eq_true_eq, List.contains_iff_mem, Bool.not_eq_false'] at h1 h2 h3
  refine ⟨fun h => shB_out (h1 _ _ _ h).1, fun h => ⟨shB_out (h2 _ _ _ _ h).1.1.1.1, smB_out (h2 _ _ _ _ h).1.1.1.2⟩, fun h => ⟨shB_out (h3 _ _ _ _ h).1.1.1.1, smB_out (h3 _ _ _ _ h).1.1.1.2, (h3 _ _ _ _ h).1.1.2⟩, ?_, ?_, ?_, ?_, ?_, ?_, ?_, ?_⟩
  · intro row col m h hc hr
    rcases (h1 _ _ _ h).2 with h' | h'
    · omega
    · exact h'
  · intro row col i m h hi h0
    rcases (h2 _ _ _ _ h).1.1.2 with h' | h'
    · rcases h' with h' | h'
      · omega
      · exact absurd h0 h'
    · exact h'
  · intro row col i m u v h a b c d hb
    rcases (h2 _ _ _ _ h).1.2 with h' | h'
    · rcases h' with ((h' | h') | h') | h'
      · omega
      · omega
      · omega
      · exact absurd h' d
    · obtain ⟨e1, e2⟩ := hb.uniq (bezB_out h'.1)
      have := h'.2
      rw [← e1, ← e2] at this
      exact this
  · intro row col m h h0
    rcases (h2 _ _ _ _ h).2 with h' | h'
    · exact absurd rfl h'
    · rw [if_pos h0] at h'; exact List.contains_iff_mem.1 h'
  · intro row col m h h0
    rcases (h2 _ _ _ _ h).2 with h' | h'
    · exact absurd rfl h'
    · rw [if_neg (by omega), if_pos h0] at h'; exact List.contains_iff_mem.1 h'
  · intro row col m h h0
    rcases (h2 _ _ _ _ h).2 with h' | h'
    · exact absurd rfl h'
    · rw [if_neg (by omega), if_neg (by omega)] at h'; exact List.contains_iff_mem.1 h'
  · intro row col i m h hr hi
    rcases (h3 _ _ _ _ h).1.2 with h' | h'
    · omega
    · exact h'
  · intro row col m h
    rcases (h3 _ _ _ _ h).2 with h' | h'
    · exact absurd rfl h'
    · exact h'

/-- The states that come up. -/
def simMix (R row col : Nat) : Nat → Nat → List (List Int) → S2 × List (List Int)
  | 0, _, m => ([], m)
  | f + 1, i, m => if i < R then
      let m' := if (m.getD i []).getD col 0 = 0 then m else mixed row col i m (bz ((m.getD row []).getD col 0) ((m.getD i []).getD col 0)).1 (bz ((m.getD row []).getD col 0) ((m.getD i []).getD col 0)).2
      let r := simMix R row col f (i + 1) m'
      ((row, col, i, m) :: r.1, r.2)
    else ([(row, col, i, m)], m)
def simRed (row col : Nat) : Nat → Nat → List (List Int) → S2 × List (List Int)
  | 0, _, m => ([], m)
  | f + 1, i, m => if i < row then
      let r := simRed row col f (i + 1) (m.set i (lessR (m.getD i []) ((m.getD i []).getD col 0 / (m.getD row []).getD col 0) (m.getD row [])))
      ((row, col, i, m) :: r.1, r.2)
    else ([(row, col, i, m)], m)
def sim (R n : Nat) : Nat → Nat → Nat → List (List Int) → S1 × S2 × S2
  | 0, _, _, _ => ([], [], [])
  | f + 1, row, col, m => if col < n ∧ row < R then
      let a := simMix R row col (R + 1) (row + 1) m
      let x := (a.2.getD row []).getD col 0
      if x = 0 then
        let r := sim R n f row (col + 1) a.2
        ((row, col, m) :: r.1, a.1 ++ r.2.1, r.2.2)
      else
        let b := simRed row col (R + 1) 0 (if 0 < x then a.2 else a.2.set row (negR (a.2.getD row [])))
        let r := sim R n f (row + 1) (col + 1) b.2
        ((row, col, m) :: r.1, a.1 ++ r.2.1, b.1 ++ r.2.2)
    else ([(row, col, m)], [], [])

/-- Everything checked: the plan of one matrix, and what it ends with. -/
def simOk (R N n : Nat) (m : List (List Int)) (row : Nat) (A : List (List Int)) : Bool :=
  let s := sim R n (n + 1) 0 0 m
  s.1.contains (0, 0, m) && chk1 R N n s.1 s.2.1 && chk2 R N n s.1 s.2.1 s.2.2 && chk3 R N s.1 s.2.2 &&
    s.1.all fun (r, c, B) => !(decide (c = n) || decide (r = R)) || (r == row && B == A)

theorem plan_one {R N n row : Nat} {m A : List (List Int)} (h : simOk R N n m row A = true) :
    ∃ P1 P2 P3, Plan R N n P1 P2 P3 ∧ P1 0 0 m ∧ ∀ r c B, P1 r c B → (c = n ∨ r = R) → r = row ∧ B = A := by
  unfold simOk at h
  simp only [Bool.and_eq_true] at h
  obtain ⟨⟨⟨⟨h0, h1⟩, h2⟩, h3⟩, h4⟩ := h
  refine ⟨_, _, _, plan_of h1 h2 h3, List.contains_iff_mem.1 h0, fun r c B hm hc => ?_⟩
  have := List.all_eq_true.1 h4 _ hm
  simp only [Bool.or_eq_true, Bool.not_eq_true', Bool.or_eq_false_iff, decide_eq_false_iff_not, Bool.and_eq_true, beq_iff_eq] at this
  rcases this with h | h
  · rcases hc with hc | hc
    · exact absurd hc h.1
    · exact absurd hc h.2
  · exact h

theorem ex_her : simOk 2 2 2 [[4, 6], [2, 8]] 2 [[2, 8], [0, 10]] = true := by decide +kernel
end Go.Proofs.YtdbpkoddfcdhdaaGreat

namespace Go.Proofs.YtdbpkoddfcdhdaaGreat

section
variable {P : Program} {ops : Array Oper} {Q : Exit → Act → World → Prop} {md : Region.Mode} {S : World → Prop} {st : List Nat}

/-- None of st has come up. -/
def clean (st : List Nat) (listed : Array Bool) : Bool := st.all fun j => !listed.getD j false

/-- Whatever order is picked from here on; S holds behind every operation but those of st. -/
def wpAnyT (P : Program) (md : Region.Mode) (ops : Array Oper) (Q : Exit → Act → World → Prop) (S : World → Prop) (st : List Nat) : Nat → Array Bool → Act → World → Prop
  | 0, listed, a, w => Region.ready md ops listed = [] ∧ Q .normal a w
  | fuel + 1, listed, a, w =>
    (Region.ready md ops listed = [] → Q .normal a w) ∧
    ∀ i ∈ Region.ready md ops listed, wpOp P ops Q i (fun a' w' => (clean st (listed.setIfInBounds i true) = true → S w') ∧ wpAnyT P md ops Q S st fuel (listed.setIfInBounds i true) a' w') a w

theorem wpAny_of_T : ∀ (fuel : Nat) (listed : Array Bool) (a : Act) (w : World), wpAnyT P md ops Q S st fuel listed a w → wpAny P md ops Q fuel listed a w
  | 0, _, _, _, h => h
  | fuel + 1, _, _, _, h => ⟨h.1, fun i hi => wpOp_mono (fun a' w' h' => wpAny_of_T fuel _ a' w' h'.2) (h.2 i hi)⟩

/-- What waits for something that has come up has come up after it. -/
def Closed (md : Region.Mode) (ops : Array Oper) (listed : Array Bool) : Prop :=
  ∀ k, listed.getD k false = true → ∀ o, ops[k]? = some o → ∀ e ∈ o.after, Region.binds md e = true → listed.getD e.on false = true

def closedB (md : Region.Mode) (ops : Array Oper) (listed : Array Bool) : Bool :=
  (List.range ops.size).all fun k => !listed.getD k false || match ops[k]? with
    | none => true
    | some o => o.after.all fun e => !Region.binds md e || listed.getD e.on false

theorem closed_of {listed : Array Bool} (h : closedB md ops listed = true) : Closed md ops listed := by
  intro k hk o ho e he hb
  have hlt : k < ops.size := (Array.getElem?_eq_some_iff.1 ho).1
  unfold closedB at h
  have h1 := List.all_eq_true.1 h k (List.mem_range.2 hlt)
  rw [hk, ho] at h1
  simp only [Bool.not_true, Bool.false_or] at h1
  have h2 := Array.all_eq_true_iff_forall_mem.1 h1 e he
  rw [hb] at h2
  simpa using h2

theorem Closed.set {listed : Array Bool} (h : Closed md ops listed) {j : Nat} (hj : j ∈ Region.ready md ops listed) : Closed md ops (listed.setIfInBounds j true) := by
  intro k hk o ho e he hb
  by_cases ekj : j = k
  · subst ekj
    obtain ⟨_, o', ho', hall⟩ := mem_ready.1 hj
    rw [ho] at ho'
    cases ho'
    exact getD_set_true (hall e he hb)
  · rw [getD_set_ne false ekj] at hk
    exact getD_set_true (h k hk o ho e he hb)

/-- Operation j waits for operation i, straight or through others. -/
def needs (md : Region.Mode) (ops : Array Oper) : Nat → Nat → Nat → Bool
  | 0, _, _ => false
  | f + 1, j, i => match ops[j]? with
    | none => false
    | some o => o.after.any fun e => Region.binds md e && (e.on == i || needs md ops f e.on i)

theorem needs_listed {listed : Array Bool} (hc : Closed md ops listed) : ∀ (f j i : Nat), needs md ops f j i = true →
    (∀ o, ops[j]? = some o → ∀ e ∈ o.after, Region.binds md e = true → listed.getD e.on false = true) → listed.getD i false = true := by
  intro f
  induction f with
  | zero => intro j i h; simp [needs] at h
  | succ f ih =>
    intro j i h hd
    simp only [needs] at h
    cases ho : ops[j]? with
    | none => rw [ho] at h; simp at h
    | some o =>
      rw [ho] at h
      obtain ⟨e, he, h1⟩ := Array.any_eq_true'.1 h
      simp only [Bool.and_eq_true, Bool.or_eq_true, beq_iff_eq] at h1
      have h2 := hd o ho e he h1.1
      rcases h1.2 with h3 | h3
      · rw [← h3]; exact h2
      · exact ih e.on i h3 (fun o' ho' e' he' hb' => hc e.on h2 o' ho' e' he' hb')

theorem not_st {listed : Array Bool} (hc : Closed md ops listed) {i j : Nat} (hst : (st.all fun j => needs md ops ops.size j i) = true) (hi : listed.getD i true = false) (hj : j ∈ Region.ready md ops listed) : st.contains j = false := by
  rw [Bool.eq_false_iff]
  intro h
  have hm : j ∈ st := by simpa using h
  have hn := List.all_eq_true.1 hst j hm
  obtain ⟨_, o, ho, hall⟩ := mem_ready.1 hj
  have := needs_listed hc _ j i hn (fun o' ho' e he hb => by rw [ho] at ho'; cases ho'; exact hall e he hb)
  rcases Nat.lt_or_ge i listed.size with h' | h'
  · simp [h'] at this hi; rw [this] at hi; cases hi
  · simp [Array.getElem?_eq_none h'] at this

theorem getD_false_of {listed : Array Bool} {i : Nat} (h : listed.getD i true = false) : listed.getD i false = false := by
  rcases Nat.lt_or_ge i listed.size with h' | h'
  · simp [h'] at h ⊢; exact h
  · simp [Array.getElem?_eq_none h']

theorem clean_of {listed : Array Bool} (hc : Closed md ops listed) {i : Nat} (hst : (st.all fun j => needs md ops ops.size j i) = true) (hi : listed.getD i true = false) : clean st listed = true := by
  unfold clean
  rw [List.all_eq_true]
  intro j hj
  have hn := List.all_eq_true.1 hst j hj
  cases hl : listed.getD j false with
  | false => rfl
  | true =>
    have := needs_listed hc _ j i hn (fun o' ho' e he hb => hc j hl o' ho' e he hb)
    rw [getD_false_of hi] at this
    cases this

theorem clean_set {listed : Array Bool} (h : clean st listed = true) {j : Nat} (hj : st.contains j = false) : clean st (listed.setIfInBounds j true) = true := by
  unfold clean at *
  rw [List.all_eq_true] at *
  intro k hk
  have hne : j ≠ k := by
    rintro rfl
    rw [Bool.eq_false_iff] at hj
    exact hj (by simpa using hk)
  rw [getD_set_ne false hne]
  exact h k hk

theorem clean_mono {listed : Array Bool} {j : Nat} (h : clean st (listed.setIfInBounds j true) = true) : clean st listed = true := by
  unfold clean at *
  rw [List.all_eq_true] at *
  intro k hk
  have h1 := h k hk
  cases hl : listed.getD k false with
  | false => rfl
  | true => rw [getD_set_true hl] at h1; exact h1

theorem wpAnyT_first {i : Nat} {oi : Oper} {v : Value} (hi : ops[i]? = some oi) (hsel : ∀ (j : Nat) (o : Oper) cs b, ops[j]? = some o → o.op ≠ .select cs b)
    (hQ : ∀ c a w, Q (.panic c) (a.put oi.dst v) w → Q (.panic c) a w) (hst : (st.all fun j => needs md ops ops.size j i) = true) :
    ∀ (fuel : Nat) (listed : Array Bool) (a : Act) (w : World), Closed md ops listed →
      (∀ j oj, ops[j]? = some oj → j ≠ i → listed.getD j true = false → (∀ e ∈ oj.after, Region.binds md e = true → e.on ≠ i) → oi.apart ops oj = true) →
      i ∈ Region.ready md ops listed → YieldsIf P ops S oi v a → S w →
      wpAnyT P md ops Q S st fuel (listed.setIfInBounds i true) (a.put oi.dst v) w → wpAnyT P md ops Q S st (fuel + 1) listed a w := by
  intro fuel
  induction fuel with
  | zero =>
    intro listed a w hcl _ hr hy hS H
    refine ⟨fun h => (by rw [h] at hr; cases hr), fun j hj => ?_⟩
    by_cases hji : j = i
    · subst hji; exact hy.wpOp hi hS ⟨fun _ => hS, H⟩
    · have := ready_mono hj hji
      rw [H.1] at this
      cases this
  | succ fuel ih =>
    intro listed a w hcl hfree hr hy hS H
    refine ⟨fun h => (by rw [h] at hr; cases hr), fun j hj => ?_⟩
    by_cases hji : j = i
    · subst hji; exact hy.wpOp hi hS ⟨fun _ => hS, H⟩
    · have h1 := H.2 j (ready_mono hj hji)
      have hjst := not_st hcl hst (mem_ready.1 hr).1 hj
      have hist := not_st hcl hst (mem_ready.1 hr).1 hr
      have hcln : clean st ((listed.setIfInBounds i true).setIfInBounds j true) = true := clean_set (clean_set (clean_of hcl hst (mem_ready.1 hr).1) hist) hjst
      obtain ⟨hjun, oj, hoj, hall⟩ := mem_ready.1 hj
      have hnot : ∀ e ∈ oj.after, Region.binds md e = true → e.on ≠ i := fun e he hb heq => by
        have h1 := hall e he hb
        have h0 := (mem_ready.1 hr).1
        rw [heq] at h1
        rcases Nat.lt_or_ge i listed.size with h' | h'
        · simp [h'] at h0 h1; rw [h0] at h1; cases h1
        · simp [Array.getElem?_eq_none h'] at h1
      have h2 := wpOp_putIf hoj (hfree j oj hoj hji hjun hnot) (fun cs b => hsel i oi cs b hi) (fun cs b => hsel j oj cs b hoj) hQ hy h1
      have hfree' : ∀ k ok, ops[k]? = some ok → k ≠ i → (listed.setIfInBounds j true).getD k true = false →
          (∀ e ∈ ok.after, Region.binds md e = true → e.on ≠ i) → oi.apart ops ok = true := fun k ok hk hki hun hno => by
        refine hfree k ok hk hki ?_ hno
        by_cases hjk : j = k
        · subst hjk; exact hjun
        · rw [getD_set_ne true hjk] at hun; exact hun
      refine wpOp_mono (fun a' w' h3 => ⟨fun _ => h3.2.1 hcln, ih (listed.setIfInBounds j true) a' w' (hcl.set hj) hfree' (ready_mono hr (Ne.symm hji)) h3.1 (h3.2.1 hcln) ?_⟩) h2
      rw [Array.setIfInBounds_comm _ _ hji]
      exact h3.2.2

/-- What yields in whatever world may be taken first beside the stores too. -/
theorem wpAnyT_firstP {i : Nat} {oi : Oper} {v : Value} (hi : ops[i]? = some oi) (hsel : ∀ (j : Nat) (o : Oper) cs b, ops[j]? = some o → o.op ≠ .select cs b)
    (hQ : ∀ c a w, Q (.panic c) (a.put oi.dst v) w → Q (.panic c) a w) (hist : st.contains i = false) :
    ∀ (fuel : Nat) (listed : Array Bool) (a : Act) (w : World),
      (∀ j oj, ops[j]? = some oj → j ≠ i → listed.getD j true = false → (∀ e ∈ oj.after, Region.binds md e = true → e.on ≠ i) → oi.apart ops oj = true) →
      i ∈ Region.ready md ops listed → YieldsIf P ops (fun _ => True) oi v a → (clean st listed = true → S w) →
      wpAnyT P md ops Q S st fuel (listed.setIfInBounds i true) (a.put oi.dst v) w → wpAnyT P md ops Q S st (fuel + 1) listed a w := by
  intro fuel
  induction fuel with
  | zero =>
    intro listed a w _ hr hy hS H
    refine ⟨fun h => (by rw [h] at hr; cases hr), fun j hj => ?_⟩
    by_cases hji : j = i
    · subst hji; exact hy.wpOp hi trivial ⟨fun h => hS (clean_mono h), H⟩
    · have := ready_mono hj hji
      rw [H.1] at this
      cases this
  | succ fuel ih =>
    intro listed a w hfree hr hy hS H
    refine ⟨fun h => (by rw [h] at hr; cases hr), fun j hj => ?_⟩
    by_cases hji : j = i
    · subst hji; exact hy.wpOp hi trivial ⟨fun h => hS (clean_mono h), H⟩
    · have h1 := H.2 j (ready_mono hj hji)
      obtain ⟨hjun, oj, hoj, hall⟩ := mem_ready.1 hj
      have hnot : ∀ e ∈ oj.after, Region.binds md e = true → e.on ≠ i := fun e he hb heq => by
        have h1 := hall e he hb
        have h0 := (mem_ready.1 hr).1
        rw [heq] at h1
        rcases Nat.lt_or_ge i listed.size with h' | h'
        · simp [h'] at h0 h1; rw [h0] at h1; cases h1
        · simp [Array.getElem?_eq_none h'] at h1
      have h2 := wpOp_putIf hoj (hfree j oj hoj hji hjun hnot) (fun cs b => hsel i oi cs b hi) (fun cs b => hsel j oj cs b hoj) hQ hy h1
      have hfree' : ∀ k ok, ops[k]? = some ok → k ≠ i → (listed.setIfInBounds j true).getD k true = false →
          (∀ e ∈ ok.after, Region.binds md e = true → e.on ≠ i) → oi.apart ops ok = true := fun k ok hk hki hun hno => by
        refine hfree k ok hk hki ?_ hno
        by_cases hjk : j = k
        · subst hjk; exact hjun
        · rw [getD_set_ne true hjk] at hun; exact hun
      have hS' : ∀ w', (clean st ((listed.setIfInBounds i true).setIfInBounds j true) = true → S w') → clean st (listed.setIfInBounds j true) = true → S w' := fun w' h hcl => h (by
        rw [← Array.setIfInBounds_comm _ _ hji]; exact clean_set hcl hist)
      refine wpOp_mono (fun a' w' h3 => ⟨hS' w' h3.2.1, ih (listed.setIfInBounds j true) a' w' hfree' (ready_mono hr (Ne.symm hji)) h3.1 (hS' w' h3.2.1) ?_⟩) h2
      rw [Array.setIfInBounds_comm _ _ hji]
      exact h3.2.2

/-! The moves. -/
theorem wpAnyT_take {i : Nat} {oi : Oper} {v : Value} {fuel : Nat} {listed : Array Bool} {a : Act} {w : World} (hi : ops[i]? = some oi)
    (hs : Region.noSelect ops = true) (hf : Region.free md ops listed i = true) (hr : (Region.ready md ops listed).contains i = true)
    (hc : closedB md ops listed = true) (hst : (st.all fun j => needs md ops ops.size j i) = true)
    (hQ : ∀ c a w, Q (.panic c) (a.put oi.dst v) w → Q (.panic c) a w) (hy : YieldsIf P ops S oi v a) (hS : S w)
    (h : wpAnyT P md ops Q S st fuel (listed.setIfInBounds i true) (a.put oi.dst v) w) : wpAnyT P md ops Q S st (fuel + 1) listed a w :=
  wpAnyT_first hi (Region.noSelect_spec hs) hQ hst fuel listed a w (closed_of hc) (Region.free_spec hi hf) (by simpa using hr) hy hS h

theorem wpAnyT_takeP {i : Nat} {oi : Oper} {v : Value} {fuel : Nat} {listed : Array Bool} {a : Act} {w : World} (hi : ops[i]? = some oi)
    (hs : Region.noSelect ops = true) (hf : Region.free md ops listed i = true) (hr : (Region.ready md ops listed).contains i = true)
    (hist : st.contains i = false)
    (hQ : ∀ c a w, Q (.panic c) (a.put oi.dst v) w → Q (.panic c) a w) (hy : YieldsIf P ops (fun _ => True) oi v a) (hS : clean st listed = true → S w)
    (h : wpAnyT P md ops Q S st fuel (listed.setIfInBounds i true) (a.put oi.dst v) w) : wpAnyT P md ops Q S st (fuel + 1) listed a w :=
  wpAnyT_firstP hi (Region.noSelect_spec hs) hQ hist fuel listed a w (Region.free_spec hi hf) (by simpa using hr) hy hS h

/-- One operation alone may come up. -/
theorem wpAnyT_one {i : Nat} {o : Oper} {fuel : Nat} {listed : Array Bool} {a : Act} {w : World} (hr : Region.ready md ops listed = [i]) (ho : ops[i]? = some o)
    (h : ∀ K' : Act → World → Prop, Shut (∀ a w, (clean st (listed.setIfInBounds i true) = true → S w) → wpAnyT P md ops Q S st fuel (listed.setIfInBounds i true) a w → K' a w) → if Region.wanted o (yielded ops a.tmps) = true then Oper.wp P o a w K' Q else K' (a.put o.dst undef) w) :
    wpAnyT P md ops Q S st (fuel + 1) listed a w :=
  ⟨fun h0 => (by rw [hr] at h0; cases h0), fun j hj => by
    rw [hr] at hj
    rcases List.mem_cons.1 hj with rfl | hj
    · exact wpOp_step ho (fun K' hK => h K' (fun a w hS hW => hK a w ⟨hS, hW⟩))
    · cases hj⟩

theorem wpAnyT_done {listed : Array Bool} {a : Act} {w : World} (hr : Region.ready md ops listed = []) (h : Q .normal a w) :
    ∀ fuel, wpAnyT P md ops Q S st fuel listed a w
  | 0 => ⟨hr, h⟩
  | _ + 1 => ⟨fun _ => h, by rw [hr]; simp⟩

theorem wp_region_T {id : Nat} {a : Act} {w : World} (hm : P.follows .mixedOrders = true) (st : List Nat) (hS : S w.drew)
    (h : S w.drew → wpAnyT P .any ops Q S st ops.size (Array.replicate ops.size false) a w.drew) : (Code.region id ops true).wp P Q a w :=
  wp_region_any hm (wpAny_of_T (S := S) (st := st) _ _ _ _ (h hS))

end
end Go.Proofs.YtdbpkoddfcdhdaaGreat

namespace Go.Proofs.YtdbpkoddfcdhdaaGreat

section
variable {P : Program} {ops : Array Oper} {Q : Exit → Act → World → Prop} {md : Region.Mode} {S S2 : World → Prop} {st : List Nat}

/-- Whatever order is picked from here on; S2 holds behind every operation, S behind those ahead of st. -/
def wpAnyU (P : Program) (md : Region.Mode) (ops : Array Oper) (Q : Exit → Act → World → Prop) (S S2 : World → Prop) (st : List Nat) : Nat → Array Bool → Act → World → Prop
  | 0, listed, a, w => Region.ready md ops listed = [] ∧ Q .normal a w
  | fuel + 1, listed, a, w =>
    (Region.ready md ops listed = [] → Q .normal a w) ∧
    ∀ i ∈ Region.ready md ops listed, wpOp P ops Q i (fun a' w' => (S2 w' ∧ (clean st (listed.setIfInBounds i true) = true → S w')) ∧ wpAnyU P md ops Q S S2 st fuel (listed.setIfInBounds i true) a' w') a w

theorem wpAny_of_U : ∀ (fuel : Nat) (listed : Array Bool) (a : Act) (w : World), wpAnyU P md ops Q S S2 st fuel listed a w → wpAny P md ops Q fuel listed a w
  | 0, _, _, _, h => h
  | fuel + 1, _, _, _, h => ⟨h.1, fun i hi => wpOp_mono (fun a' w' h' => wpAny_of_U fuel _ a' w' h'.2) (h.2 i hi)⟩

theorem wpAnyU_first {i : Nat} {oi : Oper} {v : Value} (hi : ops[i]? = some oi) (hsel : ∀ (j : Nat) (o : Oper) cs b, ops[j]? = some o → o.op ≠ .select cs b)
    (hQ : ∀ c a w, Q (.panic c) (a.put oi.dst v) w → Q (.panic c) a w) (hst : (st.all fun j => needs md ops ops.size j i) = true) :
    ∀ (fuel : Nat) (listed : Array Bool) (a : Act) (w : World), Closed md ops listed →
      (∀ j oj, ops[j]? = some oj → j ≠ i → listed.getD j true = false → (∀ e ∈ oj.after, Region.binds md e = true → e.on ≠ i) → oi.apart ops oj = true) →
      i ∈ Region.ready md ops listed → YieldsIf P ops S oi v a → S2 w → S w →
      wpAnyU P md ops Q S S2 st fuel (listed.setIfInBounds i true) (a.put oi.dst v) w → wpAnyU P md ops Q S S2 st (fuel + 1) listed a w := by
  intro fuel
  induction fuel with
  | zero =>
    intro listed a w hcl _ hr hy hS2 hS H
    refine ⟨fun h => (by rw [h] at hr; cases hr), fun j hj => ?_⟩
    by_cases hji : j = i
    · subst hji; exact hy.wpOp hi hS ⟨⟨hS2, fun _ => hS⟩, H⟩
    · have := ready_mono hj hji
      rw [H.1] at this
      cases this
  | succ fuel ih =>
    intro listed a w hcl hfree hr hy hS2 hS H
    refine ⟨fun h => (by rw [h] at hr; cases hr), fun j hj => ?_⟩
    by_cases hji : j = i
    · subst hji; exact hy.wpOp hi hS ⟨⟨hS2, fun _ => hS⟩, H⟩
    · have h1 := H.2 j (ready_mono hj hji)
      have hjst := not_st hcl hst (mem_ready.1 hr).1 hj
      have hist := not_st hcl hst (mem_ready.1 hr).1 hr
      have hcln : clean st ((listed.setIfInBounds i true).setIfInBounds j true) = true := clean_set (clean_set (clean_of hcl hst (mem_ready.1 hr).1) hist) hjst
      obtain ⟨hjun, oj, hoj, hall⟩ := mem_ready.1 hj
      have hnot : ∀ e ∈ oj.after, Region.binds md e = true → e.on ≠ i := fun e he hb heq => by
        have h1 := hall e he hb
        have h0 := (mem_ready.1 hr).1
        rw [heq] at h1
        rcases Nat.lt_or_ge i listed.size with h' | h'
        · simp [h'] at h0 h1; rw [h0] at h1; cases h1
        · simp [Array.getElem?_eq_none h'] at h1
      have h2 := wpOp_putIf hoj (hfree j oj hoj hji hjun hnot) (fun cs b => hsel i oi cs b hi) (fun cs b => hsel j oj cs b hoj) hQ hy h1
      have hfree' : ∀ k ok, ops[k]? = some ok → k ≠ i → (listed.setIfInBounds j true).getD k true = false →
          (∀ e ∈ ok.after, Region.binds md e = true → e.on ≠ i) → oi.apart ops ok = true := fun k ok hk hki hun hno => by
        refine hfree k ok hk hki ?_ hno
        by_cases hjk : j = k
        · subst hjk; exact hjun
        · rw [getD_set_ne true hjk] at hun; exact hun
      refine wpOp_mono (fun a' w' h3 => ⟨⟨h3.2.1.1, fun _ => h3.2.1.2 hcln⟩, ih (listed.setIfInBounds j true) a' w' (hcl.set hj) hfree' (ready_mono hr (Ne.symm hji)) h3.1 h3.2.1.1 (h3.2.1.2 hcln) ?_⟩) h2
      rw [Array.setIfInBounds_comm _ _ hji]
      exact h3.2.2

/-- What yields in every world that meets S2 may be taken first beside the stores too. -/
theorem wpAnyU_firstP {i : Nat} {oi : Oper} {v : Value} (hi : ops[i]? = some oi) (hsel : ∀ (j : Nat) (o : Oper) cs b, ops[j]? = some o → o.op ≠ .select cs b)
    (hQ : ∀ c a w, Q (.panic c) (a.put oi.dst v) w → Q (.panic c) a w) (hist : st.contains i = false) :
    ∀ (fuel : Nat) (listed : Array Bool) (a : Act) (w : World),
      (∀ j oj, ops[j]? = some oj → j ≠ i → listed.getD j true = false → (∀ e ∈ oj.after, Region.binds md e = true → e.on ≠ i) → oi.apart ops oj = true) →
      i ∈ Region.ready md ops listed → YieldsIf P ops S2 oi v a → S2 w → (clean st listed = true → S w) →
      wpAnyU P md ops Q S S2 st fuel (listed.setIfInBounds i true) (a.put oi.dst v) w → wpAnyU P md ops Q S S2 st (fuel + 1) listed a w := by
  intro fuel
  induction fuel with
  | zero =>
    intro listed a w _ hr hy hS2 hS H
    refine ⟨fun h => (by rw [h] at hr; cases hr), fun j hj => ?_⟩
    by_cases hji : j = i
    · subst hji; exact hy.wpOp hi hS2 ⟨⟨hS2, fun h => hS (clean_mono h)⟩, H⟩
    · have := ready_mono hj hji
      rw [H.1] at this
      cases this
  | succ fuel ih =>
    intro listed a w hfree hr hy hS2 hS H
    refine ⟨fun h => (by rw [h] at hr; cases hr), fun j hj => ?_⟩
    by_cases hji : j = i
    · subst hji; exact hy.wpOp hi hS2 ⟨⟨hS2, fun h => hS (clean_mono h)⟩, H⟩
    · have h1 := H.2 j (ready_mono hj hji)
      obtain ⟨hjun, oj, hoj, hall⟩ := mem_ready.1 hj
      have hnot : ∀ e ∈ oj.after, Region.binds md e = true → e.on ≠ i := fun e he hb heq => by
        have h1 := hall e he hb
        have h0 := (mem_ready.1 hr).1
        rw [heq] at h1
        rcases Nat.lt_or_ge i listed.size with h' | h'
        · simp [h'] at h0 h1; rw [h0] at h1; cases h1
        · simp [Array.getElem?_eq_none h'] at h1
      have h2 := wpOp_putIf hoj (hfree j oj hoj hji hjun hnot) (fun cs b => hsel i oi cs b hi) (fun cs b => hsel j oj cs b hoj) hQ hy h1
      have hfree' : ∀ k ok, ops[k]? = some ok → k ≠ i → (listed.setIfInBounds j true).getD k true = false →
          (∀ e ∈ ok.after, Region.binds md e = true → e.on ≠ i) → oi.apart ops ok = true := fun k ok hk hki hun hno => by
        refine hfree k ok hk hki ?_ hno
        by_cases hjk : j = k
        · subst hjk; exact hjun
        · rw [getD_set_ne true hjk] at hun; exact hun
      have hS' : ∀ w', (clean st ((listed.setIfInBounds i true).setIfInBounds j true) = true → S w') → clean st (listed.setIfInBounds j true) = true → S w' := fun w' h hcl => h (by
        rw [← Array.setIfInBounds_comm _ _ hji]; exact clean_set hcl hist)
      refine wpOp_mono (fun a' w' h3 => ⟨⟨h3.2.1.1, hS' w' h3.2.1.2⟩, ih (listed.setIfInBounds j true) a' w' hfree' (ready_mono hr (Ne.symm hji)) h3.1 h3.2.1.1 (hS' w' h3.2.1.2) ?_⟩) h2
      rw [Array.setIfInBounds_comm _ _ hji]
      exact h3.2.2

/-! The moves. -/
theorem wpAnyU_take {i : Nat} {oi : Oper} {v : Value} {fuel : Nat} {listed : Array Bool} {a : Act} {w : World} (hi : ops[i]? = some oi)
    (hs : Region.noSelect ops = true) (hf : Region.free md ops listed i = true) (hr : (Region.ready md ops listed).contains i = true)
    (hc : closedB md ops listed = true) (hst : (st.all fun j => needs md ops ops.size j i) = true)
    (hQ : ∀ c a w, Q (.panic c) (a.put oi.dst v) w → Q (.panic c) a w) (hy : YieldsIf P ops S oi v a) (hS2 : S2 w) (hS : S w)
    (h : wpAnyU P md ops Q S S2 st fuel (listed.setIfInBounds i true) (a.put oi.dst v) w) : wpAnyU P md ops Q S S2 st (fuel + 1) listed a w :=
  wpAnyU_first hi (Region.noSelect_spec hs) hQ hst fuel listed a w (closed_of hc) (Region.free_spec hi hf) (by simpa using hr) hy hS2 hS h

theorem wpAnyU_takeP {i : Nat} {oi : Oper} {v : Value} {fuel : Nat} {listed : Array Bool} {a : Act} {w : World} (hi : ops[i]? = some oi)
    (hs : Region.noSelect ops = true) (hf : Region.free md ops listed i = true) (hr : (Region.ready md ops listed).contains i = true)
    (hist : st.contains i = false)
    (hQ : ∀ c a w, Q (.panic c) (a.put oi.dst v) w → Q (.panic c) a w) (hy : YieldsIf P ops S2 oi v a) (hS2 : S2 w) (hS : clean st listed = true → S w)
    (h : wpAnyU P md ops Q S S2 st fuel (listed.setIfInBounds i true) (a.put oi.dst v) w) : wpAnyU P md ops Q S S2 st (fuel + 1) listed a w :=
  wpAnyU_firstP hi (Region.noSelect_spec hs) hQ hist fuel listed a w (Region.free_spec hi hf) (by simpa using hr) hy hS2 hS h

/-- One operation alone may come up. -/
theorem wpAnyU_one {i : Nat} {o : Oper} {fuel : Nat} {listed : Array Bool} {a : Act} {w : World} (hr : Region.ready md ops listed = [i]) (ho : ops[i]? = some o)
    (h : ∀ K' : Act → World → Prop, Shut (∀ a w, S2 w → (clean st (listed.setIfInBounds i true) = true → S w) → wpAnyU P md ops Q S S2 st fuel (listed.setIfInBounds i true) a w → K' a w) → if Region.wanted o (yielded ops a.tmps) = true then Oper.wp P o a w K' Q else K' (a.put o.dst undef) w) :
    wpAnyU P md ops Q S S2 st (fuel + 1) listed a w :=
  ⟨fun h0 => (by rw [hr] at h0; cases h0), fun j hj => by
    rw [hr] at hj
    rcases List.mem_cons.1 hj with rfl | hj
    · exact wpOp_step ho (fun K' hK => h K' (fun a w hS2 hS hW => hK a w ⟨⟨hS2, hS⟩, hW⟩))
    · cases hj⟩

theorem wpAnyU_done {listed : Array Bool} {a : Act} {w : World} (hr : Region.ready md ops listed = []) (h : Q .normal a w) :
    ∀ fuel, wpAnyU P md ops Q S S2 st fuel listed a w
  | 0 => ⟨hr, h⟩
  | _ + 1 => ⟨fun _ => h, by rw [hr]; simp⟩

theorem wp_region_U {id : Nat} {a : Act} {w : World} (hm : P.follows .mixedOrders = true) (st : List Nat) (hS2 : S2 w.drew) (hS : S w.drew)
    (h : S2 w.drew → S w.drew → wpAnyU P .any ops Q S S2 st ops.size (Array.replicate ops.size false) a w.drew) : (Code.region id ops true).wp P Q a w :=
  wp_region_any hm (wpAny_of_U (S := S) (S2 := S2) (st := st) _ _ _ _ (h hS2 hS))

end
end Go.Proofs.YtdbpkoddfcdhdaaGreat

namespace Go.Proofs.YtdbpkoddfcdhdaaGreat
open Go.RowKit

theorem Act.put_put (a : Act) {d e : Option Tmp} (h : d ≠ e ∨ d = none) (v u : Value) : (a.put d v).put e u = (a.put e u).put d v := by
  cases d <;> cases e <;> simp [Act.put] at h ⊢
  exact Array.setIfInBounds_comm _ _ h

section
variable {P : Program} {ops : Array Oper} {Q : Exit → Act → World → Prop} {md : Region.Mode} {S : World → Prop} {st : List Nat}

/-- One operation, in the spelling of the walk. -/
def stepK (P : Program) (ops : Array Oper) (Q : Exit → Act → World → Prop) (o : Oper) (K : Act → World → Prop) (a : Act) (w : World) : Prop :=
  if Region.wanted o (yielded ops a.tmps) = true then Oper.wp P o a w K Q else K (a.put o.dst undef) w

theorem wpAnyT_three {i k j : Nat} {oi ok oj : Oper} {fuel : Nat} {listed : Array Bool} {a : Act} {w : World} (I : World → Prop) (Ri Rk Rj : Value → World → Prop)
    (h0 : Region.ready md ops listed = [i, j])
    (h1 : Region.ready md ops (listed.setIfInBounds i true) = [k, j])
    (h2 : Region.ready md ops ((listed.setIfInBounds i true).setIfInBounds k true) = [j])
    (h3 : Region.ready md ops ((listed.setIfInBounds i true).setIfInBounds j true) = [k])
    (h4 : Region.ready md ops (listed.setIfInBounds j true) = [i])
    (hij : i ≠ j ∧ k ≠ j) (hd : oi.dst ≠ oj.dst ∧ ok.dst ≠ oj.dst)
    (ei : ops[i]? = some oi) (ek : ops[k]? = some ok) (ej : ops[j]? = some oj)
    (hIS : ∀ w, I w → S w) (hI : I w)
    (uI : ∀ w w', I w → Below w.heap.size w w' → I w')
    (ui : ∀ v w w', Ri v w → Below w.heap.size w w' → Ri v w')
    (uk : ∀ v w w', Rk v w → Below w.heap.size w w' → Rk v w')
    (uj : ∀ v w w', Rj v w → Below w.heap.size w w' → Rj v w')
    (si : ∀ a' w, (a' = a ∨ ∃ v, a' = a.put oj.dst v) → I w → ∀ K : Act → World → Prop, Shut (∀ v w', Ri v w' → Below w.heap.size w w' → K (a'.put oi.dst v) w') → if Region.wanted oi (yielded ops a'.tmps) = true then Oper.wp P oi a' w K Q else K (a'.put oi.dst undef) w)
    (sj : ∀ a' w, (a' = a ∨ (∃ v, a' = a.put oi.dst v) ∨ ∃ v u, a' = (a.put oi.dst v).put ok.dst u) → I w → ∀ K : Act → World → Prop, Shut (∀ v w', Rj v w' → Below w.heap.size w w' → K (a'.put oj.dst v) w') → if Region.wanted oj (yielded ops a'.tmps) = true then Oper.wp P oj a' w K Q else K (a'.put oj.dst undef) w)
    (sk : ∀ a' v w, (a' = a.put oi.dst v ∨ ∃ u, a' = (a.put oj.dst u).put oi.dst v) → Ri v w → I w → ∀ K : Act → World → Prop, Shut (∀ v w', Rk v w' → Below w.heap.size w w' → K (a'.put ok.dst v) w') → if Region.wanted ok (yielded ops a'.tmps) = true then Oper.wp P ok a' w K Q else K (a'.put ok.dst undef) w)
    (t : ∀ vi vk vj w, I w → Ri vi w → Rk vk w → Rj vj w → wpAnyT P md ops Q S st fuel (((listed.setIfInBounds i true).setIfInBounds k true).setIfInBounds j true) (((a.put oi.dst vi).put ok.dst vk).put oj.dst vj) w) :
    wpAnyT P md ops Q S st (fuel + 3) listed a w := by
  have cij : (oi.dst ≠ oj.dst ∨ oi.dst = none) := .inl hd.1
  have ckj : (ok.dst ≠ oj.dst ∨ ok.dst = none) := .inl hd.2
  refine ⟨fun h => (by rw [h0] at h; cases h), fun x hx => ?_⟩
  rw [h0] at hx
  rcases List.mem_cons.1 hx with e | hx
  · rw [e]; clear e
    refine wpOp_step ei (fun K hK => si a w (.inl rfl) hI K (fun v1 w1 r1 b1 => hK _ _ ⟨fun _ => hIS _ (uI _ _ hI b1), ?_⟩))
    have I1 := uI _ _ hI b1
    refine ⟨fun h => (by rw [h1] at h; cases h), fun x hx => ?_⟩
    rw [h1] at hx
    rcases List.mem_cons.1 hx with e | hx
    · rw [e]; clear e
      refine wpOp_step ek (fun K hK => sk _ v1 w1 (.inl rfl) r1 I1 K (fun v2 w2 r2 b2 => hK _ _ ⟨fun _ => hIS _ (uI _ _ I1 b2), ?_⟩))
      have I2 := uI _ _ I1 b2
      refine ⟨fun h => (by rw [h2] at h; cases h), fun x hx => ?_⟩
      rw [h2] at hx
      rcases List.mem_cons.1 hx with e | hx
      · rw [e]; clear e
        exact wpOp_step ej (fun K hK => sj _ w2 (.inr (.inr ⟨_, _, rfl⟩)) I2 K (fun v3 w3 r3 b3 => hK _ _ ⟨fun _ => hIS _ (uI _ _ I2 b3), t v1 v2 v3 w3 (uI _ _ I2 b3) (ui _ _ _ (ui _ _ _ r1 b2) b3) (uk _ _ _ r2 b3) r3⟩))
      · cases hx
    · rcases List.mem_cons.1 hx with e | hx
      · rw [e]; clear e
        refine wpOp_step ej (fun K hK => sj _ w1 (.inr (.inl ⟨_, rfl⟩)) I1 K (fun v3 w3 r3 b3 => hK _ _ ⟨fun _ => hIS _ (uI _ _ I1 b3), ?_⟩))
        have I3 := uI _ _ I1 b3
        refine ⟨fun h => (by rw [h3] at h; cases h), fun x hx => ?_⟩
        rw [h3] at hx
        rcases List.mem_cons.1 hx with e | hx
        · rw [e]; clear e
          refine wpOp_step ek (fun K hK => sk _ v1 w3 (.inr ⟨v3, Act.put_put _ cij _ _⟩) (ui _ _ _ r1 b3) I3 K (fun v2 w2 r2 b2 => hK _ _ ⟨fun _ => hIS _ (uI _ _ I3 b2), ?_⟩))
          have := t v1 v2 v3 w2 (uI _ _ I3 b2) (ui _ _ _ (ui _ _ _ r1 b3) b2) r2 (uj _ _ _ r3 b2)
          rw [Array.setIfInBounds_comm _ _ hij.2, Act.put_put _ ckj] at this
          exact this
        · cases hx
      · cases hx
  · rcases List.mem_cons.1 hx with e | hx
    · rw [e]; clear e
      refine wpOp_step ej (fun K hK => sj a w (.inl rfl) hI K (fun v3 w3 r3 b3 => hK _ _ ⟨fun _ => hIS _ (uI _ _ hI b3), ?_⟩))
      have I3 := uI _ _ hI b3
      refine ⟨fun h => (by rw [h4] at h; cases h), fun x hx => ?_⟩
      rw [h4] at hx
      rcases List.mem_cons.1 hx with e | hx
      · rw [e]; clear e
        refine wpOp_step ei (fun K hK => si _ w3 (.inr ⟨_, rfl⟩) I3 K (fun v1 w1 r1 b1 => hK _ _ ⟨fun _ => hIS _ (uI _ _ I3 b1), ?_⟩))
        have I1 := uI _ _ I3 b1
        have h3' : Region.ready md ops ((listed.setIfInBounds j true).setIfInBounds i true) = [k] := by rw [← Array.setIfInBounds_comm _ _ hij.1]; exact h3
        refine ⟨fun h => (by rw [h3'] at h; cases h), fun x hx => ?_⟩
        rw [h3'] at hx
        rcases List.mem_cons.1 hx with e | hx
        · rw [e]; clear e
          refine wpOp_step ek (fun K hK => sk _ v1 w1 (.inr ⟨v3, rfl⟩) r1 I1 K (fun v2 w2 r2 b2 => hK _ _ ⟨fun _ => hIS _ (uI _ _ I1 b2), ?_⟩))
          have := t v1 v2 v3 w2 (uI _ _ I1 b2) (ui _ _ _ r1 b2) r2 (uj _ _ _ (uj _ _ _ r3 b1) b2)
          rw [Array.setIfInBounds_comm _ _ hij.2, Array.setIfInBounds_comm _ _ hij.1, Act.put_put _ ckj, Act.put_put _ cij] at this
          exact this
        · cases hx
      · cases hx
    · cases hx
end
end Go.Proofs.YtdbpkoddfcdhdaaGreat

namespace Go.Proofs.YtdbpkoddfcdhdaaGreat

section
variable {P : Program} {ops : Array Oper} {Q : Exit → Act → World → Prop} {md : Region.Mode} {S : World → Prop} {st : List Nat}

def okP (md : Region.Mode) (ops : Array Oper) (st : List Nat) (listed : Array Bool) (i : Nat) : Bool := Region.noSelect ops && Region.free md ops listed i && (Region.ready md ops listed).contains i && !st.contains i
def okK (md : Region.Mode) (ops : Array Oper) (st : List Nat) (listed : Array Bool) (i : Nat) : Bool := Region.noSelect ops && Region.free md ops listed i && (Region.ready md ops listed).contains i && closedB md ops listed && st.all fun j => needs md ops ops.size j i

theorem tP (i : Nat) {oi : Oper} {v : Value} {fuel : Nat} {listed : Array Bool} {a : Act} {w : World} (hi : ops[i]? = some oi)
    (h : wpAnyT P md ops Q S st fuel (listed.setIfInBounds i true) (a.put oi.dst v) w)
    (hB : okP md ops st listed i = true := by as_aux_lemma => kernel_rfl)
    (hQ : ∀ c a w, Q (.panic c) (a.put oi.dst v) w → Q (.panic c) a w := by exact fun _ _ _ h => h)
    (hy : YieldsIf P ops (fun _ => True) oi v a := by exact Or.inl ⟨by rfl, by (intro w hSw; go_simp; all_goals (with_reducible rfl))⟩)
    (hS : clean st listed = true → S w := by first | (intro _; assumption) | (intro h; exact absurd h (by decide))) : wpAnyT P md ops Q S st (fuel + 1) listed a w := by
  unfold okP at hB
  simp only [Bool.and_eq_true, Bool.not_eq_true'] at hB
  exact wpAnyT_takeP hi hB.1.1.1 hB.1.1.2 hB.1.2 hB.2 hQ hy hS h

theorem tU (i : Nat) {oi : Oper} {fuel : Nat} {listed : Array Bool} {a : Act} {w : World} (hi : ops[i]? = some oi)
    (h : wpAnyT P md ops Q S st fuel (listed.setIfInBounds i true) (a.put oi.dst undef) w)
    (hB : okP md ops st listed i = true := by as_aux_lemma => kernel_rfl)
    (hQ : ∀ c a w, Q (.panic c) (a.put oi.dst undef) w → Q (.panic c) a w := by exact fun _ _ _ h => h)
    (hy : YieldsIf P ops (fun _ => True) oi undef a := by exact Or.inr ⟨by rfl, rfl⟩)
    (hS : clean st listed = true → S w := by first | (intro _; assumption) | (intro h; exact absurd h (by decide))) : wpAnyT P md ops Q S st (fuel + 1) listed a w := by
  unfold okP at hB
  simp only [Bool.and_eq_true, Bool.not_eq_true'] at hB
  exact wpAnyT_takeP hi hB.1.1.1 hB.1.1.2 hB.1.2 hB.2 hQ hy hS h

theorem tK (i : Nat) {oi : Oper} {v : Value} {fuel : Nat} {listed : Array Bool} {a : Act} {w : World} (hi : ops[i]? = some oi)
    (h : wpAnyT P md ops Q S st fuel (listed.setIfInBounds i true) (a.put oi.dst v) w)
    (hB : okK md ops st listed i = true := by as_aux_lemma => kernel_rfl)
    (hQ : ∀ c a w, Q (.panic c) (a.put oi.dst v) w → Q (.panic c) a w := by exact fun _ _ _ h => h)
    (hy : YieldsIf P ops S oi v a := by exact Or.inl ⟨by rfl, by (intro w hSw; (try dsimp only at hSw); go_simp; all_goals (with_reducible rfl))⟩)
    (hS : S w := by assumption) : wpAnyT P md ops Q S st (fuel + 1) listed a w := by
  unfold okK at hB
  simp only [Bool.and_eq_true] at hB
  exact wpAnyT_take hi hB.1.1.1.1 hB.1.1.1.2 hB.1.1.2 hB.1.2 hB.2 hQ hy hS h
end

/-- A value is laid into a frame. -/
theorem lay : (∀ (a : Act) (d : Tmp) (v : Value), a.put (some d) v = { a with tmps := a.tmps.setIfInBounds d v }) ∧ (∀ (a : Act) (v : Value), a.put none v = a) ∧ (∀ (l : List Value) (i : Nat) (v : Value), l.toArray.setIfInBounds i v = (l.set i v).toArray) ∧
    (∀ (x : Value) (l : List Value) (v : Value), (x :: l).set 0 v = v :: l) ∧ (∀ (x : Value) (l : List Value) (n : Nat) (v : Value), (x :: l).set (n + 1) v = x :: l.set n v) :=
  ⟨fun _ _ _ => rfl, fun _ _ => rfl, fun _ _ _ => by simp, fun _ _ _ => rfl, fun _ _ _ _ => rfl⟩
end Go.Proofs.YtdbpkoddfcdhdaaGreat
