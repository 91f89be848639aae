/-
  Every pair of the laws has at least four classes: tried.
-/
import Derived.Test.YteidokhjmbihlaaGreatDT
set_option linter.unusedSimpArgs false
set_option linter.unusedVariables false
namespace Go.Proofs.YteidokhjmbihlaaGreat
def rtF : Nat -> Nat -> Nat -> Nat
 | 0, r, _ => r
 | j + 1, r, n => if (r + 2 ^ j) * (r + 2 ^ j) <= n then rtF j (r + 2 ^ j) n else rtF j r n
theorem QfN : ∀ (j r n : Nat), r * r <= n -> n < (r + 2 ^ j) * (r + 2 ^ j) -> Isq n (rtF j r n)
 | 0, r, n, h1, h2 => ⟨h1, by rw [Nat.pow_zero] at h2; exact h2⟩
 | j + 1, r, n, h1, h2 => by
   unfold rtF;by_cases h : (r + 2 ^ j) * (r + 2 ^ j) <= n
   ·rw [if_pos h];exact QfN j _ n h (by rw [Nat.add_assoc, <- Nat.two_mul, <- Nat.pow_succ']; exact h2)
   ·rw [if_neg h];exact QfN j r n h1 (by omega)
def rtI (n : Int) : Int := (rtF 16 0 n.toNat : Int)
def QkX (n : Int) : Bool := decide (0 <= n) && decide (rtI n * rtI n = n)
def QjL (n : Int) : Bool := decide (n < 0) || (decide (n < 4294967296) && decide (rtI n * rtI n ≠ n))
theorem Qjt {n k : Int} (h : QjL n = true) (e : n = k * k) : False := by
 unfold QjL at h;rw [Bool.or_eq_true, Bool.and_eq_true, decide_eq_true_iff, decide_eq_true_iff, decide_eq_true_iff] at h;have h0 := JX k;rcases h with h | ⟨h1, h2⟩
 ·omega
 ·have h3 : n.toNat = k.natAbs * k.natAbs := by
   have : ((k.natAbs * k.natAbs : Nat) : Int) = k * k := by rw [Int.natCast_mul]; exact Int.natAbs_mul_self' k
   omega
  have h4 := QfN 16 0 n.toNat (Nat.zero_le _) (by rw [show (0 + 2 ^ 16) * (0 + 2 ^ 16) = 4294967296 by decide]; omega);have h5 := h4.uniq (h3 ▸ Qii k.natAbs);apply h2
  unfold rtI;rw [h5, e];exact Int.natAbs_mul_self' k
def onB (a b x : Int) : Bool := decide (x ≠ 0) && QkX (x * (x * x + a * x + b))
theorem QiK {a b x : Int} (h : onB a b x = true) : Im a b x := by
 unfold onB QkX at h;rw [Bool.and_eq_true, Bool.and_eq_true, decide_eq_true_iff, decide_eq_true_iff, decide_eq_true_iff] at h;obtain ⟨h1, -, h3⟩ := h;refine ⟨h1, .inr (.inr ⟨x, 1, ⟨h1, by decide, rtI (x * (x * x + a * x + b)), ?_⟩, by rw [Int.mul_one]; exact Eqs.refl x⟩)⟩;rw [h3];grind
def Qis (acc : List Int) (x : Int) : List Int := if acc.length < 4 /\ acc.all (fun y => QjL (x * y)) = true then x :: acc else acc
def QkL (l : List Int) : List Int := l.foldl Qis []
def smL : List Int := [1, -1, 2, -2, 3, -3, 4, -4, 5, -5, 6, -6, 7, -7, 8, -8, 9, -9]
def ptL (a b c d : Int) : List Int := (((-a + d) / 2) :: ((-a - d) / 2) :: c :: (-c) :: smL).filter (onB a b)
def QiR (a b c d : Int) : List Int := 1 :: b :: (ptL a b c d ++ (ptL a b c d).map (· * b))
theorem Qdj {x y : Int} (h : QjL (x * y) = true) : ¬ Eqs x y := by
 rintro ⟨k, l, hk, hl, e⟩
 have e1 : (x * y) * (k * k) = (y * l) * (y * l) := by
  have : x * y * (k * k) = x * (k * k) * y := by grind
  rw [this, e];grind
 obtain ⟨j, hj⟩ := Qc6 (n := y * l) (m := x * y) hk e1.symm;exact Qjt h hj
theorem QcW {a b : Int} : ∀ (l acc : List Int), (∀ x ∈ l, Im a b x) -> (∀ x ∈ acc, Im a b x) -> acc.Pairwise (fun x y => ¬ Eqs x y) -> (∀ x ∈ l.foldl Qis acc, Im a b x) /\ (l.foldl Qis acc).Pairwise (fun x y => ¬ Eqs x y)
 | [], acc, _, h2, h3 => ⟨h2, h3⟩
 | x :: l, acc, h1, h2, h3 => by
   refine QcW l _ (fun y hy => h1 y (List.mem_cons_of_mem _ hy)) ?_ ?_
   ·intro y hy;unfold Qis at hy;split at hy
    ·rcases List.mem_cons.1 hy with rfl | hy
     ·exact h1 _ List.mem_cons_self
     ·exact h2 y hy
    ·exact h2 y hy
   ·unfold Qis;split
    ·rename_i h
     refine List.pairwise_cons.2 ⟨fun y hy => ?_, h3⟩;exact Qdj (List.all_eq_true.1 h.2 y hy)
    ·exact h3
theorem Qfn {a b c d : Int} (hb : b ≠ 0) : ∀ x ∈ QiR a b c d, Im a b x := by
 intro x hx;unfold QiR at hx;rcases List.mem_cons.1 hx with rfl | hx
 ·exact Im.one a b
 ·rcases List.mem_cons.1 hx with rfl | hx
  ·exact Im.tor hb
  ·rcases List.mem_append.1 hx with hx | hx
   ·exact QiK (List.mem_filter.1 hx).2
   ·obtain ⟨y, hy, rfl⟩ := List.mem_map.1 hx;exact Im.mul_tor hb (QiK (List.mem_filter.1 hy).2)
def okQ (n0 n1 : Nat) : Bool := (decide (2 <= n0) && decide (2 <= n1)) || decide (4 <= n0) || decide (4 <= n1)
def QkY (a b : Int) : Bool :=
 let D := a * a - 4 * b
 decide (b = 0) || decide (D = 0) || (QjL b && QjL D) ||
  okQ (QkL (QiR a b (rtI b) (rtI D))).length (QkL (QiR (-2 * a) D (rtI D) (4 * rtI b))).length
theorem QkM : ((List.range 41).all fun (i : Nat) => (List.range 182).all fun (j : Nat) => QkY ((i : Int) - 20) ((j : Int) - 80)) = true := by decide +kernel
theorem Qjl {a b : Int} (h : Qgs a b) : ∃ Z0 Z1 : List Int, (∀ z ∈ Z0, Im a b z) /\ Z0.Pairwise (fun x y => ¬ Eqs x y) /\ (∀ z ∈ Z1, Im (-2 * a) (a * a - 4 * b) z) /\ Z1.Pairwise (fun x y => ¬ Eqs x y) /\ 1 <= Z0.length /\ 1 <= Z1.length /\ okQ Z0.length Z1.length = true := by
 obtain ⟨h1, h2, h3, h4, h5, h6⟩ := h;have hD : a * a - 4 * b ≠ 0 := by omega
 have h7 := List.all_eq_true.1 (List.all_eq_true.1 QkM (a + 20).toNat (List.mem_range.2 (by omega))) (b + 80).toNat (List.mem_range.2 (by omega));rw [show (((a + 20).toNat : Nat) : Int) - 20 = a by omega, show (((b + 80).toNat : Nat) : Int) - 80 = b by omega] at h7
 have one : ∀ (l acc : List Int), 1 <= acc.length -> 1 <= (l.foldl Qis acc).length := by
  intro l;induction l with
  | nil => intro acc h; exact h
  | cons x l ih =>
    intro acc h;refine ih _ ?_;unfold Qis;split
    ·simp
    ·exact h
 have st : ∀ (a b c d : Int), 1 <= (QkL (QiR a b c d)).length := fun a b c d => one _ (Qis [] 1) (by decide);unfold QkY at h7;rw [Bool.or_eq_true, Bool.or_eq_true, Bool.or_eq_true, decide_eq_true_iff, decide_eq_true_iff, Bool.and_eq_true] at h7;rcases h7 with ((h7 | h7) | ⟨h7, h8⟩) | h7
 ·exact absurd h7 h5
 ·exact absurd h7 hD
 ·refine ⟨[1, b], [1, a * a - 4 * b], ?_, ?_, ?_, ?_, by simp, by simp, by simp [okQ]⟩
  ·intro z hz;simp only [List.mem_cons, List.not_mem_nil, or_false] at hz;rcases hz with rfl | rfl
   ·exact Im.one a b
   ·exact Im.tor h5
  ·simp only [List.pairwise_cons, List.mem_singleton, forall_eq, List.not_mem_nil, false_imp_iff, implies_true, List.Pairwise.nil, and_true];exact Qdj (by rw [Int.one_mul]; exact h7)
  ·intro z hz;simp only [List.mem_cons, List.not_mem_nil, or_false] at hz;rcases hz with rfl | rfl
   ·exact Im.one _ _
   ·exact Im.tor hD
  ·simp only [List.pairwise_cons, List.mem_singleton, forall_eq, List.not_mem_nil, false_imp_iff, implies_true, List.Pairwise.nil, and_true];exact Qdj (by rw [Int.one_mul]; exact h8)
 ·obtain ⟨k1, k2⟩ := QcW (a := a) (b := b) (QiR a b (rtI b) (rtI (a * a - 4 * b))) [] (Qfn h5) (fun x h => by cases h) List.Pairwise.nil;obtain ⟨k3, k4⟩ := QcW (a := -2 * a) (b := a * a - 4 * b) (QiR (-2 * a) (a * a - 4 * b) (rtI (a * a - 4 * b)) (4 * rtI b)) [] (Qfn hD) (fun x h => by cases h) List.Pairwise.nil;exact ⟨_, _, k1, k2, k3, k4, st _ _ _ _, st _ _ _ _, h7⟩
end Go.Proofs.YteidokhjmbihlaaGreat
