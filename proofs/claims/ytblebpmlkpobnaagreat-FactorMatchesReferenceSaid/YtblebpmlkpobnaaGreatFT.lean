/-
  The reference of factor: Right.
-/
import Derived.Test.YtblebpmlkpobnaaGreatFS
set_option linter.unusedSimpArgs false
set_option linter.unusedVariables false
set_option maxHeartbeats 4000000
namespace Go.Proofs.YtblebpmlkpobnaaGreat
open Go.RowKit
attribute [local go_sem ↓] Go.wp_at_zero Go.wp_at_succ
def RightZ (f : Fz) : Prop := ∃ t, f = zF t /\ RightN t
noncomputable def rightB (f : Fz) : Bool := @decide (RightZ f) (Classical.propDecidable _)
theorem rightB_iff {f : Fz} : rightB f = true ↔ RightZ f := by unfold rightB; exact @decide_eq_true_iff _ (Classical.propDecidable _)
theorem rightB_not {f : Fz} (h : ¬ RightZ f) : rightB f = false := Bool.eq_false_iff.2 fun hh => h (rightB_iff.1 hh)
theorem rightB_of {f : Fz} (h : RightZ f) : rightB f = true := rightB_iff.2 h
theorem right_nat {t : Fn} : RightZ (zF t) ↔ RightN t := ⟨fun ⟨u, e, h⟩ => zF_back e ▸ h, fun h => ⟨t, rfl, h⟩⟩
structure Front (f : Fz) (t : Fn) : Prop where
 e : f = zF t
 n1 : 1 <= t.N
 b : t.B <= 65536
 iP : Inc t.P
 iR : Inc t.R
theorem front_of {f : Fz} (h1 : 1 <= f.N) (h2 : 0 <= f.B) (h3 : f.B <= 65536) (h4 : ordB f.P = true) (h5 : ordB f.R = true) : ∃ t, Front f t := by
 obtain ⟨m, e1, i1⟩ := ordB_inc.1 h4;obtain ⟨k, e2, i2⟩ := ordB_inc.1 h5;refine ⟨⟨f.N.toNat, m, k, f.B.toNat⟩, ?_, by show 1 <= f.N.toNat; omega, by show f.B.toNat <= _; omega, i1, i2⟩;obtain ⟨N, P, R, B⟩ := f;simp only [zF, Fz.mk.injEq];exact ⟨by simp only at h1; omega, e1, e2, by simp only at h2; omega⟩
theorem RightZ.front {f : Fz} (h : RightZ f) : 1 <= f.N /\ 0 <= f.B /\ f.B <= 65536 /\ ordB f.P = true /\ ordB f.R = true := by
 obtain ⟨t, rfl, h⟩ := h;have h1 := h.n1;have h2 := h.b;exact ⟨by show (1 : Int) <= (t.N : Int); omega, by show (0 : Int) <= (t.B : Int); omega, by show (t.B : Int) <= _; omega, ordB_inc.2 ⟨_, rfl, h.incP⟩, ordB_inc.2 ⟨_, rfl, h.incR⟩⟩
structure Found (t : Fn) (i m : Nat) : Prop where
 m1 : 1 <= m
 mN : m <= t.N
 tk : ∀ post, Takes t.N ((t.P ++ t.R).take i ++ post) ↔ Takes m post
 cop : ∀ j, j < i -> ∀ k, k < j -> Nat.Coprime ((t.P ++ t.R).getD j (0, 0)).1 ((t.P ++ t.R).getD k (0, 0)).1
 sm : ∀ j, j < i -> t.P.length <= j -> ∀ d, 2 <= d -> d <= t.B -> ¬ d ∣ ((t.P ++ t.R).getD j (0, 0)).1
theorem Found.zero {t : Fn} (h : 1 <= t.N) : Found t 0 t.N := ⟨h, Nat.le_refl _, fun _ => Iff.rfl, fun j hj => absurd hj (Nat.not_lt_zero _), fun j hj => absurd hj (Nat.not_lt_zero _)⟩
theorem take_snoc {l : List (Nat × Nat)} {i : Nat} (hi : i < l.length) : l.take (i + 1) = l.take i ++ [l.getD i (0, 0)] := by
 rw [List.take_succ_eq_append_getElem hi];simp [List.getD_eq_getElem?_getD, hi]
theorem take_drop {l : List (Nat × Nat)} {i : Nat} (hi : i < l.length) : l = l.take i ++ (l.getD i (0, 0) :: l.drop (i + 1)) := by
 conv => lhs; rw [<- List.take_append_drop i l]
 rw [List.drop_eq_getElem_cons hi];simp [List.getD_eq_getElem?_getD, hi]
theorem Found.step {t : Fn} {i m : Nat} (h : Found t i m) (hi : i < (t.P ++ t.R).length) (hp : 2 <= ((t.P ++ t.R).getD i (0, 0)).1)
  (hc : ∀ k, k < i -> Nat.Coprime ((t.P ++ t.R).getD i (0, 0)).1 ((t.P ++ t.R).getD k (0, 0)).1) (hs : t.P.length <= i -> ∀ d, 2 <= d -> d <= t.B -> ¬ d ∣ ((t.P ++ t.R).getD i (0, 0)).1)
  (hk : mlt ((t.P ++ t.R).getD i (0, 0)).1 m = ((t.P ++ t.R).getD i (0, 0)).2) : Found t (i + 1) (cof ((t.P ++ t.R).getD i (0, 0)).1 m) := by
 obtain ⟨s1, s2, s3⟩ := mlt_spec hp h.m1;refine ⟨s3, Nat.le_trans (Nat.le_of_dvd (by have := h.m1; omega) ⟨_, by rw [Nat.mul_comm]; exact s1⟩) h.mN, fun post => ?_, fun j hj k hkj => ?_, fun j hj hP => ?_⟩
 ·rw [take_snoc hi, List.append_assoc, h.tk];show (mlt _ m = _ /\ Takes _ post) ↔ _
  exact ⟨fun hh => hh.2, fun hh => ⟨hk, hh⟩⟩
 ·by_cases e : j = i
  ·subst e; exact hc k hkj
  ·exact h.cop j (by omega) k hkj
 ·by_cases e : j = i
  ·subst e; exact hs hP
  ·exact h.sm j (by omega) hP
theorem key_mem {t : Fn} {i : Nat} (hi : i < (t.P ++ t.R).length) : (t.P ++ t.R).getD i (0, 0) ∈ t.P ++ t.R := by
 rw [List.getD_eq_getElem?_getD, List.getElem?_eq_getElem hi];exact List.getElem_mem hi
theorem Front.big {f : Fz} {t : Fn} (h : Front f t) {i : Nat} (hi : i < (t.P ++ t.R).length) : 2 <= ((t.P ++ t.R).getD i (0, 0)).1 := by
 rcases List.mem_append.1 (key_mem hi) with hm | hm
 ·exact (h.iP.1 _ hm).1
 ·exact (h.iR.1 _ hm).1
theorem RightN.copAt {t : Fn} (h : RightN t) {i k : Nat} (hi : i < (t.P ++ t.R).length) (hk : k < i) : Nat.Coprime ((t.P ++ t.R).getD i (0, 0)).1 ((t.P ++ t.R).getD k (0, 0)).1 := by
 have h1 := h.cop;unfold ks at h1;rw [List.pairwise_map] at h1;have h2 := List.pairwise_iff_getElem.1 h1 k i (by omega) hi hk;have h3 : ∀ {j : Nat} (hj : j < (t.P ++ t.R).length), (t.P ++ t.R).getD j (0, 0) = (t.P ++ t.R)[j] := fun {j} hj => by simp only [List.getD_eq_getElem?_getD, List.getElem?_eq_getElem hj, Option.getD_some]
 rw [h3 hi, h3 (by omega)];exact Nat.Coprime.symm h2
theorem Found.bad {t : Fn} {i m : Nat} (h : Found t i m) (hi : i < (t.P ++ t.R).length) (hk : mlt ((t.P ++ t.R).getD i (0, 0)).1 m ≠ ((t.P ++ t.R).getD i (0, 0)).2) : ¬ RightN t := by
 intro hr;have := hr.tk;rw [take_drop hi, h.tk] at this;exact hk this.1
theorem Found.all {f : Fz} {t : Fn} {m : Nat} (hf : Front f t) (h : Found t (t.P ++ t.R).length m) : RightN t ↔ m = 1 := by
 have h1 := h.tk [];rw [List.take_length, List.append_nil] at h1;constructor
 ·intro hr; exact h1.1 hr.tk
 ·intro hm;refine ⟨hf.n1, hf.b, hf.iP, hf.iR, ?_, h1.2 hm, fun r hr d hd hb => ?_⟩
  ·unfold ks;rw [List.pairwise_map, List.pairwise_iff_getElem];intro i j hi hj hij;have := h.cop j hj i hij;have h3 : ∀ {j : Nat} (hj : j < (t.P ++ t.R).length), (t.P ++ t.R).getD j (0, 0) = (t.P ++ t.R)[j] := fun {j} hj => by simp only [List.getD_eq_getElem?_getD, List.getElem?_eq_getElem hj, Option.getD_some]
   rw [h3 hj, h3 hi] at this;exact Nat.Coprime.symm this
  ·obtain ⟨j, hj, rfl⟩ := List.getElem_of_mem hr;have := h.sm (t.P.length + j) (by rw [List.length_append]; omega) (by omega) d hd hb;rw [List.getD_eq_getElem?_getD, List.getElem?_append_right (by omega), Nat.add_sub_cancel_left, List.getElem?_eq_getElem hj] at this;exact this
end Go.Proofs.YtblebpmlkpobnaaGreat
