/-
  The reference of factor: Right.
-/
import Derived.Test.YtblebpmlkpobnaaGreatDoorFS
set_option linter.unusedSimpArgs false
set_option linter.unusedVariables false
set_option maxRecDepth 100000
set_option maxHeartbeats 4000000
namespace Go.Proofs.YtblebpmlkpobnaaGreatDoor
open Go.RowKit
attribute [local go_sem ↓] Go.wp_at_zero Go.wp_at_succ
def RightZ (f : Fz) : Prop := ∃ t, f = zF t /\ RightN t
noncomputable def rightB (f : Fz) : Bool := @decide (RightZ f) (Classical.propDecidable _)
theorem rightB_iff {f : Fz} : rightB f = true ↔ RightZ f := by unfold rightB; exact @decide_eq_true_iff _ (Classical.propDecidable _)
theorem rightB_not {f : Fz} (h : ¬ RightZ f) : rightB f = false := Bool.eq_false_iff.2 fun hh => h (rightB_iff.1 hh)
theorem rightB_of {f : Fz} (h : RightZ f) : rightB f = true := rightB_iff.2 h
theorem right_nat {t : Fn} : RightZ (zF t) ↔ RightN t := ⟨fun ⟨u, e, h⟩ => zF_back e ▸ h, fun h => ⟨t, rfl, h⟩⟩
structure Front (f : Fz) (t : Fn) : Prop where
 e : f = zF t
 n1 : 1 <= t.N
 b : t.B <= 65536
 iP : Inc t.P
 iR : Inc t.R
theorem front_of {f : Fz} (h1 : 1 <= f.N) (h2 : 0 <= f.B) (h3 : f.B <= 65536) (h4 : ordB f.P = true) (h5 : ordB f.R = true) : ∃ t, Front f t := by
 obtain ⟨m, e1, i1⟩ := ordB_inc.1 h4;obtain ⟨k, e2, i2⟩ := ordB_inc.1 h5;refine ⟨⟨f.N.toNat, m, k, f.B.toNat⟩, ?_, by show 1 <= f.N.toNat; omega, by show f.B.toNat <= _; omega, i1, i2⟩;obtain ⟨N, P, R, B⟩ := f;simp only [zF, Fz.mk.injEq];exact ⟨by simp only at h1; omega, e1, e2, by simp only at h2; omega⟩
theorem RightZ.front {f : Fz} (h : RightZ f) : 1 <= f.N /\ 0 <= f.B /\ f.B <= 65536 /\ ordB f.P = true /\ ordB f.R = true := by
 obtain ⟨t, rfl, h⟩ := h;have h1 := h.n1;have h2 := h.b;exact ⟨by show (1 : Int) <= (t.N : Int); omega, by show (0 : Int) <= (t.B : Int); omega, by show (t.B : Int) <= _; omega, ordB_inc.2 ⟨_, rfl, h.incP⟩, ordB_inc.2 ⟨_, rfl, h.incR⟩⟩
structure Found (t : Fn) (i m : Nat) : Prop where
 m1 : 1 <= m
 mN : m <= t.N
 tk : ∀ post, Takes t.N ((t.P ++ t.R).take i ++ post) ↔ Takes m post
 cop : ∀ j, j < i -> ∀ k, k < j -> Nat.Coprime ((t.P ++ t.R).getD j (0, 0)).1 ((t.P ++ t.R).getD k (0, 0)).1
 sm : ∀ j, j < i -> t.P.length <= j -> ∀ d, 2 <= d -> d <= t.B -> ¬ d ∣ ((t.P ++ t.R).getD j (0, 0)).1
theorem Found.zero {t : Fn} (h : 1 <= t.N) : Found t 0 t.N := ⟨h, Nat.le_refl _, fun _ => Iff.rfl, fun j hj => absurd hj (Nat.not_lt_zero _), fun j hj => absurd hj (Nat.not_lt_zero _)⟩
theorem take_snoc {l : List (Nat × Nat)} {i : Nat} (hi : i < l.length) : l.take (i + 1) = l.take i ++ [l.getD i (0, 0)] := by
 rw [List.take_succ_eq_append_getElem hi];simp [List.getD_eq_getElem?_getD, hi]
theorem take_drop {l : List (Nat × Nat)} {i : Nat} (hi : i < l.length) : l = l.take i ++ (l.getD i (0, 0) :: l.drop (i + 1)) := by
 conv => lhs; rw [<- List.take_append_drop i l]
 rw [List.drop_eq_getElem_cons hi];simp [List.getD_eq_getElem?_getD, hi]
theorem Found.step {t : Fn} {i m : Nat} (h : Found t i m) (hi : i < (t.P ++ t.R).length) (hp : 2 <= ((t.P ++ t.R).getD i (0, 0)).1)
  (hc : ∀ k, k < i -> Nat.Coprime ((t.P ++ t.R).getD i (0, 0)).1 ((t.P ++ t.R).getD k (0, 0)).1) (hs : t.P.length <= i -> ∀ d, 2 <= d -> d <= t.B -> ¬ d ∣ ((t.P ++ t.R).getD i (0, 0)).1)
  (hk : mlt ((t.P ++ t.R).getD i (0, 0)).1 m = ((t.P ++ t.R).getD i (0, 0)).2) : Found t (i + 1) (cof ((t.P ++ t.R).getD i (0, 0)).1 m) := by
 obtain ⟨s1, s2, s3⟩ := mlt_spec hp h.m1;refine ⟨s3, Nat.le_trans (Nat.le_of_dvd (by have := h.m1; omega) ⟨_, by rw [Nat.mul_comm]; exact s1⟩) h.mN, fun post => ?_, fun j hj k hkj => ?_, fun j hj hP => ?_⟩
 ·rw [take_snoc hi, List.append_assoc, h.tk];show (mlt _ m = _ /\ Takes _ post) ↔ _
  exact ⟨fun hh => hh.2, fun hh => ⟨hk, hh⟩⟩
 ·by_cases e : j = i
  ·subst e; exact hc k hkj
  ·exact h.cop j (by omega) k hkj
 ·by_cases e : j = i
  ·subst e; exact hs hP
  ·exact h.sm j (by omega) hP
theorem key_mem {t : Fn} {i : Nat} (hi : i < (t.P ++ t.R).length) : (t.P ++ t.R).getD i (0, 0) ∈ t.P ++ t.R := by
 rw [List.getD_eq_getElem?_getD, List.getElem?_eq_getElem hi];exact List.getElem_mem hi
theorem Front.big {f : Fz} {t : Fn} (h : Front f t) {i : Nat} (hi : i < (t.P ++ t.R).length) : 2 <= ((t.P ++ t.R).getD i (0, 0)).1 := by
 rcases List.mem_append.1 (key_mem hi) with hm | hm
 ·exact (h.iP.1 _ hm).1
 ·exact (h.iR.1 _ hm).1
theorem RightN.copAt {t : Fn} (h : RightN t) {i k : Nat} (hi : i < (t.P ++ t.R).length) (hk : k < i) : Nat.Coprime ((t.P ++ t.R).getD i (0, 0)).1 ((t.P ++ t.R).getD k (0, 0)).1 := by
 have h1 := h.cop;unfold ks at h1;rw [List.pairwise_map] at h1;have h2 := List.pairwise_iff_getElem.1 h1 k i (by omega) hi hk;have h3 : ∀ {j : Nat} (hj : j < (t.P ++ t.R).length), (t.P ++ t.R).getD j (0, 0) = (t.P ++ t.R)[j] := fun {j} hj => by simp only [List.getD_eq_getElem?_getD, List.getElem?_eq_getElem hj, Option.getD_some]
 rw [h3 hi, h3 (by omega)];exact Nat.Coprime.symm h2
theorem RightN.smAt {t : Fn} (h : RightN t) {i : Nat} (hi : i < (t.P ++ t.R).length) (hP : t.P.length <= i) : ∀ d, 2 <= d -> d <= t.B -> ¬ d ∣ ((t.P ++ t.R).getD i (0, 0)).1 := by
 refine h.sm _ ?_;rw [List.length_append] at hi;rw [List.getD_eq_getElem?_getD, List.getElem?_append_right hP, List.getElem?_eq_getElem (by omega)];exact List.getElem_mem _
theorem Found.bad {t : Fn} {i m : Nat} (h : Found t i m) (hi : i < (t.P ++ t.R).length) (hk : mlt ((t.P ++ t.R).getD i (0, 0)).1 m ≠ ((t.P ++ t.R).getD i (0, 0)).2) : ¬ RightN t := by
 intro hr;have := hr.tk;rw [take_drop hi, h.tk] at this;exact hk this.1
theorem Found.all {f : Fz} {t : Fn} {m : Nat} (hf : Front f t) (h : Found t (t.P ++ t.R).length m) : RightN t ↔ m = 1 := by
 have h1 := h.tk [];rw [List.take_length, List.append_nil] at h1;constructor
 ·intro hr; exact h1.1 hr.tk
 ·intro hm;refine ⟨hf.n1, hf.b, hf.iP, hf.iR, ?_, h1.2 hm, fun r hr d hd hb => ?_⟩
  ·unfold ks;rw [List.pairwise_map, List.pairwise_iff_getElem];intro i j hi hj hij;have := h.cop j hj i hij;have h3 : ∀ {j : Nat} (hj : j < (t.P ++ t.R).length), (t.P ++ t.R).getD j (0, 0) = (t.P ++ t.R)[j] := fun {j} hj => by simp only [List.getD_eq_getElem?_getD, List.getElem?_eq_getElem hj, Option.getD_some]
   rw [h3 hj, h3 hi] at this;exact Nat.Coprime.symm this
  ·obtain ⟨j, hj, rfl⟩ := List.getElem_of_mem hr;have := h.sm (t.P.length + j) (by rw [List.length_append]; omega) (by omega) d hd hb;rw [List.getD_eq_getElem?_getD, List.getElem?_append_right (by omega), Nat.add_sub_cancel_left, List.getElem?_eq_getElem hj] at this;exact this
def knA (L : List (Int × Int)) : Kn where
 R := fun i v Z w => i = 1 -> So eP w 0 v L /\ ∀ g, v.ownBlock = some g -> Z g
 V := fun w B => Vx w B 0
 up := fun h hb e => ⟨(h e).1.up hb, (h e).2⟩
 vup := fun h hb => h.up hb
 vlt := fun h => h.lt
theorem rright_any (va : Value) (f : Fz) (w : World) (h : Fx w va f) (hz : szF f) (hP : f.P.length <= 549755813888) (hR : f.R.length <= 549755813888) :
  Calls Tryz.prog 7 #[va] w fun e w' => e = .returned (.bool (rightB f)) /\ Below w.heap.size w w' := by
 obtain ⟨W, s, a, n, c, aP, cP, aR, cR, rfl, hW, bl, hs, hF⟩ := boxF w h;clear h;have hzN := hz.1;go_enter Tryz.func7, Tryz.ntmps7
 go_upto_region 1 with fail;rw [<- hW];clear hW;obtain ⟨p0, p1, p2, p3, p4⟩ := hF.cells;go_wp2_with fail;refine (rvalid_any _ f.N W hF.hN (Nat.le_trans hzN (by decide))).mono ?_;rintro e w1 ⟨rfl, hb1⟩;have hF1 := hF.up hb1;replace p0 := keepc hb1 p0;replace p1 := keepc hb1 p1;replace p2 := keepc hb1 p2;replace p3 := keepc hb1 p3;replace p4 := keepc hb1 p4;have HF1 := Lib.hid hF1;have HF := Lib.hid hF;clear hF1 hF;go_wp2_with fail;refine (rsign_any _ f.N w1 HF1.out.hN).mono ?_;rintro e w2 ⟨rfl, hb2⟩;have hbW := Bl.up hb1 hb2;replace p0 := keepc hb2 p0;replace p1 := keepc hb2 p1;replace p2 := keepc hb2 p2;replace p3 := keepc hb2 p3;replace p4 := keepc hb2 p4;clear hb1 hb2 HF1;by_cases c1 : f.N < 1
 case pos =>
  have d1 : cmpI f.N 0 < 1 := by unfold cmpI; split <;> (try split) <;> omega
  generalize cmpI f.N 0 = cc at *;go_wp2_with fail;go_ret
  exact ⟨ret_of (congrArg Value.bool (rightB_not (fun h => by have := h.front.1; omega)).symm), Bl.up bl hbW⟩
 have d1 : ¬ cmpI f.N 0 < 1 := by unfold cmpI; split <;> (try split) <;> omega
 generalize cmpI f.N 0 = cc at *;by_cases c2 : f.B < 0
 case pos =>
  go_wp2_with fail;go_ret
  exact ⟨ret_of (congrArg Value.bool (rightB_not (fun h => by have := h.front.2.1; omega)).symm), Bl.up bl hbW⟩
 by_cases c3 : f.B > 65536
 case pos =>
  go_wp2_with fail;go_ret
  exact ⟨ret_of (congrArg Value.bool (rightB_not (fun h => by have := h.front.2.2.1; omega)).symm), Bl.up bl hbW⟩
 go_wp2_with fail;refine (rordered_any _ f.P w2 (HF.out.hP.up hbW) hz.2.1).mono ?_;rintro e w3 ⟨rfl, hb2⟩;replace hbW := Bl.up hbW hb2;replace p0 := keepc hb2 p0;replace p1 := keepc hb2 p1;replace p2 := keepc hb2 p2;replace p3 := keepc hb2 p3;replace p4 := keepc hb2 p4;clear hb2;have c4 : ordB f.P = true \/ ordB f.P = false := by cases ordB f.P <;> simp
 rcases c4 with c4 | c4
 case inr =>
  rw [c4];have C4 := Lib.hid c4;clear c4;go_wp2_with fail;go_ret
  exact ⟨ret_of (congrArg Value.bool (rightB_not (fun h => by have := h.front.2.2.2.1; rw [C4.out] at this; cases this)).symm), Bl.up bl hbW⟩
 rw [c4];have C4 := Lib.hid c4;clear c4;go_wp2_with fail;refine (rordered_any _ f.R w3 (HF.out.hR.up hbW) hz.2.2).mono ?_;rintro e w4 ⟨rfl, hb2⟩;replace hbW := Bl.up hbW hb2;replace p0 := keepc hb2 p0;replace p1 := keepc hb2 p1;replace p2 := keepc hb2 p2;replace p3 := keepc hb2 p3;replace p4 := keepc hb2 p4;clear hb2;have c5 : ordB f.R = true \/ ordB f.R = false := by cases ordB f.R <;> simp
 rcases c5 with c5 | c5
 case inr =>
  rw [c5];have C5 := Lib.hid c5;clear c5;go_wp2_with fail;go_ret
  exact ⟨ret_of (congrArg Value.bool (rightB_not (fun h => by have := h.front.2.2.2.2; rw [C5.out] at this; cases this)).symm), Bl.up bl hbW⟩
 rw [c5];have hT := front_of (f := f) (by omega) (by omega) (by omega) C4.out c5;have HT := Lib.hid (Classical.choose_spec hT);generalize Classical.choose hT = t at HT;clear c5 hT C4;go_upto_region 3 with fail;have hPl : f.P.length + f.R.length <= 1099511627776 := by omega
 have hH : (fun w' : World => w'.cell? ⟨w.heap.size, 0, none⟩ = some (.bool s) /\ w'.cell? ⟨w.heap.size, 1, none⟩ = some (.slice a n c) /\ w'.cell? ⟨w.heap.size, 2, none⟩ = some (.slice aP f.P.length cP) /\ w'.cell? ⟨w.heap.size, 3, none⟩ = some (.slice aR f.R.length cR) /\ w'.cell? ⟨w.heap.size, 4, none⟩ = some (.int .i64 f.B)) w4 := ⟨p0, p1, p2, p3, p4⟩;refine wp_region_T (by kernel_rfl) [6] (S := fun w' => w'.cell? ⟨w.heap.size, 0, none⟩ = some (.bool s) /\ w'.cell? ⟨w.heap.size, 1, none⟩ = some (.slice a n c) /\ w'.cell? ⟨w.heap.size, 2, none⟩ = some (.slice aP f.P.length cP) /\ w'.cell? ⟨w.heap.size, 3, none⟩ = some (.slice aR f.R.length cR) /\ w'.cell? ⟨w.heap.size, 4, none⟩ = some (.int .i64 f.B)) hH (fun hHeld => ?_);clear hH;have hF4 := HF.out.up hbW;have HF4 := Lib.hid hF4;clear hF4;refine kL 0 rfl ?_;refine pL 2 rfl ?_;refine kL 3 rfl ?_;clear hHeld
 refine wpAnyT_all [(1, some 42), (4, some 4)] 2 (Fl (knA (f.P ++ f.R)) 4 w4) rfl (by kernel_rfl) (by decide) (by kernel_rfl) (by kernel_rfl) (by kernel_rfl)
  (fun bb x wz h => ⟨keepc h.bl p0, keepc h.bl p1, keepc h.bl p2, keepc h.bl p3, keepc h.bl p4⟩) (fun x => Fl.start _ _ _ _) ?_ ?_
 ·intro i hi;have hi' : i = 1 \/ i = 4 := by simpa using hi
  clear hi;rcases hi' with rfl | rfl
  ·refine ⟨_, rfl, fun bb x wz hJ hbb hw K hK => ?_⟩;clear hbb hw;simp only [actA] at hK |-;go_simp;refine (rall_any _ f wz (HF4.out.up hJ.bl).fx hP hR).mono ?_;rintro e w2 ⟨v, rfl, hv, hb⟩;exact hK.out _ _ (hJ.call (i := 1) (by decide) (Z := fun k => v.ownBlock = some k) (fun _ => ⟨hv.base (Nat.zero_le _), fun _ h => h⟩) (fun k hk => hv.lt k hk) hb)
  ·refine ⟨_, rfl, fun bb x wz hJ hbb hw K hK => ?_⟩;clear hbb hw;simp only [actA] at hK |-;go_simp;exact hK.out _ _ (hJ.var (W' := wz.alloc (.cells #[.bool false, .slice none 0 0] 29)) (Vx.new0 (w := wz) rfl) (below_new _ _))
 intro bb x wz hbb hJ;obtain ⟨Z, hRR, hZ, hZn⟩ := hJ.pr 1 (by decide) (hbb 1 (by decide));obtain ⟨hSo, hSZ⟩ := hRR rfl;obtain ⟨B4, hx4, hB4, hV4⟩ := hJ.pj (hbb 4 (by decide));replace hZn := hZn (hbb 4 (by decide)) B4 hx4;have hbz := hJ.bl;clear hbb hJ hRR;obtain ⟨aL, cL, hxL, hcL⟩ := hSo.slice;obtain ⟨N, hN⟩ : ∃ N, (f.P ++ f.R).length = N := ⟨_, rfl⟩;rw [hxL] at hSo hSZ;rw [hN] at hSo hSZ hcL hxL;have HN0 := Lib.hid hN;clear hN;simp only [actM, hx4, hxL];clear hx4 hxL;have hHeld : (fun w' : World => w'.cell? ⟨w.heap.size, 0, none⟩ = some (.bool s) /\ w'.cell? ⟨w.heap.size, 1, none⟩ = some (.slice a n c) /\ w'.cell? ⟨w.heap.size, 2, none⟩ = some (.slice aP f.P.length cP) /\ w'.cell? ⟨w.heap.size, 3, none⟩ = some (.slice aR f.R.length cR) /\ w'.cell? ⟨w.heap.size, 4, none⟩ = some (.int .i64 f.B)) wz := ⟨keepc hbz p0, keepc hbz p1, keepc hbz p2, keepc hbz p3, keepc hbz p4⟩;obtain ⟨y1, y2, y3, y4, z0, z1, z2, z3, -⟩ := hV4.cells;refine pL 5 rfl ?_;(refine oL 6 rfl fun K hK => tL ?_; go_simp);(go_wp2_with fail; refine xL hK (tL ?_); clear hK);refine dT ?_;clear z0 z1 z2 z3 hHeld p0 p1 p2 p3 p4;have hb5 := (ButS.set wz B4 0 (.bool s)).trans (ButS.set _ B4 1 (.slice a n c));have hSn : ∀ g, g = B4 -> NoW wz g := fun g e => by subst e; obtain ⟨_, _, _, _, _, _, h⟩ := hV4; exact h
 have hV5 := Vx.put hV4.va (HF4.out.hN.up hbz);have hSo5 := hSo.fr hb5 hSn (fun g hg e => hZn (e ▸ hSZ g hg));have hn5 : ∀ g, (Value.slice aL N cL).ownBlock = some g -> g ≠ B4 := fun g hg e => hZn (e ▸ hSZ g hg);have hbW5 : Below W.heap.size W ((wz.setCell ⟨B4, 0, none⟩ (.bool s)).setCell ⟨B4, 1, none⟩ (.slice a n c)) := ButS.below (Bl.up hbW hbz) hb5 (Bl.up hbW hbz).size (fun g e => by have := hbW.size; omega);have hB4W : W.heap.size <= B4 := Nat.le_trans hbW.size hB4;generalize (wz.setCell ⟨B4, 0, none⟩ (.bool s)).setCell ⟨B4, 1, none⟩ (.slice a n c) = w5 at *;clear hb5 hSn hV4 hSo hSZ hZn hZ hbz HF4 hB4 hbW c1 c2 c3 d1;have HT2 := HT.out;have he := HT2.e;subst he;have HT := Lib.hid HT2;clear HT2;have hN : (t.P ++ t.R).length = N := by rw [<- HN0.out]; simp [zF, zP_len]
 have eL : (zF t).P ++ (zF t).R = zP (t.P ++ t.R) := (zP_append _ _).symm;rw [eL] at hSo5;have hPl : (zF t).P.length = t.P.length := zP_len _;rw [hPl];clear eL HN0 hPl
 have hzT : ∀ i, i < (t.P ++ t.R).length -> sz (((t.P ++ t.R).getD i (0, 0)).1 : Int) <= 1099511627776 := fun i hi => by
  rcases List.mem_append.1 (key_mem hi) with hm | hm
  ·exact hz.2.1.2 _ (List.mem_map.2 ⟨_, hm, rfl⟩)
  ·exact hz.2.2.2 _ (List.mem_map.2 ⟨_, hm, rfl⟩)
 have hNT : (t.P ++ t.R).length <= 1099511627776 := by
  have h1 : (zP t.P).length <= 549755813888 := hP;have h2 : (zP t.R).length <= 549755813888 := hR;rw [zP_len] at h1 h2;rw [List.length_append]; omega
 have HZ := Lib.hid hzT;have HB := Lib.hid hbW5;have HS := Lib.hid hSo5;have hNo : NoW w5 B4 := by obtain ⟨_, _, _, _, _, _, h⟩ := hV5; exact h
 have HNo := Lib.hid hNo;have HN5 := Lib.hid hn5;have hlt4 := hV5.lt;rw [hN] at hNT;have HN := Lib.hid hN;have hbl5 := Bl.up bl hbW5;have HBL := Lib.hid hbl5;clear hn5 hzT hbW5 hSo5 hNo hN hbl5 hz hP hR;go_wp2_with fail
 go_loopw [5, 6, 7] (fun s5 s6 s7 wr => ∃ i m : Nat, s5 = .int .i64 i /\ i <= N /\ Found t i m /\ ButS (fun g => g = B4) w5 wr /\ Vx wr B4 m)
  (fun s5 _ _ _ => N - (intOf s5).toNat)
 case atStart => exact ⟨0, t.N, rfl, Nat.zero_le _, Found.zero HT.out.n1, ButS.refl _ _, hV5⟩
 case round =>
  obtain ⟨i, m, rfl, hi, hfd, hbs, hvx⟩ := hrel;clear hV5;have HFD := Lib.hid hfd;have hmN := hfd.mN;have hszm : sz (m : Int) <= 1099511627776 := Nat.le_trans (sz_mono (by show (m : Int).natAbs <= ((t.N : Int)).natAbs; omega)) hzN;clear hfd;by_cases hlt : i < N
  ·have hlT : i < (t.P ++ t.R).length := by rw [HN.out]; exact hlt
   have h2x := HT.out.big hlT;have hszx := HZ.out i hlT;obtain ⟨x, hx0⟩ : ∃ x, (t.P ++ t.R).getD i (0, 0) = x := ⟨_, rfl⟩;rw [hx0] at h2x hszx;have HX := Lib.hid hx0;clear hx0;go_wp2_with fail
   go_loopw [6] (fun s6 wq => ∃ j : Nat, s6 = .int .i64 j /\ j <= i /\ (∀ k, k < j -> Nat.Coprime x.1 ((t.P ++ t.R).getD k (0, 0)).1) /\ ButS (fun g => g = B4) w5 wq /\ Vx wq B4 m)
    (fun s6 _ => i - (intOf s6).toNat)
   case atStart => exact ⟨0, rfl, Nat.zero_le _, fun k hk => absurd hk (Nat.not_lt_zero _), hbs, hvx⟩
   case round =>
    obtain ⟨j, rfl, hj, hcp, hbs', hvx'⟩ := hrel;clear hbs hvx;have HCP := Lib.hid hcp;clear hcp;have hS := HS.out.fr hbs' (fun g e => e ▸ HNo.out) HN5.out;obtain ⟨ba, offa, rfl, hba, hla⟩ := hS.sr.at (i := i) (by rw [zP_len]; exact hlT);obtain ⟨s1, a1, n1, k1, p0, p1, p2, hx⟩ := hla.pow (i := i) (by rw [zP_len]; exact hlT);rw [zP_getD, HX.out] at p2 hx;by_cases hji : j < i
    ·have hlj : j < (t.P ++ t.R).length := by omega
     have hszy := HZ.out j hlj;obtain ⟨s2, a2, n2, k2, q0, q1, q2, hy⟩ := hla.pow (i := j) (by rw [zP_len]; exact hlj);rw [zP_getD] at q2 hy;obtain ⟨y, hy0⟩ : ∃ y, (t.P ++ t.R).getD j (0, 0) = y := ⟨_, rfl⟩;rw [hy0] at q2 hy hszy;have HY := Lib.hid hy0;clear hy0 hla hS q2 p2;have i0 : (0 : Int) <= (i : Int) := by omega
     have i1 : (i : Int) < (N : Int) := by omega
     have i2 : (0 : Int) <= (j : Int) := by omega
     have i3 : (j : Int) < (N : Int) := by omega
     have i4 : j < N := by omega
     have i5 : (j : Int) < (i : Int) := by omega
     go_upto_region 10 with fail;refine wp_region_T (by kernel_rfl) [] (S := fun w' => w'.cell? ⟨ba, offa + i * 3, none⟩ = some (.bool s1) /\ w'.cell? ⟨ba, offa + i * 3 + 1, none⟩ = some (.slice a1 n1 k1) /\ w'.cell? ⟨ba, offa + j * 3, none⟩ = some (.bool s2) /\ w'.cell? ⟨ba, offa + j * 3 + 1, none⟩ = some (.slice a2 n2 k2)) ⟨p0, p1, q0, q1⟩ (fun hHeld => ?_);replace hx := hx.drew;replace hy := hy.drew;replace hbs' := hbs'.dr;replace hvx' := hvx'.drew;(refine kL 0 rfl ?_; refine kL 1 rfl ?_; refine kL 2 rfl ?_; refine kL 3 rfl ?_; refine kL 4 rfl ?_; refine kL 5 rfl ?_; refine kL 6 rfl ?_; refine kL 7 rfl ?_; refine kL 8 rfl ?_; refine kL 9 rfl ?_)
     (refine oL 10 rfl fun K hK => tL ?_; go_simp);refine (rgcd_any _ _ (x.1 : Int) (y.1 : Int) _ hx hy hszx hszy).mono ?_;rintro e w6 ⟨v, rfl, hv, hb6⟩;replace hbs' := ButS.up hbs' hb6;replace hvx' := hvx'.up hb6;replace p0 := keepc hb6 (cellD p0);replace p1 := keepc hb6 (cellD p1);replace q0 := keepc hb6 (cellD q0);replace q1 := keepc hb6 (cellD q1);clear hb6 hx hy;(go_wp2_with fail; clear hHeld; refine nxL hK ⟨p0, p1, q0, q1⟩ fun hHeld => tL ?_; clear hK);(refine oL 11 rfl fun K hK => tL ?_; go_simp);refine (rone_any w6).mono ?_;rintro e w7 ⟨v1, rfl, hv1, hb6⟩;replace hbs' := ButS.up hbs' hb6;replace hvx' := hvx'.up hb6;replace hv := hv.up hb6;replace p0 := keepc hb6 p0;replace p1 := keepc hb6 p1;replace q0 := keepc hb6 q0;replace q1 := keepc hb6 q1;clear hb6;(go_wp2_with fail; clear hHeld; refine nxL hK ⟨p0, p1, q0, q1⟩ fun hHeld => tL ?_; clear hK)
     have hsg : sz ((Int.gcd (x.1 : Int) (y.1 : Int) : Nat) : Int) <= 1099511627776 := Nat.le_trans (sz_mono (by
      show (((Int.gcd (x.1 : Int) (y.1 : Int) : Nat) : Int)).natAbs <= ((x.1 : Int)).natAbs
      have : Nat.gcd x.1 y.1 <= x.1 := Nat.le_of_dvd (by omega) (Nat.gcd_dvd_left _ _);show Nat.gcd x.1 y.1 <= x.1
      exact this)) hszx
     have hgd : Int.gcd (x.1 : Int) (y.1 : Int) = Nat.gcd x.1 y.1 := rfl;(refine oL 12 rfl fun K hK => tL ?_; go_simp);refine (rcmp_any _ _ _ 1 w7 hv hv1 (Nat.le_trans hsg (by decide)) (by decide)).mono ?_;rintro e w8 ⟨rfl, hb6⟩;replace hbs' := ButS.up hbs' hb6;replace hvx' := hvx'.up hb6;replace p0 := keepc hb6 p0;replace p1 := keepc hb6 p1;replace q0 := keepc hb6 q0;replace q1 := keepc hb6 q1
     have hcm : (cmpI ((Int.gcd (x.1 : Int) (y.1 : Int) : Nat) : Int) 1 != 0) = !decide (Nat.Coprime x.1 y.1) := by
      rw [Bool.eq_iff_iff, bne_iff_ne, ne_eq, cmpI_zero, hgd];simp only [Bool.not_eq_true', decide_eq_false_iff_not];show ¬ ((Nat.gcd x.1 y.1 : Nat) : Int) = 1 ↔ ¬ Nat.gcd x.1 y.1 = 1
      omega
     generalize cmpI ((Int.gcd (x.1 : Int) (y.1 : Int) : Nat) : Int) 1 = cc at *;obtain ⟨b0, hb0⟩ : ∃ b0, decide (Nat.Coprime x.1 y.1) = b0 := ⟨_, rfl⟩;rw [hb0] at hcm;have HB0 := Lib.hid hb0;clear hb0;clear hb6 hv hv1 hsg hgd;(go_wp2_with fail; clear hHeld; refine nxL hK ⟨p0, p1, q0, q1⟩ fun hHeld => tL ?_; clear hK);(refine kL 13 rfl ?_)
     refine dT ?_;clear hHeld p0 p1 q0 q1
     cases b0
     case true =>
      have hco := Lib.hid (of_decide_eq_true HB0.out);go_wp2_with fail;go_roundw
      case rel =>
       refine ⟨j + 1, by go_num, by omega, fun k hk => ?_, hbs', hvx'⟩;by_cases e : k = j
       ·subst e; rw [HY.out]; exact hco.out
       ·exact HCP.out k (by omega)
      case measure => simp [intOf]; omega
     case false =>
      have hco := Lib.hid (of_decide_eq_false HB0.out);go_wp2_with fail;go_ret
      refine ⟨ret_of (congrArg Value.bool (rightB_not fun h => ?_).symm), Bl.up bl (ButS.bel HB.out hbs' hB4W)⟩;have := RightN.copAt (right_nat.1 h) hlT hji;rw [HX.out, HY.out] at this;exact hco.out this
    ·have hji2 : j = i := by omega
     subst j;have i0 : (0 : Int) <= (i : Int) := by omega
     have i1 : (i : Int) < (N : Int) := by omega
     have hFr := HF.out.up (ButS.bel HB.out hbs' hB4W);obtain ⟨-, -, c2, -, c4⟩ := hFr.cells;have hPl : (zF t).P.length = t.P.length := zP_len _;have hBl : (zF t).B = (t.B : Int) := rfl;rw [hPl] at c2;rw [hBl] at c4;clear hPl hBl hFr hla hS p2 hji;by_cases hPi : t.P.length <= i
     case' pos =>
      have i2 : (i : Int) >= (t.P.length : Int) := by omega
      go_upto_region 12 with fail;refine wp_region_T (by kernel_rfl) [] (S := fun w' => w'.cell? ⟨ba, offa + i * 3, none⟩ = some (.bool s1) /\ w'.cell? ⟨ba, offa + i * 3 + 1, none⟩ = some (.slice a1 n1 k1) /\ w'.cell? ⟨w.heap.size, 2, none⟩ = some (.slice aP t.P.length cP) /\ w'.cell? ⟨w.heap.size, 4, none⟩ = some (.int .i64 (t.B : Int))) ⟨p0, p1, c2, c4⟩ (fun hHeld => ?_);replace hx := hx.drew;replace hbs' := hbs'.dr;replace hvx' := hvx'.drew;(refine kL 0 rfl ?_; refine kL 1 rfl ?_; refine kL 2 rfl ?_; refine kL 3 rfl ?_; refine kL 4 rfl ?_; refine kL 5 rfl ?_; refine kL 6 rfl ?_; refine kL 7 rfl ?_; refine kL 8 rfl ?_; refine kL 9 rfl ?_; refine kL 10 rfl ?_; refine kL 11 rfl ?_; refine kL 12 rfl ?_)
      (refine oL 13 rfl fun K hK => tL ?_; go_simp);refine (rsmall_any _ x.1 (t.B : Int) _ hx (by have := HT.out.b; omega) hszx).mono ?_;rintro e w8 ⟨rfl, hb6⟩;replace hbs' := ButS.up hbs' hb6;replace hvx' := hvx'.up hb6;replace hx := hx.up hb6;replace p0 := keepc hb6 (cellD p0);replace p1 := keepc hb6 (cellD p1);replace c2 := keepc hb6 (cellD c2);replace c4 := keepc hb6 (cellD c4);obtain ⟨b0, hb0⟩ : ∃ b0, hasD x.1 (t.B : Int) = b0 := ⟨_, rfl⟩;rw [hb0];have HB0 := Lib.hid hb0;clear hb0 hb6;(go_wp2_with fail; clear hHeld; refine nxL hK ⟨p0, p1, c2, c4⟩ fun hHeld => tL ?_; clear hK);(refine kL 14 rfl ?_)
      refine dT ?_
      cases b0
      case true =>
       go_wp2_with fail;go_ret
       refine ⟨ret_of (congrArg Value.bool (rightB_not fun h => ?_).symm), Bl.up bl (ButS.bel HB.out hbs' hB4W)⟩;have hd := of_decide_eq_true HB0.out;obtain ⟨d, h1, h2, h3⟩ := hd;have := RightN.smAt (right_nat.1 h) hlT hPi d h2 (by omega);rw [HX.out] at this;exact this h3
      have hsm := Lib.hid (show t.P.length <= i -> ∀ d, 2 <= d -> d <= t.B -> ¬ d ∣ x.1 from fun _ d h2 h3 h4 => of_decide_eq_false HB0.out ⟨d, by omega, h2, h4⟩);clear HB0 hHeld c2 c4 i2;go_upto_region 14 with fail
     case' neg =>
      have i2 : ¬ (i : Int) >= (t.P.length : Int) := by omega
      go_upto_region 12 with fail;refine wp_region_T (by kernel_rfl) [] (S := fun w' => w'.cell? ⟨ba, offa + i * 3, none⟩ = some (.bool s1) /\ w'.cell? ⟨ba, offa + i * 3 + 1, none⟩ = some (.slice a1 n1 k1) /\ w'.cell? ⟨w.heap.size, 2, none⟩ = some (.slice aP t.P.length cP) /\ w'.cell? ⟨w.heap.size, 4, none⟩ = some (.int .i64 (t.B : Int))) ⟨p0, p1, c2, c4⟩ (fun hHeld => ?_);replace hx := hx.drew;replace hbs' := hbs'.dr;replace hvx' := hvx'.drew;replace p0 := cellD p0;replace p1 := cellD p1;(refine kL 0 rfl ?_; refine kL 1 rfl ?_; refine kL 2 rfl ?_; refine kL 3 rfl ?_; refine kL 4 rfl ?_; refine kL 5 rfl ?_)
      (refine uL 6 rfl ?_; refine uL 7 rfl ?_; refine uL 8 rfl ?_; refine uL 9 rfl ?_; refine uL 10 rfl ?_; refine uL 11 rfl ?_; refine uL 12 rfl ?_; refine uL 13 rfl ?_)
      (refine kL 14 rfl ?_)
      refine dT ?_;have hsm := Lib.hid (show t.P.length <= i -> ∀ d, 2 <= d -> d <= t.B -> ¬ d ∣ x.1 from fun h => absurd h hPi);clear hHeld c2 c4 i2;generalize wr.drew = w8 at *;go_upto_region 14 with fail
     all_goals
      obtain ⟨l1, l2, l3, l4, q0, q1, -, -, hxl⟩ := hvx'.cells;refine wp_region_T (by kernel_rfl) [12] (S := fun w' => w'.cell? ⟨B4, 0, none⟩ = some (.bool l1) /\ w'.cell? ⟨B4, 1, none⟩ = some (.slice l2 l3 l4) /\ w'.cell? ⟨ba, offa + i * 3, none⟩ = some (.bool s1) /\ w'.cell? ⟨ba, offa + i * 3 + 1, none⟩ = some (.slice a1 n1 k1)) ⟨q0, q1, p0, p1⟩ (fun hHeld => ?_);refine kL 0 rfl ?_;(refine pL 1 rfl ?_; refine pL 2 rfl ?_; refine pL 3 rfl ?_; refine pL 4 rfl ?_)
      refine kL 5 rfl ?_;clear hHeld
      (refine wpAnyT_all [(6, some 92), (7, some 85), (8, some 93), (9, some 94), (10, some 8), (11, some 7)] 1 (Fl (knU 6 (((mlt x.1 m : Nat) : Int)) (((cof x.1 m : Nat) : Int))) 10 w8) rfl (by kernel_rfl) (by decide) (by kernel_rfl) (by kernel_rfl) (by kernel_rfl) (fun bb xx wz h => (fun hb' => ⟨keepc hb' q0, keepc hb' q1, keepc hb' p0, keepc hb' p1⟩) h.bl) (fun xx => Fl.start _ _ _ _) ?_ ?_
       ·intro i hi;have hi' : i = 6 \/ i = 7 \/ i = 8 \/ i = 9 \/ i = 10 \/ i = 11 := by simpa using hi
        clear hi;rcases hi' with rfl | rfl | rfl | rfl | rfl | rfl
        ·refine ⟨_, rfl, fun bb xx wz hJ hbb hw K hK => ?_⟩;clear hbb hw;simp only [actA] at hK |-;go_simp;refine (rtimes2_any _ _ m x.1 wz (hxl.up hJ.bl) (hx.up hJ.bl) HFD.out.m1 h2x hszm hszx).mono ?_;rintro e w2 ⟨v, rfl, hv, hb⟩;exact hK.out _ _ (hJ.call (i := 6) (by decide) (Z := fun _ => False) (knu0 hv) (fun k hk => hk.elim) hb)
        ·refine ⟨_, rfl, fun bb xx wz hJ hbb hw K hK => ?_⟩
         have hp : ∃ u, xx 6 = .tuple #[.int .i64 (((mlt x.1 m : Nat) : Int)), u] /\ It wz u (((cof x.1 m : Nat) : Int)) := by
          obtain ⟨Z, hR, -, -⟩ := hJ.pr 6 (by decide) (hw 6 (by kernel_rfl));exact hR.1 (.inl rfl)
         have hh := Classical.choose_spec hp;generalize Classical.choose hp = u at hh;have hxu := hh.1;have hu := hh.2;clear hbb hw hp hh;simp only [actA, hxu] at hK |-;go_simp;exact hK.out _ _ (hJ.call (i := 7) (by decide) (Z := fun _ => False) (knu1 hu) (fun k hk => hk.elim) (Below.refl _ _))
        ·refine ⟨_, rfl, fun bb xx wz hJ hbb hw K hK => ?_⟩
         have hp : ∃ u, xx 7 = .tuple #[.int .i64 (((mlt x.1 m : Nat) : Int)), u] /\ It wz u (((cof x.1 m : Nat) : Int)) := by
          obtain ⟨Z, hR, -, -⟩ := hJ.pr 7 (by decide) (hw 7 (by kernel_rfl));exact hR.1 (.inr rfl)
         have hh := Classical.choose_spec hp;generalize Classical.choose hp = u at hh;have hxu := hh.1;have hu := hh.2;clear hbb hw hp hh;simp only [actA, hxu] at hK |-;go_simp;exact hK.out _ _ (hJ.call (i := 8) (by decide) (Z := fun _ => False) (knu2) (fun k hk => hk.elim) (Below.refl _ _))
        ·refine ⟨_, rfl, fun bb xx wz hJ hbb hw K hK => ?_⟩
         have hp : ∃ u, xx 7 = .tuple #[.int .i64 (((mlt x.1 m : Nat) : Int)), u] /\ It wz u (((cof x.1 m : Nat) : Int)) := by
          obtain ⟨Z, hR, -, -⟩ := hJ.pr 7 (by decide) (hw 7 (by kernel_rfl));exact hR.1 (.inr rfl)
         have hh := Classical.choose_spec hp;generalize Classical.choose hp = u at hh;have hxu := hh.1;have hu := hh.2;clear hbb hw hp hh;simp only [actA, hxu] at hK |-;go_simp;exact hK.out _ _ (hJ.call (i := 9) (by decide) (Z := fun _ => False) (knu3 hu) (fun k hk => hk.elim) (Below.refl _ _))
        ·refine ⟨_, rfl, fun bb xx wz hJ hbb hw K hK => ?_⟩;clear hbb hw;simp only [actA] at hK |-;go_simp;exact hK.out _ _ (hJ.var (W' := wz.alloc (.cells #[.bool false, .slice none 0 0] 29)) (Vx.new0 (w := wz) rfl) (below_new _ _))
        ·refine ⟨_, rfl, fun bb xx wz hJ hbb hw K hK => ?_⟩
         have hx5 : xx 8 = .int .i64 (((mlt x.1 m : Nat) : Int)) := by
          obtain ⟨Z, hR, -, -⟩ := hJ.pr 8 (by decide) (hw 8 (by kernel_rfl));exact hR.2.1 (.inl rfl)
         clear hbb hw;simp only [actA, hx5] at hK |-;go_simp;exact hK.out _ _ (hJ.call (i := 11) (by decide) (Z := fun _ => False) (knu5) (fun k hk => hk.elim) (Below.refl _ _))
       intro bb xx wz hbb hJ;obtain ⟨Z, hR, -, -⟩ := hJ.pr 9 (by decide) (hbb 9 (by decide));have hu := hR.2.2 rfl;obtain ⟨Z', hR', -, -⟩ := hJ.pr 11 (by decide) (hbb 11 (by decide));have h5 := hR'.2.1 (.inr rfl);obtain ⟨B13, hx13, hB13, hV13⟩ := hJ.pj (hbb 10 (by decide));have hbz := hJ.bl;clear hbb hJ hR hR';obtain ⟨u0, hu0⟩ : ∃ u0, u0 = xx 6 := ⟨_, rfl⟩;obtain ⟨u1, hu1⟩ : ∃ u1, u1 = xx 7 := ⟨_, rfl⟩;obtain ⟨u2, hu2⟩ : ∃ u2, u2 = xx 8 := ⟨_, rfl⟩;obtain ⟨s3, a3, n3, c3, hx6⟩ := hu.shape;rw [hx6] at hu;simp only [actM, hx13, hx6, h5, <- hu0, <- hu1, <- hu2];clear hx13 hx6 h5 hu0 hu1 hu2;obtain ⟨y1, y2, y3, y4, z0, z1, z2, z3, -⟩ := hV13.cells;(refine oL 12 rfl fun K hK => tL ?_; go_simp);(go_wp2_with fail; refine xL hK (tL ?_); clear hK);refine dT ?_;clear z0 z1 z2 z3)
      have hb9 := (ButS.set wz B13 0 (.bool s3)).trans (ButS.set _ B13 1 (.slice a3 n3 c3));have hSn : ∀ g, g = B13 -> NoW wz g := fun g e => by subst e; obtain ⟨_, _, _, _, _, _, h⟩ := hV13; exact h
      have hw8 := hbs'.size;have hne : B4 ≠ B13 := by omega
      have hvx9 := (hvx'.up hbz).fr hb9 hSn hne;have hbs9 := ButS.step (ButS.up hbs' hbz) hb9 (fun g e => .inr (by omega));have hV9 := Vx.put hV13.va hu;generalize (wz.setCell ⟨B13, 0, none⟩ (.bool s3)).setCell ⟨B13, 1, none⟩ (.slice a3 n3 c3) = w9 at *;clear hb9 hSn hV13 hu hbs' hvx' hx hxl q0 q1 p0 p1 hbz hw8;have hS := HS.out.fr hbs9 (fun g e => e ▸ HNo.out) HN5.out;obtain ⟨bc, offc, ec, hbc, hlc⟩ := hS.sr.at (i := i) (by rw [zP_len]; exact hlT);obtain ⟨s4, a4, n4, k4, p0, p1, p2, -⟩ := hlc.pow (i := i) (by rw [zP_len]; exact hlT);rw [zP_getD, HX.out] at p2;injection ec with ec;injection ec with ec1 ec2;subst ec1 ec2;obtain ⟨y1, y2, y3, y4, z0, z1, -, -, iz⟩ := hV9.cells;obtain ⟨l1, l2, l3, l4, q0, q1, q2, q3, -⟩ := hvx9.cells
      have hk0 : (((mlt x.1 m : Nat) : Int) != (x.2 : Int)) = !decide (mlt x.1 m = x.2) := by
       rw [Bool.eq_iff_iff, bne_iff_ne]; simp; omega
      obtain ⟨b0, hb0⟩ : ∃ b0, decide (mlt x.1 m = x.2) = b0 := ⟨_, rfl⟩;rw [hb0] at hk0;have HB0 := Lib.hid hb0;clear hb0 hlc hS p0 p1;generalize ((mlt x.1 m : Nat) : Int) = km at *;have HBS := Lib.hid hbs9;have HVX := Lib.hid hvx9;have HIZ := Lib.hid iz;clear hbs9 hvx9 iz hV9
      cases b0
      case false =>
       go_wp2_with fail;go_ret
       refine ⟨ret_of (congrArg Value.bool (rightB_not fun h => ?_).symm), Bl.up bl (ButS.bel HB.out HBS.out hB4W)⟩;have := of_decide_eq_false HB0.out;refine HFD.out.bad hlT ?_ (right_nat.1 h);rw [HX.out];exact this
      go_wp2_with fail;go_roundw
      case rel =>
       have hk := of_decide_eq_true HB0.out;have hst := HFD.out.step hlT (by rw [HX.out]; exact h2x) (fun k hk' => by rw [HX.out]; exact HCP.out k hk') (fun hP' => by rw [HX.out]; exact hsm.out hP') (by rw [HX.out]; exact hk);rw [HX.out] at hst;refine ⟨i + 1, _, by go_num, by omega, hst, ?_, Vx.put HVX.out.va HIZ.out⟩;refine HBS.out.trans ?_;exact (ButS.set w9 B4 0 _).trans (ButS.set _ B4 1 _)
      case measure => simp [intOf]; omega
  ·obtain rfl : i = N := by omega
   obtain ⟨l1, l2, l3, l4, q0, q1, -, -, hxl⟩ := hvx.cells;go_upto_region 18 with fail;refine wp_region_T (by kernel_rfl) [] (S := fun w' => w'.cell? ⟨B4, 0, none⟩ = some (.bool l1) /\ w'.cell? ⟨B4, 1, none⟩ = some (.slice l2 l3 l4)) ⟨q0, q1⟩ (fun hHeld => ?_);replace hxl := hxl.drew;replace hbs := hbs.dr;refine kL 0 rfl ?_;(refine oL 1 rfl fun K hK => tL ?_; go_simp);refine (rone_any _).mono ?_;rintro e w7 ⟨v1, rfl, hv1, hb6⟩;replace hbs := ButS.up hbs hb6;replace hxl := hxl.up hb6;replace q0 := keepc hb6 (cellD q0);replace q1 := keepc hb6 (cellD q1);clear hb6;(go_wp2_with fail; clear hHeld; refine nxL hK ⟨q0, q1⟩ fun hHeld => tL ?_; clear hK);(refine oL 2 rfl fun K hK => tL ?_; go_simp);refine (rcmp_any _ _ _ 1 w7 hxl hv1 (Nat.le_trans hszm (by decide)) (by decide)).mono ?_;rintro e w8 ⟨rfl, hb6⟩;replace hbs := ButS.up hbs hb6;replace q0 := keepc hb6 q0;replace q1 := keepc hb6 q1;have hcm : (cmpI (m : Int) 1 == 0) = decide (m = 1) := by rw [Bool.eq_iff_iff]; simp [cmpI_zero]; omega
   generalize cmpI (m : Int) 1 = cc at *;clear hb6 hxl hv1;(go_wp2_with fail; clear hHeld; refine nxL hK ⟨q0, q1⟩ fun hHeld => tL ?_; clear hK);(refine kL 3 rfl ?_; refine kL 4 rfl ?_)
   refine dT ?_;go_wp2_with fail;go_ret
   refine ⟨ret_of (congrArg Value.bool ?_), Bl.up bl (ButS.bel HB.out hbs hB4W)⟩;have hfd := HFD.out;rw [<- HN.out] at hfd;have := Found.all HT.out hfd;rw [Bool.eq_iff_iff, rightB_iff, right_nat, this];simp
end Go.Proofs.YtblebpmlkpobnaaGreatDoor
