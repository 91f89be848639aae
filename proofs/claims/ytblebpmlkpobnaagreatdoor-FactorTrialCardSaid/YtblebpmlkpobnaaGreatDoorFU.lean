/-
  factor.Right.
-/
import Derived.Test.YtblebpmlkpobnaaGreatDoorFS
import Derived.Test.YtblebpmlkpobnaaGreatDoorFT
import Derived.Test.YtblebpmlkpobnaaGreatDoorFR
set_option linter.unusedSimpArgs false
set_option linter.unusedVariables false
set_option maxRecDepth 100000
set_option maxHeartbeats 8000000
namespace Go.Proofs.YtblebpmlkpobnaaGreatDoor
open Go.RowKit
attribute [local go_sem ↓] Go.wp_at_zero Go.wp_at_succ
theorem Sc.i64 {w : World} {b off : Nat} {l : List Nat} (h : Sc eint w b off (zI l)) {i : Nat} (hi : i < l.length) : w.cell? ⟨b, off + i, none⟩ = some (.int .i64 ((l.getD i 0 : Nat) : Int)) := by
 obtain ⟨dcs, hdc, hdl⟩ := h i (by rw [zI_len]; exact hi)
 have hdz : (zI l)[i]'(by rw [zI_len]; exact hi) = ((l.getD i 0 : Nat) : Int) := by
  unfold zI;rw [List.getElem_map, List.getD_eq_getElem?_getD, List.getElem?_eq_getElem hi, Option.getD_some]
 rw [hdz] at hdc;have hde : dcs = [.int .i64 ((l.getD i 0 : Nat) : Int)] := hdc;have := hdl 0 (.int .i64 ((l.getD i 0 : Nat) : Int)) (by rw [hde]; rfl);have hk1 : (eint : Elt Int).k = 1 := rfl;rwa [hk1, Nat.mul_one, Nat.add_zero] at this
theorem mem_prL {q p : Nat} : q ∈ prL p ↔ Pri q /\ q < p := by
 unfold prL;rw [List.mem_filter, prB_iff, List.mem_range'_1];constructor
 ·rintro ⟨⟨h1, h2⟩, h3⟩; exact ⟨h3, by omega⟩
 ·rintro ⟨h1, h2⟩; have := h1.1; exact ⟨⟨this, by omega⟩, h1⟩
theorem prL_len (p : Nat) : (prL p).length <= p := by
 unfold prL;refine Nat.le_trans (List.length_filter_le _ _) ?_;rw [List.length_range']; omega
def at0 (t : Fn) : Fn := ⟨t.N, t.P, t.R, 0⟩
theorem RightN.at0 {t : Fn} (h : RightN t) : RightN (at0 t) := ⟨h.n1, Nat.zero_le _, h.incP, h.incR, h.cop, h.tk, fun _ _ d h2 h3 => by have : d <= 0 := h3; omega⟩
theorem Front.at0 {f : Fz} {t : Fn} (h : Front f t) : Front (zF (at0 t)) (at0 t) := ⟨rfl, h.n1, Nat.zero_le _, h.iP, h.iR⟩
theorem right_sm {t : Fn} (h0 : RightN (at0 t)) (hb : t.B <= 65536) (hs : ∀ j, j < t.R.length -> ∀ q ∈ prL (t.B + 1), ¬ q ∣ (t.R.getD j (0, 0)).1) : RightN t := by
 refine ⟨h0.n1, hb, h0.incP, h0.incR, h0.cop, h0.tk, fun r hr d h2 h3 hd => ?_⟩;obtain ⟨j, hj, rfl⟩ := List.getElem_of_mem hr;obtain ⟨q, hq, hqd⟩ := least_div h2;have hle := Nat.le_of_dvd (by omega) hqd;have := hs j hj q (mem_prL.2 ⟨hq, by omega⟩);rw [List.getD_eq_getElem?_getD, List.getElem?_eq_getElem hj, Option.getD_some] at this;exact this (Nat.dvd_trans hqd hd)
theorem right_bad {t : Fn} (h : RightN t) {j : Nat} (hj : j < t.R.length) {q : Nat} (hq : q ∈ prL (t.B + 1)) : ¬ q ∣ (t.R.getD j (0, 0)).1 := by
 obtain ⟨h1, h2⟩ := mem_prL.1 hq;refine h.sm _ ?_ q h1.1 (by omega);rw [List.getD_eq_getElem?_getD, List.getElem?_eq_getElem hj, Option.getD_some];exact List.getElem_mem _
def knR (ls : List (List (Int × Int))) (L : List (Int × Int)) : Kn where
 R := fun i v Z w => (i = 4 -> Ss eP w v ls) /\ (i = 5 -> So eP w 0 v L /\ ∀ g, v.ownBlock = some g -> Z g)
 V := fun w B => Vx w B 0
 up := fun h hb => ⟨fun e => (h.1 e).up hb, fun e => ⟨(h.2 e).1.up hb, (h.2 e).2⟩⟩
 vup := fun h hb => h.up hb
 vlt := fun h => h.lt
def knD (d c : Int) (ok : Bool) : Kn where
 R := fun i v _ w => (i = 3 -> It w v d) /\ ((i = 4 \/ i = 5) -> ∃ u, v = .tuple #[u, .bool ok] /\ It w u c) /\ (i = 6 -> It w v c) /\ (i = 7 -> v = .bool ok)
 V := fun w B => Va w B
 up := fun h hb => ⟨fun e => (h.1 e).up hb, fun e => by obtain ⟨u, h1, h2⟩ := h.2.1 e; exact ⟨u, h1, h2.up hb⟩, fun e => (h.2.2.1 e).up hb, h.2.2.2⟩
 vup := fun h hb => by obtain ⟨z, h⟩ := h; exact ⟨z, h.up hb⟩
 vlt := fun h => by obtain ⟨z, h⟩ := h; exact h.lt
theorem knD.fr {d c : Int} {ok : Bool} {w w' : World} {S : Nat -> Prop} (hb : ButS S w w') (hS : ∀ g, S g -> NoW w g) {i : Nat} {v : Value} {Z : Nat -> Prop} (h : (knD d c ok).R i v Z w) : (knD d c ok).R i v Z w' :=
 ⟨fun e => (h.1 e).fr hb hS, fun e => by obtain ⟨u, h1, h2⟩ := h.2.1 e; exact ⟨u, h1, h2.fr hb hS⟩, fun e => (h.2.2.1 e).fr hb hS, h.2.2.2⟩
theorem Va.cells4 {w : World} {B : Nat} (h : Va w B) : ∃ y : Bool × Option Addr × Nat × Nat, w.cell? ⟨B, 0, none⟩ = some (.bool y.1) /\ w.cell? ⟨B, 1, none⟩ = some (.slice y.2.1 y.2.2.1 y.2.2.2) /\ w.frozen? ⟨B, 0, none⟩ = false /\ w.frozen? ⟨B, 1, none⟩ = false := by
 obtain ⟨z, h⟩ := h;obtain ⟨s, a, n, c, h1, h2, h3, h4, -⟩ := h.cells;exact ⟨(s, a, n, c), h1, h2, h3, h4⟩
theorem It.shape' {w : World} {v : Value} {z : Int} (h : It w v z) : ∃ y : Bool × Option Addr × Nat × Nat, v = .agg #[.bool y.1, .slice y.2.1 y.2.2.1 y.2.2.2] /\ It w (.agg #[.bool y.1, .slice y.2.1 y.2.2.1 y.2.2.2]) z := by
 obtain ⟨s, a, n, c, rfl⟩ := h.shape;exact ⟨(s, a, n, c), rfl, h⟩
theorem right_any (va : Value) (f : Fz) (w : World) (h : Fx w va f) (hz : szF f) (hP : f.P.length <= 549755813888) (hR : f.R.length <= 549755813888) :
  Calls Tryz.prog 8 #[va] w fun e w' => e = .returned (.bool (rightB f)) /\ Below w.heap.size w w' := by
 obtain ⟨W, s, a, n, c, aP, cP, aR, cR, rfl, hW, bl, hs, hF⟩ := boxF w h;clear h;have hzN := hz.1;go_enter Tryz.func8, Tryz.ntmps8
 go_upto_region 1 with fail;rw [<- hW];clear hW;obtain ⟨p0, p1, p2, p3, p4⟩ := hF.cells;go_wp2_with fail;refine (valid_any _ f.N W hF.hN (Nat.le_trans hzN (by decide))).mono ?_;rintro e w1 ⟨rfl, hb1⟩;have hF1 := hF.up hb1;replace p0 := keepc hb1 p0;replace p1 := keepc hb1 p1;replace p2 := keepc hb1 p2;replace p3 := keepc hb1 p3;replace p4 := keepc hb1 p4;have HF1 := Lib.hid hF1;have HF := Lib.hid hF;clear hF1 hF;go_wp2_with fail;refine (sign_any _ f.N w1 HF1.out.hN).mono ?_;rintro e w2 ⟨rfl, hb2⟩;have hbW := Bl.up hb1 hb2;replace p0 := keepc hb2 p0;replace p1 := keepc hb2 p1;replace p2 := keepc hb2 p2;replace p3 := keepc hb2 p3;replace p4 := keepc hb2 p4;clear hb1 hb2 HF1;by_cases c1 : f.N < 1
 case pos =>
  have d1 : cmpI f.N 0 < 1 := by unfold cmpI; split <;> (try split) <;> omega
  generalize cmpI f.N 0 = cc at *;go_wp2_with fail;go_ret
  exact ⟨ret_of (congrArg Value.bool (rightB_not (fun h => by have := h.front.1; omega)).symm), Bl.up bl hbW⟩
 have d1 : ¬ cmpI f.N 0 < 1 := by unfold cmpI; split <;> (try split) <;> omega
 generalize cmpI f.N 0 = cc at *;by_cases c2 : f.B < 0
 case pos =>
  go_wp2_with fail;go_ret
  exact ⟨ret_of (congrArg Value.bool (rightB_not (fun h => by have := h.front.2.1; omega)).symm), Bl.up bl hbW⟩
 by_cases c3 : f.B > 65536
 case pos =>
  go_wp2_with fail;go_ret
  exact ⟨ret_of (congrArg Value.bool (rightB_not (fun h => by have := h.front.2.2.1; omega)).symm), Bl.up bl hbW⟩
 go_wp2_with fail;refine (increasing_any _ f.P w2 (HF.out.hP.up hbW) hz.2.1).mono ?_;rintro e w3 ⟨rfl, hb2⟩;replace hbW := Bl.up hbW hb2;replace p0 := keepc hb2 p0;replace p1 := keepc hb2 p1;replace p2 := keepc hb2 p2;replace p3 := keepc hb2 p3;replace p4 := keepc hb2 p4;clear hb2;have c4 : ordB f.P = true \/ ordB f.P = false := by cases ordB f.P <;> simp
 rcases c4 with c4 | c4
 case inr =>
  rw [c4];have C4 := Lib.hid c4;clear c4;go_wp2_with fail;go_ret
  exact ⟨ret_of (congrArg Value.bool (rightB_not (fun h => by have := h.front.2.2.2.1; rw [C4.out] at this; cases this)).symm), Bl.up bl hbW⟩
 rw [c4];have C4 := Lib.hid c4;clear c4;go_wp2_with fail;refine (increasing_any _ f.R w3 (HF.out.hR.up hbW) hz.2.2).mono ?_;rintro e w4 ⟨rfl, hb2⟩;replace hbW := Bl.up hbW hb2;replace p0 := keepc hb2 p0;replace p1 := keepc hb2 p1;replace p2 := keepc hb2 p2;replace p3 := keepc hb2 p3;replace p4 := keepc hb2 p4;clear hb2;have c5 : ordB f.R = true \/ ordB f.R = false := by cases ordB f.R <;> simp
 rcases c5 with c5 | c5
 case inr =>
  rw [c5];have C5 := Lib.hid c5;clear c5;go_wp2_with fail;go_ret
  exact ⟨ret_of (congrArg Value.bool (rightB_not (fun h => by have := h.front.2.2.2.2; rw [C5.out] at this; cases this)).symm), Bl.up bl hbW⟩
 rw [c5];have hT := front_of (f := f) (by omega) (by omega) (by omega) C4.out c5;have HT := Lib.hid (Classical.choose_spec hT);generalize Classical.choose hT = t at HT;clear c5 hT C4;go_upto_region 3 with fail;refine wp_region_T (by kernel_rfl) [10] (S := fun w' => w'.cell? ⟨w.heap.size, 0, none⟩ = some (.bool s) /\ w'.cell? ⟨w.heap.size, 1, none⟩ = some (.slice a n c) /\ w'.cell? ⟨w.heap.size, 2, none⟩ = some (.slice aP f.P.length cP) /\ w'.cell? ⟨w.heap.size, 3, none⟩ = some (.slice aR f.R.length cR)) ⟨p0, p1, p2, p3⟩ (fun hHeld => ?_);have hF4 := HF.out.up hbW;have HF4 := Lib.hid hF4;clear hF4;(refine pL 0 rfl ?_)
 refine kL 1 rfl ?_;(refine pL 2 rfl ?_)
 refine kL 3 rfl ?_;(refine pL 6 rfl ?_)
 refine kL 7 rfl ?_;clear hHeld
 refine wpAnyT_all [(4, some 55), (5, some 56), (8, some 4)] 2 (Fl (knR [f.P, f.R] (f.P ++ f.R)) 8 w4) rfl (by kernel_rfl) (by decide) (by kernel_rfl) (by kernel_rfl) (by kernel_rfl)
  (fun bb xx wz h => ⟨keepc h.bl p0, keepc h.bl p1, keepc h.bl p2, keepc h.bl p3⟩) (fun xx => Fl.start _ _ _ _) ?_ ?_
 ·intro i hi;have hi' : i = 4 \/ i = 5 \/ i = 8 := by simpa using hi
  clear hi;rcases hi' with rfl | rfl | rfl
  ·refine ⟨_, rfl, fun bb xx wz hJ hbb hw K hK => ?_⟩;clear hbb hw;simp only [actA] at hK |-;go_simp;have hfz := HF4.out.up hJ.bl;exact hK.out _ _ (hJ.call (i := 4) (by decide) (Z := fun _ => False) ⟨fun _ => Ss.lit2 30 aP aR f.P.length f.R.length cP cR f.P f.R rfl rfl hfz.hP hfz.hR, fun e => absurd e (by decide)⟩ (fun k hk => hk.elim) (below_new _ _))
  ·refine ⟨_, rfl, fun bb xx wz hJ hbb hw K hK => ?_⟩;obtain ⟨Z, hRR, -, -⟩ := hJ.pr 4 (by decide) (hw 4 (by kernel_rfl));have hss := hRR.1 rfl;clear hbb hw hRR;simp only [actA] at hK |-;go_simp;refine (concatP_any _ [f.P, f.R] wz hss (by simp; omega) (by simp)).mono ?_;rintro e w2 ⟨v, rfl, hv, hb⟩;rw [show [f.P, f.R].flatten = f.P ++ f.R by simp] at hv;exact hK.out _ _ (hJ.call (i := 5) (by decide) (Z := fun k => v.ownBlock = some k) ⟨fun e => absurd e (by decide), fun _ => ⟨hv.base (Nat.zero_le _), fun _ h => h⟩⟩ (fun k hk => hv.lt k hk) hb)
  ·refine ⟨_, rfl, fun bb xx wz hJ hbb hw K hK => ?_⟩;clear hbb hw;simp only [actA] at hK |-;go_simp;exact hK.out _ _ (hJ.var (W' := wz.alloc (.cells #[.bool false, .slice none 0 0] 29)) (Vx.new0 (w := wz) rfl) (below_new _ _))
 intro bb xx wz hbb hJ;obtain ⟨Z, hRR, hZ, hZn⟩ := hJ.pr 5 (by decide) (hbb 5 (by decide));obtain ⟨hSo, hSZ⟩ := hRR.2 rfl;obtain ⟨B4, hx4, hB4, hV4⟩ := hJ.pj (hbb 8 (by decide));replace hZn := hZn (hbb 8 (by decide)) B4 hx4;have hbz := hJ.bl;clear hbb hJ hRR;obtain ⟨aL, cL, hxL, hcL⟩ := hSo.slice;obtain ⟨N, hN⟩ : ∃ N, (f.P ++ f.R).length = N := ⟨_, rfl⟩;rw [hxL] at hSo hSZ;rw [hN] at hSo hSZ hcL hxL;have HN0 := Lib.hid hN;clear hN;obtain ⟨u4, hu4⟩ : ∃ u4, u4 = xx 4 := ⟨_, rfl⟩;simp only [actM, hx4, hxL, <- hu4];clear hx4 hxL hu4;obtain ⟨y1, y2, y3, y4, z0, z1, z2, z3, -⟩ := hV4.cells;have hHeld : (fun w' : World => w'.cell? ⟨w.heap.size, 0, none⟩ = some (.bool s) /\ w'.cell? ⟨w.heap.size, 1, none⟩ = some (.slice a n c) /\ w'.cell? ⟨w.heap.size, 2, none⟩ = some (.slice aP f.P.length cP) /\ w'.cell? ⟨w.heap.size, 3, none⟩ = some (.slice aR f.R.length cR)) wz := ⟨keepc hbz p0, keepc hbz p1, keepc hbz p2, keepc hbz p3⟩;refine pL 9 rfl ?_;(refine oL 10 rfl fun K hK => tL ?_; go_simp);(go_wp2_with fail; refine xL hK (tL ?_); clear hK);refine dT ?_;clear z0 z1 z2 z3 hHeld p0 p1 p2 p3;have hb5 := (ButS.set wz B4 0 (.bool s)).trans (ButS.set _ B4 1 (.slice a n c));have hSn : ∀ g, g = B4 -> NoW wz g := fun g e => by subst e; obtain ⟨_, _, _, _, _, _, h⟩ := hV4; exact h
 have hV5 := Vx.put hV4.va (HF4.out.hN.up hbz);have hSo5 := hSo.fr hb5 hSn (fun g hg e => hZn (e ▸ hSZ g hg));have hn5 : ∀ g, (Value.slice aL N cL).ownBlock = some g -> g ≠ B4 := fun g hg e => hZn (e ▸ hSZ g hg);have hbW5 : Below W.heap.size W ((wz.setCell ⟨B4, 0, none⟩ (.bool s)).setCell ⟨B4, 1, none⟩ (.slice a n c)) := ButS.below (Bl.up hbW hbz) hb5 (Bl.up hbW hbz).size (fun g e => by have := hbW.size; omega);have hB4W : W.heap.size <= B4 := Nat.le_trans hbW.size hB4;generalize (wz.setCell ⟨B4, 0, none⟩ (.bool s)).setCell ⟨B4, 1, none⟩ (.slice a n c) = w5 at *;clear hb5 hSn hV4 hSo hSZ hZn hZ hbz HF4 hB4 hbW c1 c2 c3 d1;have HT2 := HT.out;have he := HT2.e;subst he;have HT := Lib.hid HT2;clear HT2;have hN : (t.P ++ t.R).length = N := by rw [<- HN0.out]; simp [zF, zP_len]
 have eL : (zF t).P ++ (zF t).R = zP (t.P ++ t.R) := (zP_append _ _).symm;rw [eL] at hSo5;have hPl : (zF t).P.length = t.P.length := zP_len _;rw [hPl];clear eL HN0 hPl
 have hzT : ∀ i, i < (t.P ++ t.R).length -> sz (((t.P ++ t.R).getD i (0, 0)).1 : Int) <= 1099511627776 := fun i hi => by
  rcases List.mem_append.1 (key_mem hi) with hm | hm
  ·exact hz.2.1.2 _ (List.mem_map.2 ⟨_, hm, rfl⟩)
  ·exact hz.2.2.2 _ (List.mem_map.2 ⟨_, hm, rfl⟩)
 have hNT : (t.P ++ t.R).length <= 1099511627776 := by
  have h1 : (zP t.P).length <= 549755813888 := hP;have h2 : (zP t.R).length <= 549755813888 := hR;rw [zP_len] at h1 h2;rw [List.length_append]; omega
 have HZ := Lib.hid hzT;have HB := Lib.hid hbW5;have HS := Lib.hid hSo5;have hNo : NoW w5 B4 := by obtain ⟨_, _, _, _, _, _, h⟩ := hV5; exact h
 have HNo := Lib.hid hNo;have HN5 := Lib.hid hn5;have hlt4 := hV5.lt;rw [hN] at hNT;have HN := Lib.hid hN;have hbl5 := Bl.up bl hbW5;have HBL := Lib.hid hbl5;clear hn5 hzT hbW5 hSo5 hNo hN hbl5 hz hP hR;have hFoundB : Found (at0 t) N 1 -> Found (at0 t) (t.P ++ t.R).length 1 := fun h => by rw [HN.out]; exact h
 have HFB := Lib.hid hFoundB;clear hFoundB;go_wp2_with fail
 go_loopw [5, 9, 61] (fun s5 s9 s61 wr => ∃ i m : Nat, s61 = .int .i64 i /\ i <= N /\ Found (at0 t) i m /\ ButS (fun g => g = B4) w5 wr /\ Vx wr B4 m)
  (fun _ _ s61 _ => N - (intOf s61).toNat)
 case atStart => exact ⟨0, t.N, rfl, Nat.zero_le _, Found.zero (t := at0 t) HT.out.n1, ButS.refl _ _, hV5⟩
 case round =>
  obtain ⟨i, m, rfl, hi, hfd, hbs, hvx⟩ := hrel;clear hV5;have HFD := Lib.hid hfd;have hmN : m <= t.N := hfd.mN;have hszm : sz (m : Int) <= 1099511627776 := Nat.le_trans (sz_mono (by show (m : Int).natAbs <= ((t.N : Int)).natAbs; omega)) hzN;clear hfd;by_cases hlt : i < N
  ·have hlT : i < (t.P ++ t.R).length := by rw [HN.out]; exact hlt
   have h2x := HT.out.big hlT;have hszx := HZ.out i hlT;obtain ⟨ba, offa, rfl, hba, hla⟩ := (HS.out.fr hbs (fun g e => e ▸ HNo.out) HN5.out).sr.at (i := i) (by rw [zP_len]; exact hlT);obtain ⟨s1, a1, n1, k1, p0, p1, p2, hx⟩ := hla.pow (i := i) (by rw [zP_len]; exact hlT);rw [zP_getD] at p2 hx;obtain ⟨x, hx0⟩ : ∃ x, (t.P ++ t.R).getD i (0, 0) = x := ⟨_, rfl⟩;rw [hx0] at h2x hszx p2 hx;have HX := Lib.hid hx0;clear hx0 hla hba;have i0 : (0 : Int) <= (i : Int) := by omega
   have i1 : (i : Int) < (N : Int) := by omega
   have i2 : i <= cL := by omega
   have i3 : (i : Int) <= (cL : Int) := by omega
   go_upto_region 7 with fail;have hD := heap_alloc_new wr (.cells #[.bool s1, .slice a1 n1 k1, .int .i64 (x.2 : Int)] 41);have hx6 := hx.alloc (.cells #[.bool s1, .slice a1 n1 k1, .int .i64 (x.2 : Int)] 41);have hbs6 := hbs.al (.cells #[.bool s1, .slice a1 n1 k1, .int .i64 (x.2 : Int)] 41);have hvx6 := hvx.alloc (.cells #[.bool s1, .slice a1 n1 k1, .int .i64 (x.2 : Int)] 41);have hB6 : w5.heap.size <= wr.heap.size := hbs.size;clear p0 p1 p2 hx hbs hvx;generalize wr.heap.size = B6 at *;generalize wr.alloc (.cells #[.bool s1, .slice a1 n1 k1, .int .i64 (x.2 : Int)] 41) = wa at *;have HD6 := Lib.hid hD;have HX6 := Lib.hid hx6;have HBS6 := Lib.hid hbs6;have HVX6 := Lib.hid hvx6;clear hD hx6 hbs6 hvx6;go_wp2_with fail
   go_loopw [70] (fun s70 wq => ∃ j : Nat, s70 = .int .i64 j /\ j <= i /\ (∀ k, k < j -> Nat.Coprime x.1 ((t.P ++ t.R).getD k (0, 0)).1) /\ Below wa.heap.size wa wq)
    (fun s70 _ => i - (intOf s70).toNat)
   case atStart => exact ⟨0, rfl, Nat.zero_le _, fun k hk => absurd hk (Nat.not_lt_zero _), Below.refl _ _⟩
   case round =>
    obtain ⟨j, rfl, hj, hcp, hbq⟩ := hrel;have HCP := Lib.hid hcp;clear hcp;have hbs' := HBS6.out.up hbq;have hx := HX6.out.up hbq;have hD := (hbq.block B6 (Array.getElem?_eq_some_iff.1 HD6.out).1).trans HD6.out;have p0 : wr.cell? ⟨B6, 0, none⟩ = some (.bool s1) := by simp [World.cell?, hD]
    have p1 : wr.cell? ⟨B6, 1, none⟩ = some (.slice a1 n1 k1) := by simp [World.cell?, hD]
    have p2 : wr.cell? ⟨B6, 2, none⟩ = some (.int .i64 (x.2 : Int)) := by simp [World.cell?, hD]
    clear hD;by_cases hji : j < i
    ·have hlj : j < (t.P ++ t.R).length := by omega
     have hszy := HZ.out j hlj;have hS := HS.out.fr hbs' (fun g e => e ▸ HNo.out) HN5.out;obtain ⟨bc, offc, ec, hbc, hlc⟩ := hS.sr.at (i := j) (by rw [zP_len]; exact hlj);injection ec with ec;injection ec with ec1 ec2;subst ec1 ec2;obtain ⟨s2, a2, n2, k2, q0, q1, q2, hy⟩ := hlc.pow (i := j) (by rw [zP_len]; exact hlj);rw [zP_getD] at q2 hy;obtain ⟨y, hy0⟩ : ∃ y, (t.P ++ t.R).getD j (0, 0) = y := ⟨_, rfl⟩;rw [hy0] at q2 hy hszy;have HY := Lib.hid hy0;clear hy0 hlc hS p2 hbc hbs';have i4 : (0 : Int) <= (j : Int) := by omega
     have i5 : (j : Int) < (i : Int) := by omega
     have hltB6 := cell_lt p0;go_upto_region 10 with fail;have hD8 := heap_alloc_new wr (.cells #[.bool s2, .slice a2 n2 k2, .int .i64 (y.2 : Int)] 41);have hx8 := hx.alloc (.cells #[.bool s2, .slice a2 n2 k2, .int .i64 (y.2 : Int)] 41);have hy8 := hy.alloc (.cells #[.bool s2, .slice a2 n2 k2, .int .i64 (y.2 : Int)] 41);have hb8 := Bl.alloc hbq (.cells #[.bool s2, .slice a2 n2 k2, .int .i64 (y.2 : Int)] 41);replace p0 := cellN p0 (.cells #[.bool s2, .slice a2 n2 k2, .int .i64 (y.2 : Int)] 41);replace p1 := cellN p1 (.cells #[.bool s2, .slice a2 n2 k2, .int .i64 (y.2 : Int)] 41);clear q0 q1 q2 hx hy hbq;generalize wr.heap.size = B8 at *;generalize wr.alloc (.cells #[.bool s2, .slice a2 n2 k2, .int .i64 (y.2 : Int)] 41) = wb at *;have q0 : wb.cell? ⟨B8, 0, none⟩ = some (.bool s2) := by simp [World.cell?, hD8]
     have q1 : wb.cell? ⟨B8, 1, none⟩ = some (.slice a2 n2 k2) := by simp [World.cell?, hD8]
     clear hD8;go_wp2_with fail;refine (gcd_any _ _ (x.1 : Int) (y.1 : Int) _ hx8 hy8 hszx hszy).mono ?_;rintro e w6 ⟨v, rfl, hv, hb6⟩;obtain ⟨s5, a5, n5, k5, rfl⟩ := hv.shape;replace hb8 := Bl.up hb8 hb6;have hgd : Int.gcd (x.1 : Int) (y.1 : Int) = Nat.gcd x.1 y.1 := rfl;rw [hgd] at hv
     have hszg : sz ((Nat.gcd x.1 y.1 : Nat) : Int) <= 1099511627776 := Nat.le_trans (sz_mono (by
      have : Nat.gcd x.1 y.1 <= x.1 := Nat.le_of_dvd (by omega) (Nat.gcd_dvd_left _ _);show Nat.gcd x.1 y.1 <= x.1
      exact this)) hszx
     clear hb6 p0 p1 q0 q1 hx8 hy8 hgd;go_wp2_with fail;refine (isone_any _ ((Nat.gcd x.1 y.1 : Nat) : Int) w6 hv hszg).mono ?_;rintro e w7 ⟨rfl, hb7⟩;replace hb8 := Bl.up hb8 hb7;obtain ⟨b0, hb0⟩ : ∃ b0, decide (((Nat.gcd x.1 y.1 : Nat) : Int) = 1) = b0 := ⟨_, rfl⟩;rw [hb0];have HB0 := Lib.hid hb0;have HB8 := Lib.hid hb8;clear hb0 hb8 hb7 hv hszg
     cases b0
     case true =>
      have hco := Lib.hid (show Nat.Coprime x.1 y.1 from by have := of_decide_eq_true HB0.out; show Nat.gcd x.1 y.1 = 1; omega);go_wp2_with fail;go_roundw
      case rel =>
       refine ⟨j + 1, by go_num, by omega, fun k hk => ?_, HB8.out⟩;by_cases e : k = j
       ·subst e; rw [HY.out]; exact hco.out
       ·exact HCP.out k (by omega)
      case measure => simp [intOf]; omega
     case false =>
      have hco := Lib.hid (show ¬ Nat.Coprime x.1 y.1 from fun h => by have := of_decide_eq_false HB0.out; have h : Nat.gcd x.1 y.1 = 1 := h; omega);go_wp2_with fail;go_ret
      refine ⟨ret_of (congrArg Value.bool (rightB_not fun h => ?_).symm), Bl.up bl (ButS.bel HB.out (HBS6.out.up HB8.out) hB4W)⟩;have := RightN.copAt (right_nat.1 h) hlT hji;rw [HX.out, HY.out] at this;exact hco.out this
    ·have hji2 : j = i := by omega
     subst j;have hvx := HVX6.out.up hbq;obtain ⟨l1, l2, l3, l4, q0, q1, -, -, hxl⟩ := hvx.cells;have HBS := Lib.hid hbs';have HVX := Lib.hid hvx;have hlt4' := hvx.lt;have hltB6 := cell_lt p0;have h46 : B4 ≠ B6 := by omega
     clear hbs' hvx hji hbq HBS6 HVX6 HX6 HD6;go_wp2_with fail;refine (ftake_any _ _ m x.1 wr hxl hx HFD.out.m1 h2x hszm hszx).mono ?_;rintro e w8 ⟨v, rfl, hv, hb8⟩;obtain ⟨s6, a6, n6, k6, rfl⟩ := hv.shape;have hbs8 := HBS.out.up hb8;have hvx8 := HVX.out.up hb8;replace p2 := keepc hb8 p2;clear hb8 p0 p1 q0 q1 hxl hx HBS HVX;go_upto_region 14 with fail;have hvx9 := hvx8.alloc (.cells #[.bool s6, .slice a6 n6 k6] 29);have hbs9 := hbs8.al (.cells #[.bool s6, .slice a6 n6 k6] 29);have hV10 := Vx.new (w := w8) (T := 29) rfl hv;have hlt8 := hvx8.lt;replace p2 := cellN p2 (.cells #[.bool s6, .slice a6 n6 k6] 29);clear hvx8 hbs8 hv;generalize w8.heap.size = B10 at *;generalize w8.alloc (.cells #[.bool s6, .slice a6 n6 k6] 29) = w9 at *;obtain ⟨y1, y2, y3, y4, z0, z1, -, -, iz⟩ := hV10.cells;obtain ⟨l1, l2, l3, l4, q0, q1, q2, q3, -⟩ := hvx9.cells
     have hk0 : (((mlt x.1 m : Nat) : Int) != (x.2 : Int)) = !decide (mlt x.1 m = x.2) := by
      rw [Bool.eq_iff_iff, bne_iff_ne]; simp; omega
     obtain ⟨b0, hb0⟩ : ∃ b0, decide (mlt x.1 m = x.2) = b0 := ⟨_, rfl⟩;rw [hb0] at hk0;have HB0 := Lib.hid hb0;clear hb0;generalize ((mlt x.1 m : Nat) : Int) = km at *;have HBS := Lib.hid hbs9;have HVX := Lib.hid hvx9;have HIZ := Lib.hid iz;clear hbs9 hvx9 iz hV10
     cases b0
     case false =>
      go_wp2_with fail;go_ret
      refine ⟨ret_of (congrArg Value.bool (rightB_not fun h => ?_).symm), Bl.up bl (ButS.bel HB.out HBS.out hB4W)⟩;have := of_decide_eq_false HB0.out;refine HFD.out.bad (t := at0 t) hlT ?_ (right_nat.1 h).at0;show mlt ((t.P ++ t.R).getD i (0, 0)).1 m ≠ ((t.P ++ t.R).getD i (0, 0)).2
      rw [HX.out];exact this
     go_wp2_with fail;go_roundw
     case rel =>
      have hk := of_decide_eq_true HB0.out;have hst := Found.step (t := at0 t) HFD.out hlT (by show 2 <= ((t.P ++ t.R).getD i (0, 0)).1; rw [HX.out]; exact h2x) (fun k hk' => by show Nat.Coprime ((t.P ++ t.R).getD i (0, 0)).1 ((t.P ++ t.R).getD k (0, 0)).1; rw [HX.out]; exact HCP.out k hk') (fun _ d h2 h3 => by have : d <= 0 := h3; omega) (by show mlt ((t.P ++ t.R).getD i (0, 0)).1 m = ((t.P ++ t.R).getD i (0, 0)).2; rw [HX.out]; exact hk);have e0 : (((at0 t).P ++ (at0 t).R).getD i (0, 0)) = x := HX.out;rw [e0] at hst;refine ⟨i + 1, _, by go_num, by omega, hst, ?_, Vx.put HVX.out.va HIZ.out⟩;refine HBS.out.trans ?_;exact (ButS.set w9 B4 0 _).trans (ButS.set _ B4 1 _)
     case measure => simp [intOf]; omega
  ·obtain rfl : i = N := by omega
   obtain ⟨l1, l2, l3, l4, q0, q1, -, -, hxl⟩ := hvx.cells;have HBS := Lib.hid hbs;clear hbs hvx;go_wp2_with fail;refine (isone_any _ (m : Int) wr hxl hszm).mono ?_;rintro e w6 ⟨rfl, hb6⟩;have hbW6 := ButS.bel HB.out (HBS.out.up hb6) hB4W;have HW6 := Lib.hid hbW6;obtain ⟨b0, hb0⟩ : ∃ b0, decide ((m : Int) = 1) = b0 := ⟨_, rfl⟩;rw [hb0];have HB0 := Lib.hid hb0;have hall := Lib.hid (Found.all (t := at0 t) HT.out.at0 (show Found (at0 t) (t.P ++ t.R).length m by rw [HN.out]; exact HFD.out));clear hb0 hb6 hbW6 HBS q0 q1 hxl
   cases b0
   case false =>
    go_wp2_with fail;go_ret
    refine ⟨ret_of (congrArg Value.bool (rightB_not fun h => ?_).symm), Bl.up bl HW6.out⟩;have h1 := of_decide_eq_false HB0.out;have h2 := hall.out.1 (right_nat.1 h).at0;omega
   have hm1 : m = 1 := by have := of_decide_eq_true HB0.out; omega
   have hR0 := Lib.hid (hall.out.2 hm1);clear hm1 hall;obtain ⟨-, -, -, -, c4, -, -, -⟩ := (HF.out.up HW6.out).cellsN;go_wp2_with fail;refine (small_any (t.B : Int) w6).mono ?_;rintro e w7 ⟨v, rfl, hSm, -, hb7⟩;have hBt := HT.out.b;rw [if_neg (by omega)];have hSm := hSm (by omega);rw [Int.toNat_natCast] at hSm;have hSm : So eint w7 w6.heap.size v (zI (prL (t.B + 1))) := hSm;obtain ⟨aS, cS, rfl, hcS⟩ := hSm.slice;have hpl := prL_len (t.B + 1);have hpp : ∀ q ∈ prL (t.B + 1), 2 <= q /\ q <= t.B := fun q hq => by obtain ⟨h1, h2⟩ := mem_prL.1 hq; exact ⟨h1.1, by omega⟩
   rw [zI_len] at hSm hcS |-;obtain ⟨pl, hple⟩ : ∃ pl, prL (t.B + 1) = pl := ⟨_, rfl⟩;rw [hple] at hSm hcS hpl hpp |-;have HPL := Lib.hid hple;have HPP := Lib.hid hpp;have HSm := Lib.hid hSm.sr;have hbW7 := Bl.up HW6.out hb7;obtain ⟨-, -, -, c3, -, -, -, hR7⟩ := (HF.out.up hbW7).cellsN;have HR7 := Lib.hid hR7;have HW7 := Lib.hid hbW7
   have hRl : t.R.length <= 1099511627776 := by
    have := HN.out;rw [List.length_append] at this;omega
   clear hple hpp hSm hb7 c4 HW6 hbW7 hR7;go_wp2_with fail;clear c3
   go_loopw [16, 18, 107] (fun s16 s18 s107 wr => ∃ j : Nat, s107 = .int .i64 j /\ j <= t.R.length /\ (∀ k, k < j -> ∀ q ∈ pl, ¬ q ∣ (t.R.getD k (0, 0)).1) /\ Below w7.heap.size w7 wr)
    (fun _ _ s107 _ => t.R.length - (intOf s107).toNat)
   case atStart => exact ⟨0, rfl, Nat.zero_le _, fun k hk => absurd hk (Nat.not_lt_zero _), Below.refl _ _⟩
   case round =>
    obtain ⟨j, rfl, hj, hnd, hbl7⟩ := hrel;have HND := Lib.hid hnd;clear hnd;by_cases hjl : j < t.R.length
    ·have hjT : t.P.length + j < (t.P ++ t.R).length := by rw [List.length_append]; omega
     have hkx : (t.P ++ t.R).getD (t.P.length + j) (0, 0) = t.R.getD j (0, 0) := by
      rw [List.getD_eq_getElem?_getD, List.getElem?_append_right (by omega), Nat.add_sub_cancel_left, List.getD_eq_getElem?_getD]
     have hszx := HZ.out _ hjT;rw [hkx] at hszx;clear hkx;obtain ⟨ba, offa, rfl, hba, hla⟩ := (HR7.out.up hbl7).at (i := j) (by rw [zP_len]; exact hjl);obtain ⟨s1, a1, n1, k1, p0, p1, p2, hx⟩ := hla.pow (i := j) (by rw [zP_len]; exact hjl);rw [zP_getD] at p2 hx;obtain ⟨x, hx0⟩ : ∃ x, t.R.getD j (0, 0) = x := ⟨_, rfl⟩;rw [hx0] at hszx p2 hx;have HX := Lib.hid hx0;clear hx0 hla hba;have i0 : (0 : Int) <= (j : Int) := by omega
     have i1 : (j : Int) < (t.R.length : Int) := by omega
     go_upto_region 24 with fail;have hD := heap_alloc_new wr (.cells #[.bool s1, .slice a1 n1 k1, .int .i64 (x.2 : Int)] 41);have hx14 := hx.alloc (.cells #[.bool s1, .slice a1 n1 k1, .int .i64 (x.2 : Int)] 41);have hb14 := Bl.alloc hbl7 (.cells #[.bool s1, .slice a1 n1 k1, .int .i64 (x.2 : Int)] 41);clear p0 p1 p2 hx hbl7;generalize wr.heap.size = B14 at *;generalize wr.alloc (.cells #[.bool s1, .slice a1 n1 k1, .int .i64 (x.2 : Int)] 41) = wa at *;have HD14 := Lib.hid hD;have HX14 := Lib.hid hx14;have HB14 := Lib.hid hb14;clear hD hx14 hb14;go_wp2_with fail
     go_loopw [16, 18, 113] (fun s16 s18 s113 wq => ∃ k : Nat, s113 = .int .i64 k /\ k <= pl.length /\ (∀ k', k' < k -> ¬ pl.getD k' 0 ∣ x.1) /\ Below wa.heap.size wa wq)
      (fun _ _ s113 _ => pl.length - (intOf s113).toNat)
     case atStart => exact ⟨0, rfl, Nat.zero_le _, fun k hk => absurd hk (Nat.not_lt_zero _), Below.refl _ _⟩
     case round =>
      obtain ⟨k, rfl, hk, hnk, hbq⟩ := hrel;have HNK := Lib.hid hnk;clear hnk;by_cases hkl : k < pl.length
      ·have hb14' := Bl.up HB14.out hbq;obtain ⟨bS, oS, rfl, hbS, hlS⟩ := (HSm.out.up hb14').at (i := k) (by rw [zI_len]; exact hkl);have cd := hlS.i64 hkl;have hqm : pl.getD k 0 ∈ pl := by rw [List.getD_eq_getElem?_getD, List.getElem?_eq_getElem hkl]; exact List.getElem_mem _
       have hq2 := HPP.out _ hqm;obtain ⟨q, hq0⟩ : ∃ q, pl.getD k 0 = q := ⟨_, rfl⟩;rw [hq0] at cd hqm hq2;have HQ := Lib.hid hq0;have HQM := Lib.hid hqm;clear hq0 hqm hlS;have hx := HX14.out.up hbq;have hD := (hbq.block B14 (Array.getElem?_eq_some_iff.1 HD14.out).1).trans HD14.out;have p0 : wr.cell? ⟨B14, 0, none⟩ = some (.bool s1) := by simp [World.cell?, hD]
       have p1 : wr.cell? ⟨B14, 1, none⟩ = some (.slice a1 n1 k1) := by simp [World.cell?, hD]
       clear hD;have i4 : (0 : Int) <= (k : Int) := by omega
       have i5 : (k : Int) < (pl.length : Int) := by omega
       have hszq : sz (q : Int) <= 1099511627776 := Nat.le_trans (words_le_of_lt (n := 4) (Nat.lt_of_le_of_lt (show (q : Int).natAbs <= 65536 by omega) (by decide))) (by decide);go_upto_region 27 with fail;clear cd;obtain ⟨okb, hokb⟩ : ∃ okb, decide ((x.1 : Int) % (q : Int) = 0) = okb := ⟨_, rfl⟩;have HOK := Lib.hid hokb;have hx0 := Lib.hid hx;have hbl8 := Lib.hid hb14';clear hokb hx hb14';refine wp_region_T (by kernel_rfl) [9] (S := fun w' => w'.cell? ⟨B14, 0, none⟩ = some (.bool s1) /\ w'.cell? ⟨B14, 1, none⟩ = some (.slice a1 n1 k1)) ⟨p0, p1⟩ (fun hHeld => ?_);(refine pL 0 rfl ?_)
       refine kL 1 rfl ?_;(refine pL 2 rfl ?_)
       clear hHeld
       refine wpAnyT_all [(3, some 121), (4, some 122), (5, some 117), (6, some 123), (7, some 124), (8, some 17), (9, none)] 1 (Fl (knD (q : Int) ((x.1 : Int) / (q : Int)) okb) 8 wr) rfl (by kernel_rfl) (by decide) (by kernel_rfl) (by kernel_rfl) (by kernel_rfl)
        (fun bb xx wz h => ⟨keepc h.bl p0, keepc h.bl p1⟩) (fun xx => Fl.start _ _ _ _) ?_ ?_
       ·intro i hi;have hi' : i = 3 \/ i = 4 \/ i = 5 \/ i = 6 \/ i = 7 \/ i = 8 \/ i = 9 := by simpa using hi
        clear hi;rcases hi' with rfl | rfl | rfl | rfl | rfl | rfl | rfl
        ·refine ⟨_, rfl, fun bb xx wz hJ hbb hw K hK => ?_⟩;clear hbb hw;simp only [actA] at hK |-;go_simp;refine (number_any (q : Int) wz (by omega) (by omega)).mono ?_;rintro e w8 ⟨v, rfl, hv, hb⟩;exact hK.out _ _ (hJ.call (i := 3) (by decide) (Z := fun _ => False) ⟨fun _ => hv, nzz, nzz, nzz⟩ (fun k hk => hk.elim) hb)
        ·refine ⟨_, rfl, fun bb xx wz hJ hbb hw K hK => ?_⟩;obtain ⟨Z, hRR, -, -⟩ := hJ.pr 3 (by decide) (hw 3 (by kernel_rfl));have hv3 := hRR.1 rfl;clear hbb hw hRR;simp only [actA] at hK |-;go_simp;refine (divide_ok _ _ (x.1 : Int) (q : Int) wz (hx0.out.up hJ.bl) hv3 (by omega) hszx hszq).mono ?_;rintro e w8 ⟨v, rfl, hv, hb⟩;rw [HOK.out];exact hK.out _ _ (hJ.call (i := 4) (by decide) (Z := fun _ => False) ⟨nzz, fun _ => ⟨v, rfl, hv⟩, nzz, nzz⟩ (fun k hk => hk.elim) hb)
        ·refine ⟨_, rfl, fun bb xx wz hJ hbb hw K hK => ?_⟩
         have hp : ∃ u, xx 4 = .tuple #[u, .bool okb] /\ It wz u ((x.1 : Int) / (q : Int)) := by
          obtain ⟨Z, hRR, -, -⟩ := hJ.pr 4 (by decide) (hw 4 (by kernel_rfl));exact hRR.2.1 (.inl rfl)
         have hh := Classical.choose_spec hp;generalize Classical.choose hp = u at hh;have hxu := hh.1;have hu := hh.2;clear hbb hw hp hh;simp only [actA, hxu] at hK |-;go_simp;exact hK.out _ _ (hJ.call (i := 5) (by decide) (Z := fun _ => False) ⟨nzz, fun _ => ⟨u, rfl, hu⟩, nzz, nzz⟩ (fun k hk => hk.elim) (Below.refl _ _))
        ·refine ⟨_, rfl, fun bb xx wz hJ hbb hw K hK => ?_⟩
         have hp : ∃ u, xx 5 = .tuple #[u, .bool okb] /\ It wz u ((x.1 : Int) / (q : Int)) := by
          obtain ⟨Z, hRR, -, -⟩ := hJ.pr 5 (by decide) (hw 5 (by kernel_rfl));exact hRR.2.1 (.inr rfl)
         have hh := Classical.choose_spec hp;generalize Classical.choose hp = u at hh;have hxu := hh.1;have hu := hh.2;clear hbb hw hp hh;simp only [actA, hxu] at hK |-;go_simp;exact hK.out _ _ (hJ.call (i := 6) (by decide) (Z := fun _ => False) ⟨nzz, nzz, fun _ => hu, nzz⟩ (fun k hk => hk.elim) (Below.refl _ _))
        ·refine ⟨_, rfl, fun bb xx wz hJ hbb hw K hK => ?_⟩
         have hp : ∃ u, xx 5 = .tuple #[u, .bool okb] /\ It wz u ((x.1 : Int) / (q : Int)) := by
          obtain ⟨Z, hRR, -, -⟩ := hJ.pr 5 (by decide) (hw 5 (by kernel_rfl));exact hRR.2.1 (.inr rfl)
         have hh := Classical.choose_spec hp;generalize Classical.choose hp = u at hh;have hxu := hh.1;have hu := hh.2;clear hbb hw hp hh;simp only [actA, hxu] at hK |-;go_simp;exact hK.out _ _ (hJ.call (i := 7) (by decide) (Z := fun _ => False) ⟨nzz, nzz, nzz, fun _ => rfl⟩ (fun k hk => hk.elim) (Below.refl _ _))
        ·refine ⟨_, rfl, fun bb xx wz hJ hbb hw K hK => ?_⟩;clear hbb hw;simp only [actA] at hK |-;go_simp;exact hK.out _ _ (hJ.var (W' := wz.alloc (.cells #[.bool false, .slice none 0 0] 29)) (Vx.new0 (w := wz) rfl).va (below_new _ _))
        ·refine ⟨_, rfl, fun bb xx wz hJ hbb hw K hK => ?_⟩
         have hp := (show It wz (xx 6) ((x.1 : Int) / (q : Int)) by
          obtain ⟨Z, hRR, -, -⟩ := hJ.pr 6 (by decide) (hw 6 (by kernel_rfl));exact hRR.2.2.1 rfl).shape'
         have hq := hJ.pj (hw 8 (by kernel_rfl));have hh := Classical.choose_spec hp;have hg := Classical.choose_spec hq;generalize Classical.choose hp = y at hh;generalize Classical.choose hq = B17 at hg;have hxu := hh.1;have hxv := hg.1;have hu := hh.2;have hB17 := hg.2.1;have hVa : Va wz B17 := hg.2.2;have hcc := Va.cells4 hVa;have hcs := Classical.choose_spec hcc;generalize Classical.choose hcc = yy at hcs;have z0 := hcs.1;have z1 := hcs.2.1;have z2 := hcs.2.2.1;have z3 := hcs.2.2.2;have h8 := hw 8 (by kernel_rfl);have HJ := Lib.hid hJ;have HXV := Lib.hid hxv;clear hbb hw hp hh hq hg hcc hcs hJ;simp only [actA, hxu, hxv] at hK |-;clear hxu hxv;go_simp;go_wp2_with fail;have hb2 := (ButS.set wz B17 0 (.bool y.1)).trans (ButS.set _ B17 1 (.slice y.2.1 y.2.2.1 y.2.2.2));have hSn : ∀ g, g = B17 -> NoW wz g := fun g e => by subst e; obtain ⟨_, _, _, _, _, _, _, h⟩ := hVa; exact h
         exact hK.out _ _ (HJ.out.st (i := 9) (v := undef) (by decide) HXV.out h8 (fun i' v Z h => knD.fr hb2 hSn h) (by simp) (ButS.below HJ.out.bl hb2 HJ.out.bl.size (fun g e => e ▸ hB17)) (Vx.put hVa hu).va ⟨nzz, nzz, nzz, nzz⟩)
       intro bb xx wz hbb hJ;obtain ⟨Z, hRR, -, -⟩ := hJ.pr 6 (by decide) (hbb 6 (by decide));have hu := hRR.2.2.1 rfl;obtain ⟨Z', hRR', -, -⟩ := hJ.pr 7 (by decide) (hbb 7 (by decide));have h7 := hRR'.2.2.2 rfl;obtain ⟨B17, hx17, hB17, hV17⟩ := hJ.pj (hbb 8 (by decide));have hbz := hJ.bl;clear hbb hJ hRR hRR';obtain ⟨u3, hu3⟩ : ∃ u3, u3 = xx 3 := ⟨_, rfl⟩;obtain ⟨u4, hu4⟩ : ∃ u4, u4 = xx 4 := ⟨_, rfl⟩;obtain ⟨u5, hu5⟩ : ∃ u5, u5 = xx 5 := ⟨_, rfl⟩;obtain ⟨s3, a3, n3, c3, hx6⟩ := hu.shape;rw [hx6] at hu;simp only [actM, hx17, hx6, h7, <- hu3, <- hu4, <- hu5];clear hx17 hx6 h7 hu3 hu4 hu5;(refine oL 10 rfl fun K hK => tL ?_; go_simp);(go_wp2_with fail; refine xL hK (tL ?_); clear hK);refine dT ?_;clear p0 p1;have hbq2 : Below wa.heap.size wa wz := Bl.up hbq hbz;have HBQ2 := Lib.hid hbq2;clear hbq2 hV17 hbz hbq hu
       cases okb
       case true =>
        go_wp2_with fail;go_ret
        refine ⟨ret_of (congrArg Value.bool (rightB_not fun h => ?_).symm), Bl.up bl (Bl.up HW7.out (Bl.up HB14.out HBQ2.out))⟩;have hd : q ∣ x.1 := Nat.dvd_of_mod_eq_zero (by have := of_decide_eq_true HOK.out; omega);rw [<- HX.out] at hd;exact right_bad (right_nat.1 h) hjl (q := q) (by rw [HPL.out]; exact HQM.out) hd
       case false =>
        have hnd : ¬ q ∣ x.1 := fun h => by have := of_decide_eq_false HOK.out; have := Nat.mod_eq_zero_of_dvd h; omega
        have HNQ := Lib.hid hnd;clear hnd;go_wp2_with fail;go_roundw
        case rel =>
         refine ⟨k + 1, by go_num, by omega, fun k' hk' => ?_, HBQ2.out⟩;by_cases e : k' = k
         ·subst e; rw [HQ.out]; exact HNQ.out
         ·exact HNK.out k' (by omega)
        case measure => simp [intOf]; omega
      ·have hke : k = pl.length := by omega
       go_wp2_with fail;go_roundw
       case rel =>
        refine ⟨j + 1, by go_num, by omega, fun j' hj' q hq => ?_, Bl.up HB14.out hbq⟩;by_cases e : j' = j
        ·subst e;rw [HX.out];obtain ⟨k', hk', rfl⟩ := List.getElem_of_mem hq;have := HNK.out k' (by omega);rw [List.getD_eq_getElem?_getD, List.getElem?_eq_getElem hk', Option.getD_some] at this;exact this
        ·exact HND.out j' (by omega) q hq
       case measure => simp [intOf]; omega
    ·obtain rfl : j = t.R.length := by omega
     go_wp2_with fail;go_ret
     refine ⟨ret_of (congrArg Value.bool (rightB_of (right_nat.2 ?_)).symm), Bl.up bl (Bl.up HW7.out hbl7)⟩;exact right_sm hR0.out hBt (fun j' hj' q hq => HND.out j' hj' q (by rw [<- HPL.out]; exact hq))
end Go.Proofs.YtblebpmlkpobnaaGreatDoor
