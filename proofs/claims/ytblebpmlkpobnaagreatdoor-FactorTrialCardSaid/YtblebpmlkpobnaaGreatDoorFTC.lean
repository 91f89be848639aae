/-
  algoristlaw05.FactorTrial: the walk.
-/
import Derived.Test.YtblebpmlkpobnaaGreatDoorFW
import Derived.Test.YtblebpmlkpobnaaGreatDoorFZC
import Derived.Test.YtblebpmlkpobnaaGreatDoorFZI
import Derived.Test.YtblebpmlkpobnaaGreatDoorFTB
import Derived.Test.YtblebpmlkpobnaaGreatDoorFN
import Derived.Test.YtblebpmlkpobnaaGreatDoorFM
set_option linter.unusedSimpArgs false
set_option linter.unusedVariables false
set_option maxRecDepth 100000
set_option maxHeartbeats 8000000
namespace Go.Proofs.YtblebpmlkpobnaaGreatDoor
open Go.RowKit
attribute [local go_sem ↓] Go.wp_at_zero Go.wp_at_succ
theorem trL_mem {l : List Nat} : ∀ {m : Nat} {p : Nat × Nat}, p ∈ (trL l m).1 -> p.1 ∈ l := by
 induction l with
 | nil => intro m p h; cases h
 | cons d l ih =>
   intro m p h;unfold trL at h;split at h
   ·rcases List.mem_cons.1 h with rfl | h
    ·exact List.mem_cons_self
    ·exact List.mem_cons_of_mem _ (ih h)
   ·exact List.mem_cons_of_mem _ (ih h)
theorem TrialTo.low {N B : Nat} {t : Fn} (hB : B < 300) (h : TrialTo N B t) : ∀ p ∈ t.P, p.1 < 4294967296 := by
 intro p hp;have h1 := h.2.2.1.1.mem_iff.1 hp;rcases List.mem_append.1 h1 with h1 | h1
 ·have h2 := trL_mem h1;have h3 := (List.mem_range'_1.1 h2).2;omega
 ·split at h1
  ·rename_i hc
   rw [List.mem_singleton] at h1;subst h1;have h2 : _ < (B + 1) * (B + 1) := of_decide_eq_true hc.2;have h3 : (B + 1) * (B + 1) <= 300 * 300 := Nat.mul_le_mul (by omega) (by omega);exact Nat.lt_of_lt_of_le (Nat.lt_of_lt_of_le h2 h3) (by decide)
  ·cases h1
theorem sq_sz {bd : Nat} (h : bd < 300) : sz (((bd : Int) + 1) * ((bd : Int) + 1)) <= 4611686018427387904 := by
 have h1 : (bd + 1) * (bd + 1) <= 300 * 300 := Nat.mul_le_mul (by omega) (by omega);have h2 : (((bd : Int) + 1) * ((bd : Int) + 1)) = (((bd + 1) * (bd + 1) : Nat) : Int) := by rw [Int.natCast_mul]; rfl
 rw [h2];have : sz (((bd + 1) * (bd + 1) : Nat) : Int) <= 1 := words_le_of_lt (Nat.lt_of_le_of_lt h1 (by decide));exact Nat.le_trans this (by decide)
theorem cmp_ge {m bd : Nat} (h : (bd + 1) * (bd + 1) <= m) : cmpI (m : Int) (((bd : Int) + 1) * ((bd : Int) + 1)) >= 0 := by
 have h2 : (((bd : Int) + 1) * ((bd : Int) + 1)) = (((bd + 1) * (bd + 1) : Nat) : Int) := by rw [Int.natCast_mul]; rfl
 rw [h2];unfold cmpI;rw [if_neg (by omega)];split <;> decide
theorem ftrial_any (va : Value) (L : List Tri) (b : Nat) (k : Nat) (w : World) (h : Dx w va L b) (hk : k < 65536) (hT : TabAt 0 Lib.deBruijn64tab w) :
  Calls Tryz.prog 3 #[va, .int .u16 (k : Int)] w fun e w' => e = .returned (.bool true) /\ Below w.heap.size w w' := by
 obtain ⟨a, c, rfl, hb16, ha, hLm⟩ := h;have hkm : (k : Int).tmod 300 = ((k % 300 : Nat) : Int) := by rw [Int.tmod_eq_emod_of_nonneg (by omega)]; rfl
 have hkm2 : (k : Int) % 300 = ((k % 300 : Nat) : Int) := rfl;have hbd : k % 300 < 300 := Nat.mod_lt _ (by decide);obtain ⟨bd, hbde⟩ : ∃ m, k % 300 = m := ⟨_, rfl⟩;rw [hbde] at hkm hkm2 hbd;have wb : IntKind.i64.wrap (bd : Int) = (bd : Int) := by rw [IntKind.wrap_i64]; omega
 have HTB := Lib.hid hT;clear hbde hT;go_enter Tryz.func3, Tryz.ntmps3
 go_upto_region 1 with fail;have hbl := below_new w (.cells #[.slice a L.length c, .int .u16 (b : Int)] 25);have hD := heap_alloc_new w (.cells #[.slice a L.length c, .int .u16 (b : Int)] 25);have hA := ha.alloc (.cells #[.slice a L.length c, .int .u16 (b : Int)] 25);clear ha;generalize w.alloc (.cells #[.slice a L.length c, .int .u16 (b : Int)] 25) = W at *;go_wp2_with fail;refine (examples_any W).mono ?_;rintro e w1 ⟨rfl, hb1⟩;replace hbl := Bl.up hbl hb1;have hD1 := (hb1.block _ (Array.getElem?_eq_some_iff.1 hD).1).trans hD;have c0 : w1.cell? ⟨w.heap.size, 0, none⟩ = some (.slice a L.length c) := by simp [World.cell?, hD1]
 have c1 : w1.cell? ⟨w.heap.size, 1, none⟩ = some (.int .u16 (b : Int)) := by simp [World.cell?, hD1]
 replace hA := hA.up hb1;clear hD hD1 hb1;go_wp2_with fail;refine (rmade_any _ L b w1 ⟨a, c, rfl, hb16, hA, hLm⟩).mono ?_;rintro e w2 ⟨v, f, rfl, hF, hM, hb2⟩;obtain ⟨hR, hMd, -⟩ := hM.good;clear hM c0 c1 hA;replace hbl := Bl.up hbl hb2;obtain ⟨y, rfl, hFy⟩ := hF.shape;have hB := Bf.new hFy;obtain ⟨z, -, -, hN, -⟩ := hB.cells
 have hN2 : It w2 (.agg #[.bool y.s, .slice y.a y.n y.c]) (f.N : Int) := by
  obtain ⟨s, a, n, c, vP, vR, e, h1, -, -⟩ := hFy;injection e with e;injection e with e;simp only [List.cons.injEq] at e;rw [e.1, e.2.1];exact h1
 have hsz := Nat.le_trans (hMd.sz (Nat.le_refl _)) (show 4096 <= 1099511627776 by decide);have HN := Lib.hid hN2;have HL := Lib.hid hbl;have HR := Lib.hid hR;have HMD := Lib.hid hMd;clear hN hB hF hFy hN2 hbl hR hMd;have hfld : ∀ w, (Instr.field 32 (.agg #[.bool y.s, .slice y.a y.n y.c, .slice y.a2 y.n2 y.c2, .slice y.a3 y.n3 y.c3, .int .i64 y.b]) 0).run Tryz.prog w = .ok (.agg #[.bool y.s, .slice y.a y.n y.c]) w := fun _ => by kernel_rfl
 go_wp2_with fail;refine (trial_ok _ f.N bd w2 HN.out HR.out.n1 (by omega) hsz).mono ?_;rintro e w3 ⟨v, g, rfl, hF, hT, hb2⟩;clear hfld;obtain ⟨hgr, hgp, hgR⟩ := hT.right HR.out.n1 (by omega);have hlow := hT.low hbd;have hgn := hT.1;have hgb : (g.B : Int) = (bd : Int) := by rw [hT.2.1]
 obtain ⟨y, rfl, hFy⟩ := hF.shape;have hB := Bf.new hFy;have hb3 := Bl.up hb2 (below_new w3 (.cells #[.bool y.s, .slice y.a y.n y.c, .slice y.a2 y.n2 y.c2, .slice y.a3 y.n3 y.c3, .int .i64 y.b] 32));have HGR := Lib.hid hgr;have HGM := Lib.hid (show Md g.N by rw [hgn]; exact HMD.out);have HGP := Lib.hid (fun (p : Nat × Nat) (hp : p ∈ g.P) => And.intro (hgp p hp) (hlow p hp));have HRE := Lib.hid hgR;have HGB := Lib.hid hgb;have H7 := Lib.hid hB;replace HL := Lib.hid (Bl.up HL.out hb3);clear hT hgr hgp hgR hlow hgn hgb hF hFy hB hb2 hb3 HN hsz HR HMD;go_upto_region 6 with fail;generalize w3.alloc (.cells #[.bool y.s, .slice y.a y.n y.c, .slice y.a2 y.n2 y.c2, .slice y.a3 y.n3 y.c3, .int .i64 y.b] 32) = w4 at *;generalize w3.heap.size = B7 at *;obtain ⟨⟨sg, ag, ng, kg, gP, gnP, gcP, gR, gnR, gcR, bg⟩, ⟨g0, g1, g2, g3, g4⟩, hgx, -, hgP, hgR, egP, egR, egb⟩ := H7.out.cells;dsimp only at g0 g1 g2 g3 g4 hgx hgP hgR egP egR egb;obtain rfl : bg = (bd : Int) := by rw [egb]; exact HGB.out
 obtain rfl : gnP = g.P.length := egP.trans (zP_len _);obtain rfl : gnR = g.R.length := egR.trans (zP_len _);have HQP := Lib.hid (show Sr eP w4 (.slice gP g.P.length gcP) (zP g.P) from hgP);have HQR := Lib.hid (show Sr eP w4 (.slice gR g.R.length gcR) (zP g.R) from hgR);have HGX := Lib.hid hgx;have hlen := HGR.out.len HGM.out
 have hr1 : g.R.length <= 1 := by
  rcases HRE.out with h | ⟨m, h, -⟩ <;> rw [h] <;> simp
 have hr1' : ¬ (g.R.length : Int) > 1 := by omega
 have hfpl : g.P.length <= 65536 := by omega
 have HLEN := Lib.hid hlen;have HR1 := Lib.hid hr1;clear hgx hgP hgR egP egR egb H7 hlen hr1;go_wp2_with fail;refine (rright_any _ (zF g) w4 HGX.out (HGR.out.szf HGM.out) (by have := HLEN.out; show (zP g.P).length <= _; rw [zP_len]; omega) (by have := HLEN.out; show (zP g.R).length <= _; rw [zP_len]; omega)).mono ?_;rintro e w5 ⟨rfl, hb⟩;rw [show rightB (zF g) = true from rightB_of (right_nat.2 HGR.out)];replace g0 := keepc hb (g0);replace g1 := keepc hb (g1);replace g2 := keepc hb (g2);replace g3 := keepc hb (g3);replace g4 := keepc hb (g4);replace HQP := Lib.hid (HQP.out.up hb);replace HQR := Lib.hid (HQR.out.up hb);replace HGX := Lib.hid (HGX.out.up hb);replace HL := Lib.hid (Bl.up HL.out hb);clear hb;go_wp2_with fail;refine (right_any _ (zF g) w5 HGX.out (HGR.out.szf HGM.out) (by have := HLEN.out; show (zP g.P).length <= _; rw [zP_len]; omega) (by have := HLEN.out; show (zP g.R).length <= _; rw [zP_len]; omega)).mono ?_;rintro e w6 ⟨rfl, hb⟩;rw [show rightB (zF g) = true from rightB_of (right_nat.2 HGR.out)];replace g0 := keepc hb (g0);replace g1 := keepc hb (g1);replace g2 := keepc hb (g2);replace g3 := keepc hb (g3);replace g4 := keepc hb (g4);replace HQP := Lib.hid (HQP.out.up hb);replace HQR := Lib.hid (HQR.out.up hb);replace HL := Lib.hid (Bl.up HL.out hb);clear hb HGX;go_wp2_with fail
 go_loopw [9, 10, 11] (fun s9 _ _ wq => ∃ j : Nat, s9 = .int .i64 (j : Int) /\ j <= g.P.length /\ Below w6.heap.size w6 wq)
  (fun s9 _ _ _ => g.P.length - (intOf s9).toNat)
 case atStart => exact ⟨0, rfl, Nat.zero_le _, Below.refl _ _⟩
 case round =>
  obtain ⟨j, rfl, hj, hbq⟩ := hrel;have q4 := keepc hbq g2;by_cases hjl : j < g.P.length
  ·have hkz : j < (zP g.P).length := by rw [zP_len]; exact hjl
   obtain ⟨bl, offl, rfl, hbl', hla⟩ := (HQP.out.up hbq).at hkz;obtain ⟨sl, xl, nl, kl, y0, y1, -, hy⟩ := hla.pow hkz;rw [zP_getD] at hy;have hym : g.P.getD j (0, 0) ∈ g.P := by rw [List.getD_eq_getElem?_getD, List.getElem?_eq_getElem hjl]; exact List.getElem_mem _
   have hyb := HGP.out _ hym;obtain ⟨y, hy0⟩ : ∃ y, (g.P.getD j (0, 0)).1 = y := ⟨_, rfl⟩;rw [hy0] at hy hyb;have HBQ := Lib.hid hbq;have HY := Lib.hid hy;have HYB := Lib.hid hyb;clear hy0 hbq hy hym hla hkz hyb;have j0 : (0 : Int) <= (j : Int) := by omega
   have j1 : (j : Int) < (g.P.length : Int) := by omega
   go_wp2_with fail;refine (pis_any _ y _ HY.out HYB.out.2 HYB.out.1 (tab_up HTB.out (Bl.up HL.out HBQ.out))).mono ?_;rintro e w16 ⟨rfl, hb6⟩;replace HBQ := Lib.hid (Bl.up HBQ.out hb6);clear hb6 HY q4 y0 y1;go_wp2_with fail;refine ⟨⟨j + 1, by go_num, by omega, HBQ.out⟩, by simp [intOf]; omega⟩
  ·obtain rfl : j = g.P.length := by omega
   have HB9 := Lib.hid (Bl.up HL.out hbq);have p3 := keepc hbq g3;have HR3 := Lib.hid (HQR.out.up hbq);clear hbq g0 g1 g2 g3 g4 HQP HQR HL;by_cases hr0 : g.R.length = 0
   ·have hr0' : (g.R.length : Int) = 0 := by omega
    go_wp2_with fail;go_ret
    exact ⟨rfl, HB9.out⟩
   ·obtain ⟨m, hRm, hmb⟩ : ∃ m, g.R = [(m, 1)] /\ (bd + 1) * (bd + 1) <= m := by
     rcases HRE.out with h | h
     ·rw [h] at hr0; exact absurd rfl hr0
     ·exact h
    have p4 : wr.cell? ⟨B7, 3, none⟩ = some (.slice gR 1 gcR) := by rw [p3, hRm]; rfl
    have HR4 : Sr eP wr (.slice gR 1 gcR) [((m : Int), 1)] := by
     have := HR3.out;rw [hRm] at this;exact this
    have hmN : m ∈ ks (g.P ++ g.R) := by rw [hRm, ks_append]; exact List.mem_append_right _ (by simp [ks])
    have hmM := Nat.le_trans (HGR.out.szk HGM.out hmN) (show 4096 <= 4611686018427387904 by decide);obtain ⟨bl, offl, rfl, hbl', hla⟩ := HR4.at (i := 0) (by simp);obtain ⟨sl, xl, nl, kl, y0, y1, y2, hy⟩ := hla.pow (i := 0) (by simp);rw [Nat.zero_mul, Nat.add_zero] at y0 y1 y2;replace y2 : wr.cell? ⟨bl, offl + 2, none⟩ = some (.int .i64 1) := y2;replace hy : It wr (.agg #[.bool sl, .slice xl nl kl]) (m : Int) := hy;have HY := Lib.hid hy;have HMB := Lib.hid hmb;have HMM := Lib.hid hmM;have wb1 : IntKind.i64.wrap ((bd : Int) + 1) = (bd : Int) + 1 := by rw [IntKind.wrap_i64]; omega
    clear p3 HR3 HR4 hmN hmM hla hy hmb hRm hr0 hr1' HRE hj hjl hbl'
    have hszb : sz ((bd : Int) + 1) <= 1099511627776 := by
     have : sz ((bd + 1 : Nat) : Int) <= 1 := words_le_of_lt (Nat.lt_of_lt_of_le (show bd + 1 < 4294967296 by omega) (by decide));exact Nat.le_trans this (by decide)
    go_wp2_with fail;refine (rof_any ((bd : Int) + 1) _ (by omega) (by omega)).mono ?_;rintro e w11 ⟨v1, rfl, hv1, hb⟩;replace p4 := keepc hb p4;replace y0 := keepc hb y0;replace y1 := keepc hb y1;replace y2 := keepc hb y2;replace HY := Lib.hid (HY.out.up hb);replace HB9 := Lib.hid (Bl.up HB9.out hb);clear hb q4;go_wp2_with fail;refine (rof_any ((bd : Int) + 1) _ (by omega) (by omega)).mono ?_;rintro e w12 ⟨v2, rfl, hv2, hb⟩;replace p4 := keepc hb p4;replace y0 := keepc hb y0;replace y1 := keepc hb y1;replace y2 := keepc hb y2;replace hv1 := hv1.up hb;replace HY := Lib.hid (HY.out.up hb);replace HB9 := Lib.hid (Bl.up HB9.out hb);clear hb;go_wp2_with fail;refine (rmul_any _ _ _ _ _ hv1 hv2 hszb hszb).mono ?_;rintro e w13 ⟨v3, rfl, hv3, hb⟩;obtain ⟨s3, a3, n3, c3, rfl⟩ := hv3.shape;replace hb := Bl.up hb (below_new w13 (.cells #[.bool s3, .slice a3 n3 c3] 29));have hV := Vx.new (w := w13) (T := 29) rfl hv3;have hV0 : (w13.alloc (.cells #[.bool s3, .slice a3 n3 c3] 29)).cell? ⟨w13.heap.size, 0, none⟩ = some (.bool s3) := (Bx.new w13 (.bool s3) (.slice a3 n3 c3) 29).c0;have hV1 : (w13.alloc (.cells #[.bool s3, .slice a3 n3 c3] 29)).cell? ⟨w13.heap.size, 1, none⟩ = some (.slice a3 n3 c3) := (Bx.new w13 (.bool s3) (.slice a3 n3 c3) 29).c1;replace hv3 := hv3.alloc (.cells #[.bool s3, .slice a3 n3 c3] 29);replace p4 := keepc hb p4;replace y0 := keepc hb y0;replace y1 := keepc hb y1;replace y2 := keepc hb y2;replace HY := Lib.hid (HY.out.up hb);replace HB9 := Lib.hid (Bl.up HB9.out hb);have HV3 := Lib.hid hv3;clear hb hv1 hv2 hv3 hV;go_upto_region 17 with fail;generalize w13.alloc (.cells #[.bool s3, .slice a3 n3 c3] 29) = w14 at *;generalize w13.heap.size = B12 at *;refine wp_region_T (by kernel_rfl) [] (S := fun w' => w'.cell? ⟨B7, 3, none⟩ = some (.slice (some ⟨bl, offl, none⟩) 1 gcR) /\ w'.cell? ⟨bl, offl, none⟩ = some (.bool sl) /\ w'.cell? ⟨bl, offl + 1, none⟩ = some (.slice xl nl kl) /\ w'.cell? ⟨bl, offl + 2, none⟩ = some (.int .i64 1) /\ w'.cell? ⟨B12, 0, none⟩ = some (.bool s3) /\ w'.cell? ⟨B12, 1, none⟩ = some (.slice a3 n3 c3)) ⟨p4, y0, y1, y2, hV0, hV1⟩ (fun hHeld => ?_);(refine kL 0 rfl ?_; refine kL 1 rfl ?_; refine kL 2 rfl ?_; refine kL 3 rfl ?_; refine kL 4 rfl ?_; refine kL 5 rfl ?_; refine kL 6 rfl ?_; refine kL 7 rfl ?_; refine kL 8 rfl ?_; refine kL 9 rfl ?_; refine kL 10 rfl ?_; refine kL 11 rfl ?_; refine kL 12 rfl ?_)
    (refine oL 13 rfl fun K hK => tL ?_; go_simp);refine (rcmp_any _ _ (m : Int) (((bd : Int) + 1) * ((bd : Int) + 1)) _ (HY.out.up (Below.refl _ _).drew) (HV3.out.up (Below.refl _ _).drew) HMM.out (sq_sz hbd)).mono ?_;rintro e w15 ⟨rfl, hb⟩;have hcmp : cmpI (m : Int) (((bd : Int) + 1) * ((bd : Int) + 1)) >= 0 := cmp_ge HMB.out;replace p4 := keepc hb (cellD p4);replace y0 := keepc hb (cellD y0);replace y1 := keepc hb (cellD y1);replace y2 := keepc hb (cellD y2);replace hV0 := keepc hb (cellD hV0);replace hV1 := keepc hb (cellD hV1);replace HB9 := Lib.hid (Bl.up (Bl.drew HB9.out) hb);obtain ⟨cm, hcm⟩ : ∃ c, cmpI (m : Int) (((bd : Int) + 1) * ((bd : Int) + 1)) = c := ⟨_, rfl⟩;rw [hcm] at hcmp |-;clear hcm hb HY HV3;(go_wp2_with fail; clear hHeld; refine nxL hK ⟨p4, y0, y1, y2, hV0, hV1⟩ fun hHeld => tL ?_; clear hK);(refine kL 14 rfl ?_; refine kL 15 rfl ?_; refine kL 16 rfl ?_; refine kL 17 rfl ?_; refine kL 18 rfl ?_; refine kL 19 rfl ?_)
    refine dT ?_;clear hHeld p4 y0 y1 y2 hV0 hV1;go_wp2_with fail;go_ret
    exact ⟨rfl, HB9.out⟩
end Go.Proofs.YtblebpmlkpobnaaGreatDoor
