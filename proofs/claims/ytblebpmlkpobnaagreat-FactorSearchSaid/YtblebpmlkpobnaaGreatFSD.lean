/-
  algoristlaw05.FactorSearch: the walk.
-/
import Derived.Test.YtblebpmlkpobnaaGreatFW
import Derived.Test.YtblebpmlkpobnaaGreatFZC
import Derived.Test.YtblebpmlkpobnaaGreatFSC
import Derived.Test.YtblebpmlkpobnaaGreatFZD
import Derived.Test.YtblebpmlkpobnaaGreatFZI
import Derived.Test.YtblebpmlkpobnaaGreatFZL
import Derived.Test.YtblebpmlkpobnaaGreatFZK
import Derived.Test.YtblebpmlkpobnaaGreatFSB
set_option linter.unusedSimpArgs false
set_option linter.unusedVariables false
set_option maxRecDepth 100000
set_option maxHeartbeats 8000000
namespace Go.Proofs.YtblebpmlkpobnaaGreat
open Go.RowKit
attribute [local go_sem ↓] Go.wp_at_zero Go.wp_at_succ
def kwC (f : Fn) : Kw where
 R := fun i v w => (i = 3 -> Fx w v (zF f)) /\ (i = 5 -> ∃ g, Fx w v (zF g) /\ SearchTo f pds g)
 V := fun _ w B => Fv w B
 js := fun i => decide (i = 6 \/ i = 7)
 up := fun h hb => ⟨fun e => (h.1 e).up hb, fun e => by obtain ⟨g, h1, h2⟩ := h.2 e; exact ⟨g, h1.up hb, h2⟩⟩
 vup := fun h hb => h.up hb
 vlt := fun h => h.lt
 j := 6
 q := 8
 C := fun w B => Bf w B (zF f)
 cup := fun h hb => h.up hb
 fr := fun h hb hB => ⟨fun e => (h.1 e).fr hb (fun g e => e ▸ hB.nw) hB (fun g e => e), fun e => by obtain ⟨g, h1, h2⟩ := h.2 e; exact ⟨g, h1.fr hb (fun g e => e ▸ hB.nw) hB (fun g e => e), h2⟩⟩
 vfr := fun h hb hB hne => by
  obtain ⟨y, h1⟩ := h;exact ⟨y, (hb.block _ (Array.getElem?_eq_some_iff.1 h1).1 hne).trans h1⟩
 vj := fun h => h
 vy := fun h => h
 hj := rfl
 hq := rfl
 tr := ⟨nzz, fun e => absurd e (by decide)⟩
theorem Bf.fr5 {w w' : World} {B B8 : Nat} {f : Fz} (h : Bf w B f) (hb : ButS (fun g => g = B8) w w') (h8 : Fv w B8) (hn : B ≠ B8) : Bf w' B f := by
 obtain ⟨s, a, n, c, aP, cP, aR, cR, h0, hN, hP, hR⟩ := h;have hS : ∀ g, g = B8 -> NoW w g := fun g e => e ▸ h8.nw;exact ⟨s, a, n, c, aP, cP, aR, cR, (hb.block B (Array.getElem?_eq_some_iff.1 h0).1 hn).trans h0, hN.fr hb hS, hP.fr hb hS (fun hl g hg e => Fx.not5 h8 hP hl g hg e), hR.fr hb hS (fun hl g hg e => Fx.not5 h8 hR hl g hg e)⟩
theorem MadeTo.low {u : List Tri} {b : Nat} {f : Fn} (h : MadeTo u b f) : ∀ p ∈ f.P, p.1 < 1099511627776 := by
 intro p hp;have h1 := h.2.1.1.mem_iff.1 hp;obtain ⟨y, -, rfl⟩ := List.mem_map.1 h1;exact Nat.lt_of_le_of_lt (prN_le _) (by decide)
theorem fsearch_any (va : Value) (L : List Tri) (b : Nat) (k : Nat) (w : World) (h : Dx w va L b) (hk : k < 65536) :
  Calls Tryz.prog 12 #[va, .int .u16 (k : Int)] w fun e w' => e = .returned (.bool true) /\ Below w.heap.size w w' := by
 obtain ⟨a, c, rfl, hb16, ha, hLm⟩ := h;go_enter Tryz.func12, Tryz.ntmps12
 go_upto_region 1 with fail;have hbl := below_new w (.cells #[.slice a L.length c, .int .u16 (b : Int)] 25);have hD := heap_alloc_new w (.cells #[.slice a L.length c, .int .u16 (b : Int)] 25);have hA := ha.alloc (.cells #[.slice a L.length c, .int .u16 (b : Int)] 25);clear ha;generalize w.alloc (.cells #[.slice a L.length c, .int .u16 (b : Int)] 25) = W at *;go_wp2_with fail;refine (examples_any W).mono ?_;rintro e w1 ⟨rfl, hb1⟩;replace hbl := Bl.up hbl hb1;have hD1 := (hb1.block _ (Array.getElem?_eq_some_iff.1 hD).1).trans hD;have c0 : w1.cell? ⟨w.heap.size, 0, none⟩ = some (.slice a L.length c) := by simp [World.cell?, hD1]
 have c1 : w1.cell? ⟨w.heap.size, 1, none⟩ = some (.int .u16 (b : Int)) := by simp [World.cell?, hD1]
 replace hA := hA.up hb1;clear hD hD1 hb1;go_wp2_with fail;refine (rmade_any _ L b w1 ⟨a, c, rfl, hb16, hA, hLm⟩).mono ?_;rintro e w2 ⟨v, f, rfl, hF, hM, hb2⟩;obtain ⟨hR, hMd, hPp⟩ := hM.good;have HPL := Lib.hid (fun (p : Nat × Nat) (hp : p ∈ f.P) => And.intro (hPp p hp) (hM.low p hp));clear hM hPp c0 c1 hA;replace hbl := Bl.up hbl hb2;obtain ⟨y, rfl, hFy⟩ := hF.shape;have hB := Bf.new hFy;have hbl2 := Bl.alloc hbl (.cells #[.bool y.s, .slice y.a y.n y.c, .slice y.a2 y.n2 y.c2, .slice y.a3 y.n3 y.c3, .int .i64 y.b] 36);clear hF hFy hbl hb2;go_upto_region 5 with fail;generalize w2.alloc (.cells #[.bool y.s, .slice y.a y.n y.c, .slice y.a2 y.n2 y.c2, .slice y.a3 y.n3 y.c3, .int .i64 y.b] 36) = w3 at *;generalize w2.heap.size = Bq at *;obtain ⟨⟨s1, a1, n1, k1, aP, nP, cP, aR, nR, cR, bb⟩, ⟨p0, p1, p2, p3, p4⟩, hfx, hN1, hP1, hR1, e2, e3, eb⟩ := hB.cells;dsimp only at p0 p1 p2 p3 p4 hfx hN1 hP1 hR1 e2 e3 eb;have HB := Lib.hid hB;have HL := Lib.hid hbl2;have HFX := Lib.hid hfx;have HR := Lib.hid hR;have HMD := Lib.hid hMd;clear hB hbl2 hfx hN1 hP1 hR1 hR hMd;have e3' : nR = f.R.length := e3.trans (zP_len _);have e2' : nP = f.P.length := e2.trans (zP_len _);have hlen := HR.out.len HMD.out;have E2 := Lib.hid e2';have E3 := Lib.hid e3';have E3z := Lib.hid e3;have EB := Lib.hid eb;have HLEN := Lib.hid hlen;clear e2 e3 eb e2' e3' hlen;have wk : IntKind.i64.wrap (k : Int) = (k : Int) := by rw [IntKind.wrap_i64]; omega
 refine wp_region_T (by kernel_rfl) [8, 9] (S := fun w' => w'.cell? ⟨Bq, 0, none⟩ = some (.bool s1) /\ w'.cell? ⟨Bq, 1, none⟩ = some (.slice a1 n1 k1) /\ w'.cell? ⟨Bq, 2, none⟩ = some (.slice aP nP cP) /\ w'.cell? ⟨Bq, 3, none⟩ = some (.slice aR nR cR) /\ w'.cell? ⟨Bq, 4, none⟩ = some (.int .i64 bb)) ⟨p0, p1, p2, p3, p4⟩ (fun hHeld => ?_);refine kL 0 rfl ?_;(refine pL 1 rfl ?_; refine pL 2 rfl ?_)
 refine kL 4 rfl ?_;clear hHeld
 refine wpAnyT_all [(3, some 20), (5, some 22), (6, some 7), (7, some 8), (8, none)] 1 (FlW (kwC f) w3) rfl (by kernel_rfl) (by decide) (by kernel_rfl) (by kernel_rfl) (by kernel_rfl)
  (fun bb xx wz h => (fun hb' => ⟨keepc hb' p0, keepc hb' p1, keepc hb' p2, keepc hb' p3, keepc hb' p4⟩) h.fl.bl) (fun xx => FlW.start _ _ _) ?_ ?_
 ·intro i hi;have hi' : i = 3 \/ i = 5 \/ i = 6 \/ i = 7 \/ i = 8 := by simpa using hi
  clear hi;rcases hi' with rfl | rfl | rfl | rfl | rfl
  ·refine ⟨_, rfl, fun bb xx wz hJ hbf hw K hK => ?_⟩;clear hbf hw;simp only [actA] at hK |-;go_simp;refine (search_few _ f (k : Int) wz (HFX.out.up hJ.fl.bl) (by omega)).mono ?_;rintro e w8 ⟨v, rfl, hv, hb⟩;exact hK.out _ _ (hJ.call (i := 3) rfl (show (3 : Nat) ≠ 8 by decide) ⟨fun _ => hv, fun e => absurd e (by decide)⟩ hb)
  ·refine ⟨_, rfl, fun bb xx wz hJ hbf hw K hK => ?_⟩;clear hbf hw;simp only [actA] at hK |-;go_simp;refine (search_all _ f 2097152 wz (HFX.out.up hJ.fl.bl) HR.out HMD.out (by decide)).mono ?_;rintro e w8 ⟨v, g, rfl, hv, hg, hb⟩;exact hK.out _ _ (hJ.call (i := 5) rfl (show (5 : Nat) ≠ 8 by decide) ⟨nzz, fun _ => ⟨g, hv, hg⟩⟩ hb)
  ·refine ⟨_, rfl, fun bb xx wz hJ hbf hw K hK => ?_⟩;clear hw;simp only [actA] at hK |-;go_simp;exact hK.out _ _ (hJ.var (i := 6) (W' := wz.alloc (.cells #[.bool false, .slice none 0 0, .slice none 0 0, .slice none 0 0, .int .i64 0] 36)) rfl hbf (Fv.new wz) (below_new _ _))
  ·refine ⟨_, rfl, fun bb xx wz hJ hbf hw K hK => ?_⟩;clear hw;simp only [actA] at hK |-;go_simp;exact hK.out _ _ (hJ.var (i := 7) (W' := wz.alloc (.cells #[.bool false, .slice none 0 0, .slice none 0 0, .slice none 0 0, .int .i64 0] 36)) rfl hbf (Fv.new wz) (below_new _ _))
  ·refine ⟨_, rfl, fun bb xx wz hJ hbf hw K hK => ?_⟩;have h1 := (hJ.fl.pr 3 rfl (hw 3 (by kernel_rfl))).1 rfl;have h4 := hw 6 (by kernel_rfl);have hp : ∃ p, Sto wz (xx 3) (xx 6) p := hJ.sto (K := kwC f) h1 h4;have hh := Classical.choose_spec hp;generalize Classical.choose hp = p at hh;have hxu : xx 3 = _ := hh.v;have hxv : xx 6 = _ := hh.b;have d0 := hh.d0;have d1 := hh.d1;have d2 := hh.d2;have d3 := hh.d3;have d4 := hh.d4;have f0 := hh.f0;have f1 := hh.f1;have f2 := hh.f2;have f3 := hh.f3;have f4 := hh.f4;have HJ := Lib.hid hJ;have HH := Lib.hid hh;have H1 := Lib.hid h1;clear hbf hw hp hh hJ h1;simp only [actA, hxu, hxv] at hK |-;clear hxu hxv;go_simp;go_wp2_with fail;exact hK.out _ _ (HJ.out.st (i := 3) h4 HH.out (fun hF => Bf.put hF (by have hf' := H1.out; rw [HH.out.v] at hf'; exact hf')) (v := undef))
 intro bb xx wz hbb hJ;obtain ⟨g, hgx, hST⟩ := (hJ.fl.pr 5 rfl (hbb 5 (by decide))).2 rfl;obtain ⟨B7, hx6, hB7, hV7⟩ := hJ.fl.pj 6 rfl (hbb 6 (by decide));obtain ⟨B8, hx7, hB8, hV8⟩ := hJ.fl.pj 7 rfl (hbb 7 (by decide));have hF := (hJ.ct (hbb 8 (by decide))).2 B7 hx6;have hne : B7 ≠ B8 := fun e => hJ.fl.ne 6 7 rfl rfl (by decide) (hbb 6 (by decide)) (hbb 7 (by decide)) (by rw [hx6, hx7, e]);have hbz := hJ.fl.bl;clear hbb hJ;obtain ⟨y, hy5, hgx⟩ := hgx.shape;obtain ⟨u3, hu3⟩ : ∃ u3, u3 = xx 3 := ⟨_, rfl⟩;simp only [actM, hx6, hx7, hy5, <- hu3];clear hx6 hx7 hy5 hu3 hV7;have hpd : ∀ r ∈ ks f.R, Prm r (pds r) := fun r hr => pds_prm (by have := HR.out.incR.big hr; omega);have HGR := Lib.hid (hST.right HR.out hpd);have HGM := Lib.hid (show Md g.N by rw [hST.1]; exact HMD.out);have HRF := Lib.hid (hST.refines HR.out hpd);have HBD := Lib.hid (show g.B = f.B from hST.2.1);have HFC := Lib.hid (hST.facts HR.out hpd);have hlt7 := hF.lt;have HGX := Lib.hid hgx;have HF0 := Lib.hid hF;have HV8 := Lib.hid hV8;have HBZ := Lib.hid hbz;obtain ⟨z8, d0, d1, d2, d3, d4, f0, f1, f2, f3, f4⟩ := hV8.cells;clear hgx hST hpd hF hV8 hbz p0 p1 p2 p3 p4;(refine oL 9 rfl fun K hK => tL ?_; go_simp);(go_wp2_with fail; refine xL hK (tL ?_); clear hK);refine dT ?_;clear d0 d1 d2 d3 d4 f0 f1 f2 f3 f4;have hb8 := fput_but wz B8 y;have hG8 := Bf.put HV8.out HGX.out;have hF7 := HF0.out.fr5 hb8 HV8.out hne;have hFq := (HB.out.up HBZ.out).fr5 hb8 HV8.out (fun e => by have := HB.out.lt; omega);have hbl3 := ButS.below HBZ.out hb8 HBZ.out.size (fun g e => by omega);unfold fput at hb8 hG8 hF7 hFq hbl3;replace HL := Lib.hid (Bl.up HL.out hbl3);have HG8 := Lib.hid hG8;have HF7 := Lib.hid hF7;have HFQ := Lib.hid hFq;clear hb8 hG8 hF7 hFq hbl3 HV8 HGX HF0 HBZ HB hB7 hB8 hlt7 HFX;generalize ((((wz.setCell ⟨B8, 0, none⟩ (.bool y.s)).setCell ⟨B8, 1, none⟩ (.slice y.a y.n y.c)).setCell ⟨B8, 2, none⟩ (.slice y.a2 y.n2 y.c2)).setCell ⟨B8, 3, none⟩ (.slice y.a3 y.n3 y.c3)).setCell ⟨B8, 4, none⟩ (.int .i64 y.b) = w4 at *;obtain ⟨⟨sq, aq, nq, kq, qP, qnP, qcP, qR, qnR, qcR, bq⟩, ⟨q0, q1, q2, q3, q4⟩, hqx, -, hqP, -, eqP, -, eqb⟩ := HFQ.out.cells;obtain ⟨⟨sa, aa, na, ka, aP, anP, acP, aR, anR, acR, ba⟩, ⟨a0, a1, a2, a3, a4⟩, hax, -, haP, -, -, -, eab⟩ := HF7.out.cells;obtain ⟨⟨sg, ag, ng, kg, gP, gnP, gcP, gR, gnR, gcR, bg⟩, ⟨g0, g1, g2, g3, g4⟩, hgx, -, hgP, hgR, egP, egR, egb⟩ := HG8.out.cells;dsimp only at q0 q1 q2 q3 q4 hqx hqP eqP eqb a0 a1 a2 a3 a4 hax haP eab g0 g1 g2 g3 g4 hgx hgP hgR egP egR egb;obtain rfl : ba = bq := by rw [eab, eqb]
 obtain rfl : bg = ba := by rw [egb, eab]; show (g.B : Int) = (f.B : Int); rw [HBD.out]
 obtain rfl : qnP = f.P.length := eqP.trans (zP_len _);obtain rfl : gnP = g.P.length := egP.trans (zP_len _);obtain rfl : gnR = g.R.length := egR.trans (zP_len _);have HQP := Lib.hid (show Sr eP w4 (.slice qP f.P.length qcP) (zP f.P) from hqP);have HAP := Lib.hid (show Sr eP w4 (.slice aP anP acP) (zP f.P) from haP);have HGP := Lib.hid (show Sr eP w4 (.slice gP g.P.length gcP) (zP g.P) from hgP);have HGR8 := Lib.hid (show Sr eP w4 (.slice gR g.R.length gcR) (zP g.R) from hgR);have HQX := Lib.hid hqx;have HAX := Lib.hid hax;have HGX := Lib.hid hgx;have HGL := Lib.hid (HGR.out.len HGM.out);clear hqx hqP eqP eqb hax haP eab hgx hgP hgR egP egR egb HFQ HF7 HG8;go_wp2_with fail;refine (rright_any _ (zF f) w4 HAX.out (HR.out.szf HMD.out) (by have := HLEN.out; show (zP f.P).length <= _; rw [zP_len]; omega) (by have := HLEN.out; show (zP f.R).length <= _; rw [zP_len]; omega)).mono ?_;rintro e w5 ⟨rfl, hb⟩;rw [show rightB (zF f) = true from rightB_of (right_nat.2 HR.out)];replace q0 := keepc hb (q0);replace q1 := keepc hb (q1);replace q2 := keepc hb (q2);replace q3 := keepc hb (q3);replace q4 := keepc hb (q4);replace a0 := keepc hb (a0);replace a1 := keepc hb (a1);replace a2 := keepc hb (a2);replace a3 := keepc hb (a3);replace a4 := keepc hb (a4);replace g0 := keepc hb (g0);replace g1 := keepc hb (g1);replace g2 := keepc hb (g2);replace g3 := keepc hb (g3);replace g4 := keepc hb (g4);replace HQP := Lib.hid (HQP.out.up hb);replace HAP := Lib.hid (HAP.out.up hb);replace HGP := Lib.hid (HGP.out.up hb);replace HGR8 := Lib.hid (HGR8.out.up hb);replace HQX := Lib.hid (HQX.out.up hb);replace HAX := Lib.hid (HAX.out.up hb);replace HGX := Lib.hid (HGX.out.up hb);replace HL := Lib.hid (Bl.up HL.out hb);clear hb;go_wp2_with fail;refine (rright_any _ (zF g) w5 HGX.out (HGR.out.szf HGM.out) (by have := HGL.out; show (zP g.P).length <= _; rw [zP_len]; omega) (by have := HGL.out; show (zP g.R).length <= _; rw [zP_len]; omega)).mono ?_;rintro e w6 ⟨rfl, hb⟩;rw [show rightB (zF g) = true from rightB_of (right_nat.2 HGR.out)];replace q0 := keepc hb (q0);replace q1 := keepc hb (q1);replace q2 := keepc hb (q2);replace q3 := keepc hb (q3);replace q4 := keepc hb (q4);replace a0 := keepc hb (a0);replace a1 := keepc hb (a1);replace a2 := keepc hb (a2);replace a3 := keepc hb (a3);replace a4 := keepc hb (a4);replace g0 := keepc hb (g0);replace g1 := keepc hb (g1);replace g2 := keepc hb (g2);replace g3 := keepc hb (g3);replace g4 := keepc hb (g4);replace HQP := Lib.hid (HQP.out.up hb);replace HAP := Lib.hid (HAP.out.up hb);replace HGP := Lib.hid (HGP.out.up hb);replace HGR8 := Lib.hid (HGR8.out.up hb);replace HQX := Lib.hid (HQX.out.up hb);replace HAX := Lib.hid (HAX.out.up hb);replace HGX := Lib.hid (HGX.out.up hb);replace HL := Lib.hid (Bl.up HL.out hb);clear hb;go_wp2_with fail;refine (rrefines_any _ _ f f w6 HAX.out HQX.out HR.out HR.out HMD.out (RefinesN.refl HR.out)).mono ?_;rintro e w7 ⟨rfl, hb⟩;replace q0 := keepc hb (q0);replace q1 := keepc hb (q1);replace q2 := keepc hb (q2);replace q3 := keepc hb (q3);replace q4 := keepc hb (q4);replace a0 := keepc hb (a0);replace a1 := keepc hb (a1);replace a2 := keepc hb (a2);replace a3 := keepc hb (a3);replace a4 := keepc hb (a4);replace g0 := keepc hb (g0);replace g1 := keepc hb (g1);replace g2 := keepc hb (g2);replace g3 := keepc hb (g3);replace g4 := keepc hb (g4);replace HQP := Lib.hid (HQP.out.up hb);replace HAP := Lib.hid (HAP.out.up hb);replace HGP := Lib.hid (HGP.out.up hb);replace HGR8 := Lib.hid (HGR8.out.up hb);replace HQX := Lib.hid (HQX.out.up hb);replace HAX := Lib.hid (HAX.out.up hb);replace HGX := Lib.hid (HGX.out.up hb);replace HL := Lib.hid (Bl.up HL.out hb);clear hb;go_wp2_with fail;refine (rrefines_any _ _ g f w7 HGX.out HQX.out HGR.out HR.out HGM.out HRF.out).mono ?_;rintro e w8 ⟨rfl, hb⟩;replace q0 := keepc hb (q0);replace q1 := keepc hb (q1);replace q2 := keepc hb (q2);replace q3 := keepc hb (q3);replace q4 := keepc hb (q4);replace a0 := keepc hb (a0);replace a1 := keepc hb (a1);replace a2 := keepc hb (a2);replace a3 := keepc hb (a3);replace a4 := keepc hb (a4);replace g0 := keepc hb (g0);replace g1 := keepc hb (g1);replace g2 := keepc hb (g2);replace g3 := keepc hb (g3);replace g4 := keepc hb (g4);replace HQP := Lib.hid (HQP.out.up hb);replace HAP := Lib.hid (HAP.out.up hb);replace HGP := Lib.hid (HGP.out.up hb);replace HGR8 := Lib.hid (HGR8.out.up hb);replace HL := Lib.hid (Bl.up HL.out hb);clear hb HQX HAX HGX HRF;have hfpl : f.P.length <= 65536 := by have := HLEN.out; omega
 have hgpl : g.P.length <= 65536 := by have := HGL.out; omega
 have hgrl : g.R.length <= 65536 := by have := HGL.out; omega
 go_wp2_with fail
 go_loopw [9] (fun s9 wq => ∃ m : Nat, s9 = .int .i64 (m : Int) /\ m <= f.P.length /\ Below w8.heap.size w8 wq)
  (fun s9 _ => f.P.length - (intOf s9).toNat)
 case atStart => exact ⟨0, rfl, Nat.zero_le _, Below.refl _ _⟩
 case round =>
  obtain ⟨m, rfl, hm, hbq⟩ := hrel;have q5 := keepc hbq q2;have q6 := keepc hbq a2;have q7 := keepc hbq g2;by_cases hml : m < f.P.length
  ·have hkz : m < (zP f.P).length := by rw [zP_len]; exact hml
   obtain ⟨bl, offl, rfl, hbl', hla⟩ := (HQP.out.up hbq).at hkz;obtain ⟨sl, xl, nl, kl, y0, y1, y2, hy⟩ := hla.pow hkz;rw [zP_getD] at y2 hy;have hxm : f.P.getD m (0, 0) ∈ f.P := by rw [List.getD_eq_getElem?_getD, List.getElem?_eq_getElem hml]; exact List.getElem_mem _
   have hxM := HR.out.szk HMD.out (ks_mem (List.mem_append_left f.R hxm));have hxg := HFC.out.1 _ hxm;obtain ⟨x, hx0⟩ : ∃ x, f.P.getD m (0, 0) = x := ⟨_, rfl⟩;rw [hx0] at y2 hy hxM hxg hxm;have HX := Lib.hid hy;have HXM := Lib.hid hxM;have HXG := Lib.hid hxg;have HXF := Lib.hid hxm;have HBQ := Lib.hid hbq;have HAq := Lib.hid (HAP.out.up hbq);have HGq := Lib.hid (HGP.out.up hbq);clear hx0 hy hxM hxg hxm hbq hla hkz;have j0 : (0 : Int) <= (m : Int) := by omega
   have j1 : (m : Int) < (f.P.length : Int) := by omega
   go_upto_region 11 with fail;refine wp_region_T (by kernel_rfl) [] (S := fun w' => w'.cell? ⟨B7, 2, none⟩ = some (.slice aP anP acP) /\ w'.cell? ⟨B8, 2, none⟩ = some (.slice gP g.P.length gcP) /\ w'.cell? ⟨Bq, 2, none⟩ = some (.slice (some ⟨bl, offl, none⟩) f.P.length qcP) /\ w'.cell? ⟨bl, offl + m * 3, none⟩ = some (.bool sl) /\ w'.cell? ⟨bl, offl + m * 3 + 1, none⟩ = some (.slice xl nl kl) /\ w'.cell? ⟨bl, offl + m * 3 + 2, none⟩ = some (.int .i64 (x.2 : Int))) ⟨q6, q7, q5, y0, y1, y2⟩ (fun hHeld => ?_);(refine kL 0 rfl ?_; refine kL 1 rfl ?_; refine kL 2 rfl ?_; refine kL 3 rfl ?_; refine kL 4 rfl ?_; refine kL 5 rfl ?_; refine kL 6 rfl ?_)
   (refine oL 7 rfl fun K hK => tL ?_; go_simp);refine (member_any _ sl xl nl kl (zP f.P) ((x.1 : Int), (x.2 : Int)) _ (HAq.out.up (Below.refl _ _).drew) (HX.out.up (Below.refl _ _).drew) (HR.out.szP HMD.out) (Nat.le_trans HXM.out (by decide))).mono ?_;rintro e w16 ⟨rfl, hb6⟩;rw [decide_eq_true (show ((x.1 : Int), (x.2 : Int)) ∈ zP f.P from List.mem_map.2 ⟨x, HXF.out, rfl⟩)];replace q5 := keepc hb6 (cellD q5);replace q6 := keepc hb6 (cellD q6);replace q7 := keepc hb6 (cellD q7);replace y0 := keepc hb6 (cellD y0);replace y1 := keepc hb6 (cellD y1);replace y2 := keepc hb6 (cellD y2);replace HBQ := Lib.hid (Bl.up (Bl.drew HBQ.out) hb6);replace HX := Lib.hid ((HX.out.up (Below.refl _ _).drew).up hb6);replace HGq := Lib.hid ((HGq.out.up (Below.refl _ _).drew).up hb6);clear hb6 HAq;(go_wp2_with fail; clear hHeld; refine nxL hK ⟨q6, q7, q5, y0, y1, y2⟩ fun hHeld => tL ?_; clear hK);(refine kL 8 rfl ?_; refine kL 9 rfl ?_; refine kL 10 rfl ?_; refine kL 11 rfl ?_; refine kL 12 rfl ?_; refine kL 13 rfl ?_; refine kL 14 rfl ?_; refine kL 15 rfl ?_; refine kL 16 rfl ?_)
   (refine oL 17 rfl fun K hK => tL ?_; go_simp);refine (member_any _ sl xl nl kl (zP g.P) ((x.1 : Int), (x.2 : Int)) _ HGq.out HX.out (HGR.out.szP HGM.out) (Nat.le_trans HXM.out (by decide))).mono ?_;rintro e w17 ⟨rfl, hb6⟩;rw [decide_eq_true (show ((x.1 : Int), (x.2 : Int)) ∈ zP g.P from List.mem_map.2 ⟨x, HXG.out, rfl⟩)];replace q5 := keepc hb6 (q5);replace q6 := keepc hb6 (q6);replace q7 := keepc hb6 (q7);replace y0 := keepc hb6 (y0);replace y1 := keepc hb6 (y1);replace y2 := keepc hb6 (y2);replace HBQ := Lib.hid (Bl.up HBQ.out hb6);clear hb6 HX HGq;(go_wp2_with fail; clear hHeld; refine nxL hK ⟨q6, q7, q5, y0, y1, y2⟩ fun hHeld => tL ?_; clear hK);(refine kL 18 rfl ?_; refine kL 19 rfl ?_)
   refine dT ?_;clear hHeld q5 q6 q7 y0 y1 y2;go_wp2_with fail;refine ⟨⟨m + 1, by go_num, by omega, HBQ.out⟩, by simp [intOf]; omega⟩
  ·obtain rfl : m = f.P.length := by omega
   have HB8 := Lib.hid (Bl.up HL.out hbq);have g2' := keepc hbq g2;have g3' := keepc hbq g3;have HGP' := Lib.hid (HGP.out.up hbq);have HGR' := Lib.hid (HGR8.out.up hbq);clear hbq q6 q0 q1 q2 q3 q4 a0 a1 a2 a3 a4 g0 g1 g2 g3 g4 HQP HAP HGP HGR8 HL;obtain ⟨wl, hwl⟩ : ∃ wl, wl = wr := ⟨wr, rfl⟩;rw [<- hwl] at q5 g2' g3' HB8 HGP' HGR' q7 |-;clear hwl q7;go_wp2_with fail
   go_loopw [10] (fun s10 wq => ∃ j : Nat, s10 = .int .i64 (j : Int) /\ j <= g.R.length /\ Below wl.heap.size wl wq)
    (fun s10 _ => g.R.length - (intOf s10).toNat)
   case atStart => exact ⟨0, rfl, Nat.zero_le _, Below.refl _ _⟩
   case round =>
    obtain ⟨j, rfl, hj, hbq⟩ := hrel;have q4 := keepc hbq g3';by_cases hjl : j < g.R.length
    ·have hkz : j < (zP g.R).length := by rw [zP_len]; exact hjl
     obtain ⟨bl, offl, rfl, hbl', hla⟩ := (HGR'.out.up hbq).at hkz;obtain ⟨sl, xl, nl, kl, y0, y1, -, hy⟩ := hla.pow hkz;rw [zP_getD] at hy;have hym : g.R.getD j (0, 0) ∈ g.R := by rw [List.getD_eq_getElem?_getD, List.getElem?_eq_getElem hjl]; exact List.getElem_mem _
     have hyM := HGR.out.szk HGM.out (x := (g.R.getD j (0, 0)).1) (by rw [ks_append]; exact List.mem_append_right _ (ks_mem hym));have hyb := HFC.out.2.1 _ hym;obtain ⟨y, hy0⟩ : ∃ y, (g.R.getD j (0, 0)).1 = y := ⟨_, rfl⟩;rw [hy0] at hy hyM hyb;have hsz2 := Nat.le_trans hyM (show 4096 <= 1099511627776 by decide);have HBQ := Lib.hid hbq;have HY := Lib.hid hy;have HYB := Lib.hid hyb;clear hy0 hbq hy hyM hym hla hkz hyb;have j0 : (0 : Int) <= (j : Int) := by omega
     have j1 : (j : Int) < (g.R.length : Int) := by omega
     go_wp2_with fail;refine (bits_any _ (y : Int) _ HY.out hsz2).mono ?_;rintro e w16 ⟨b', rfl, hb1, hb2, -, hb6⟩
     have hbn : ¬ b' <= 40 := fun h => by
      have := (low_iff hb1 hb2).1 h;have h3 := HYB.out;simp [isLow] at this
      omega
     have hbn' : ¬ (b' : Int) <= 40 := by omega
     replace HBQ := Lib.hid (Bl.up HBQ.out hb6);clear hb6 hb1 hb2 HY q4 y0 y1;go_wp2_with fail;refine ⟨⟨j + 1, by go_num, by omega, HBQ.out⟩, by simp [intOf]; omega⟩
    ·obtain rfl : j = g.R.length := by omega
     have HB9 := Lib.hid (Bl.up HB8.out hbq);have g2'' := keepc hbq g2';have HGP'' := Lib.hid (HGP'.out.up hbq);clear hbq HB8 q5 g2' g3' HGP' HGR';obtain ⟨wl2, hwl⟩ : ∃ wl2, wl2 = wr := ⟨wr, rfl⟩;rw [<- hwl] at q4 g2'' HB9 HGP'' |-;clear hwl;go_wp2_with fail;clear q4
     go_loopw [11] (fun s11 wq => ∃ j : Nat, s11 = .int .i64 (j : Int) /\ j <= g.P.length /\ Below wl2.heap.size wl2 wq)
      (fun s11 _ => g.P.length - (intOf s11).toNat)
     case atStart => exact ⟨0, rfl, Nat.zero_le _, Below.refl _ _⟩
     case round =>
      obtain ⟨j, rfl, hj, hbq⟩ := hrel;have q4 := keepc hbq g2'';by_cases hjl : j < g.P.length
      ·have hkz : j < (zP g.P).length := by rw [zP_len]; exact hjl
       obtain ⟨bl, offl, rfl, hbl', hla⟩ := (HGP''.out.up hbq).at hkz;obtain ⟨sl, xl, nl, kl, y0, y1, -, hy⟩ := hla.pow hkz;rw [zP_getD] at hy;have hym : g.P.getD j (0, 0) ∈ g.P := by rw [List.getD_eq_getElem?_getD, List.getElem?_eq_getElem hjl]; exact List.getElem_mem _
       have hyb : Pri (g.P.getD j (0, 0)).1 /\ (g.P.getD j (0, 0)).1 < 1099511627776 := by
        rcases HFC.out.2.2 _ hym with h | h
        ·exact HPL.out _ h
        ·exact h
       obtain ⟨y, hy0⟩ : ∃ y, (g.P.getD j (0, 0)).1 = y := ⟨_, rfl⟩;rw [hy0] at hy hyb;have HBQ := Lib.hid hbq;have HY := Lib.hid hy;have HYB := Lib.hid hyb;clear hy0 hbq hy hym hla hkz hyb;have j0 : (0 : Int) <= (j : Int) := by omega
       have j1 : (j : Int) < (g.P.length : Int) := by omega
       go_wp2_with fail;refine (rprime_any _ y _ HY.out HYB.out.2 HYB.out.1).mono ?_;rintro e w16 ⟨rfl, hb6⟩;replace HBQ := Lib.hid (Bl.up HBQ.out hb6);clear hb6 HY q4 y0 y1;go_wp2_with fail;refine ⟨⟨j + 1, by go_num, by omega, HBQ.out⟩, by simp [intOf]; omega⟩
      ·obtain rfl : j = g.P.length := by omega
       have HE := Lib.hid (Bl.up HB9.out hbq);clear hbq;go_wp2_with fail;go_ret
       exact ⟨rfl, HE.out⟩
end Go.Proofs.YtblebpmlkpobnaaGreat
