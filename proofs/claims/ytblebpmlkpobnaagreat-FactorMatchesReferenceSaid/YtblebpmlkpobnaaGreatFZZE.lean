/-
  The reference of factor: Omega.
-/
import Derived.Test.YtblebpmlkpobnaaGreatFZF
import Derived.Test.YtblebpmlkpobnaaGreatFM
import Derived.Test.YtblebpmlkpobnaaGreatFN
import Derived.Test.YtblebpmlkpobnaaGreatFP1
set_option linter.unusedSimpArgs false
set_option linter.unusedVariables false
set_option maxRecDepth 100000
set_option maxHeartbeats 4000000
namespace Go.Proofs.YtblebpmlkpobnaaGreat
open Go.RowKit
attribute [local go_sem ↓] Go.wp_at_zero Go.wp_at_succ
theorem romega_any (va : Value) (f : Fn) (w : World) (ha : Fx w va (zF f)) (hf : RightN f) (hm : Md f.N) :
  Calls Tryz.prog 47 #[va] w fun e w' => e = .returned (.tuple #[.int .i64 (lowN f : Nat), .int .i64 (highN f : Nat)]) /\ Below w.heap.size w w' := by
 obtain ⟨W, s, a, n, c, aP, cP, aR, cR, rfl, hW, bl, hs, hF⟩ := boxN w ha;clear ha;have hLen := hf.len hm;go_enter Tryz.func47, Tryz.ntmps47
 go_upto_region 1 with fail;rw [<- hW];clear hW;obtain ⟨p0, p1, p2, p3, p4, -, -, hR1⟩ := hF.cellsN;have HR := Lib.hid hR1;have HBL := Lib.hid bl;clear hF hR1 bl;have hb5 := hf.b;have e1 : IntKind.i64.wrap ((f.B : Int) + 1) = (f.B : Int) + 1 := by rw [IntKind.wrap_i64]; omega
 have e2 : max ((f.B : Int) + 1) 2 = ((bsN f.B : Nat) : Int) := by unfold bsN; omega
 have hbs : bsN f.B <= 65537 /\ 2 <= bsN f.B := by unfold bsN; omega
 obtain ⟨b, hb⟩ : ∃ b, bsN f.B = b := ⟨_, rfl⟩;rw [hb] at e2 hbs;have HBS := Lib.hid hb;clear hb;refine wp_region_T (by kernel_rfl) [10] (S := fun w' => w'.cell? ⟨w.heap.size, 2, none⟩ = some (.slice aP f.P.length cP) /\ w'.cell? ⟨w.heap.size, 3, none⟩ = some (.slice aR f.R.length cR) /\ w'.cell? ⟨w.heap.size, 4, none⟩ = some (.int .i64 (f.B : Int))) ⟨p2, p3, p4⟩ (fun hHeld => ?_);refine pL 0 rfl ?_;refine kL 1 rfl ?_;(refine pL 2 rfl ?_; refine pL 3 rfl ?_)
 refine kL 4 rfl ?_;(refine pL 5 rfl ?_; refine pL 6 rfl ?_)
 clear hHeld
 refine wpAnyT_all [(7, some 15), (8, some 5)] 2 (Fl (knZ 7 b) 8 W) rfl (by kernel_rfl) (by decide) (by kernel_rfl) (by kernel_rfl) (by kernel_rfl)
  (fun bb x wz h => ⟨keepc h.bl p2, keepc h.bl p3, keepc h.bl p4⟩) (fun x => Fl.start _ _ _ _) ?_ ?_
 ·intro i hi;have hi' : i = 7 \/ i = 8 := by simpa using hi
  clear hi;rcases hi' with rfl | rfl
  ·refine ⟨_, rfl, fun bb x wz hJ hbb hw K hK => ?_⟩;clear hbb hw;simp only [actA] at hK |-;go_simp;refine (rof_any (b : Int) wz (by omega) (by omega)).mono ?_;rintro e w2 ⟨v, rfl, hv, hb⟩;exact hK.out _ _ (hJ.call (i := 7) (by decide) (Z := fun _ => False) (fun _ => hv) (fun k hk => hk.elim) hb)
  ·refine ⟨_, rfl, fun bb x wz hJ hbb hw K hK => ?_⟩;clear hbb hw;simp only [actA] at hK |-;go_simp;exact hK.out _ _ (hJ.var (W' := wz.alloc (.cells #[.bool false, .slice none 0 0] 33)) (Vx.new0 (w := wz) rfl) (below_new _ _))
 intro bb x wz hbb hJ;obtain ⟨Z, hRR, -, -⟩ := hJ.pr 7 (by decide) (hbb 7 (by decide));obtain ⟨B5, hx8, hB5, hV5⟩ := hJ.pj (hbb 8 (by decide));have hbz := hJ.bl;have hv := hRR rfl;clear hbb hJ hRR;obtain ⟨s1, a1, n1, c1, hx7⟩ := hv.shape;rw [hx7] at hv;simp only [actM, hx8, hx7];clear hx8 hx7;have hHeld : (fun w' : World => w'.cell? ⟨w.heap.size, 2, none⟩ = some (.slice aP f.P.length cP) /\ w'.cell? ⟨w.heap.size, 3, none⟩ = some (.slice aR f.R.length cR) /\ w'.cell? ⟨w.heap.size, 4, none⟩ = some (.int .i64 (f.B : Int))) wz := ⟨keepc hbz p2, keepc hbz p3, keepc hbz p4⟩;obtain ⟨y1, y2, y3, y4, z0, z1, z2, z3, -⟩ := hV5.cells;refine pL 9 rfl ?_;(refine oL 10 rfl fun K hK => tL ?_; go_simp);(go_wp2_with fail; refine xL hK (tL ?_); clear hK);refine dT ?_;clear z0 z1 z2 z3 hHeld;have hlt5 := hV5.lt;have hWs : W.heap.size = w.heap.size + 1 := hs;have hbb := (ButS.set wz B5 0 (.bool s1)).trans (ButS.set _ B5 1 (.slice a1 n1 c1));have hV := Vx.put hV5.va hv;have hb6 : Below W.heap.size W ((wz.setCell ⟨B5, 0, none⟩ (.bool s1)).setCell ⟨B5, 1, none⟩ (.slice a1 n1 c1)) := ButS.below hbz hbb hbz.size (fun g e => by omega);replace p2 := keepc hb6 p2;replace p3 := keepc hb6 p3;have HR6 := Lib.hid (HR.out.up hb6);have HB6 := Lib.hid (Bl.up HBL.out hb6);clear hbz hbb hb6 hV5 hv HR HBL p0 p1 p4 hlt5;generalize (wz.setCell ⟨B5, 0, none⟩ (.bool s1)).setCell ⟨B5, 1, none⟩ (.slice a1 n1 c1) = w6 at *;have HV := Lib.hid hV;have HFM := Lib.hid (fun i => hgh_le f hf hm i);have HZ := Lib.hid (hgh_zero f);have HA := Lib.hid (hgh_all f);clear hV;obtain ⟨N, hN⟩ : ∃ N, f.R.length = N := ⟨_, rfl⟩;have HN := Lib.hid hN;have hN65 : N <= 65536 := by omega
 rw [hN] at p3 HR6 |-;clear hN;go_wp2_with fail
 go_loopw [4, 6, 7] (fun s4 s6 s7 wr => ∃ i : Nat, s6 = .int .i64 (i : Int) /\ i <= N /\ s4 = .int .i64 (hgh f i : Nat) /\ Below w6.heap.size w6 wr)
  (fun _ s6 _ _ => N - (intOf s6).toNat)
 case atStart => exact ⟨0, rfl, Nat.zero_le _, by rw [HZ.out], Below.refl _ _⟩
 case round =>
  obtain ⟨i, rfl, hi, rfl, hbl⟩ := hrel;have b3 := keepc hbl p3;by_cases hlt : i < N
  ·have hlR : i < (zP f.R).length := by rw [zP_len, HN.out]; exact hlt
   have hlF : i < f.R.length := by rw [HN.out]; exact hlt
   have hstep := hgh_step f hlF;have hB7 := Bl.up HB6.out hbl;obtain ⟨ba, offa, rfl, hba, hla⟩ := (HR6.out.up hbl).at hlR;obtain ⟨s2, a2, n2, c2, q0, q1, q2, hx⟩ := hla.pow hlR;rw [zP_getD] at q2 hx;have hmem : f.R.getD i (0, 0) ∈ f.R := by rw [List.getD_eq_getElem?_getD, List.getElem?_eq_getElem hlF]; exact List.getElem_mem _
   have hr2 := hf.incR.1 _ hmem;have hMr := hm.dvd hf.n1 (hf.kdvd (by rw [ks_append]; exact List.mem_append_right _ (ks_mem hmem)));obtain ⟨x, hx0⟩ : ∃ x, f.R.getD i (0, 0) = x := ⟨_, rfl⟩;rw [hx0] at q2 hx hr2 hMr hstep;rw [HBS.out] at hstep;have hle := HFM.out i;have hle2 := HFM.out (i + 1);rw [hstep] at hle2;have HST := Lib.hid hstep;have HMR := Lib.hid hMr;have HX := Lib.hid hx;have HBL := Lib.hid hbl;have HB7 := Lib.hid hB7;obtain ⟨H, hH⟩ : ∃ H, hgh f i = H := ⟨_, rfl⟩;obtain ⟨lg, hlg⟩ : ∃ lg, lgN b x.1 = lg := ⟨_, rfl⟩;rw [hH] at hle hle2 |-;rw [hlg] at hle2;have HH := Lib.hid hH;have HLG := Lib.hid hlg;clear hstep hMr hx hbl hB7 hH hlg hx0 hmem hla hlF hlR q2;have i0 : (0 : Int) <= (i : Int) := by omega
   have i1 : (i : Int) < (N : Int) := by omega
   obtain ⟨y1, y2, y3, y4, z0, z1, -, -, hy⟩ := (HV.out.up HBL.out).cells;have hV8 := Vx.new (w := wr) (T := 33) rfl hy;have hbn := below_new wr (.cells #[.bool y1, .slice y2 y3 y4] 33);go_upto_region 6 with fail;replace b3 := keepc hbn b3;replace q0 := keepc hbn q0;replace q1 := keepc hbn q1;have HX8 := Lib.hid (HX.out.up hbn);have HBL8 := Lib.hid (Bl.up HBL.out hbn);have HV8 := Lib.hid hV8;clear hV8 hbn HX HBL z0 z1 hy;generalize wr.alloc (.cells #[.bool y1, .slice y2 y3 y4] 33) = w8 at *;generalize wr.heap.size = Bp at *
   go_loopw [4, 7] (fun s4 s7 wq => ∃ (k B : Nat), s4 = .int .i64 ((H + k : Nat) : Int) /\ s7 = .pointer (some ⟨B, 0, none⟩) /\ b ^ k <= x.1 /\ k <= lg /\ Vx wq B ((b ^ (k + 1) : Nat) : Int) /\ Below w8.heap.size w8 wq)
    (fun s4 _ _ => H + lg - (intOf s4).toNat)
   case atStart => exact ⟨0, Bp, rfl, rfl, by rw [Nat.pow_zero]; omega, Nat.zero_le _, by rw [Nat.pow_one]; exact HV8.out, Below.refl _ _⟩
   case round =>
    obtain ⟨k, B, rfl, rfl, hbk, hkl, hVp, hbq⟩ := hrel;have hszp := Nat.le_trans (szP_md HMR.out hbs.1 hbk) (show 4096 <= 1099511627776 by decide);have hszx := Nat.le_trans (HMR.out.sz (Nat.le_refl _)) (show 4096 <= 1099511627776 by decide);have r3 := keepc hbq b3;have r0 := keepc hbq q0;have r1 := keepc hbq q1;have hxq := HX8.out.up hbq;obtain ⟨y1, y2, y3, y4, z0, z1, -, -, hy⟩ := hVp.cells;have HBQ := Lib.hid hbq;have HVP := Lib.hid hVp;have HBK := Lib.hid hbk;have HYI := Lib.hid hy;have HXQ := Lib.hid hxq;clear hbq hVp hbk hy hxq;go_upto_region 6 with fail;refine wp_region_T (by kernel_rfl) [] (S := fun w' => w'.cell? ⟨w.heap.size, 3, none⟩ = some (.slice (some ⟨ba, offa, none⟩) N cR) /\ w'.cell? ⟨ba, offa + i * 3, none⟩ = some (.bool s2) /\ w'.cell? ⟨ba, offa + i * 3 + 1, none⟩ = some (.slice a2 n2 c2) /\ w'.cell? ⟨B, 0, none⟩ = some (.bool y1) /\ w'.cell? ⟨B, 1, none⟩ = some (.slice y2 y3 y4)) ⟨r3, r0, r1, z0, z1⟩ (fun hHeld => ?_);refine kL 0 rfl ?_;refine pL 1 rfl ?_;refine kL 2 rfl ?_;(refine pL 3 rfl ?_; refine pL 4 rfl ?_; refine pL 5 rfl ?_)
    refine kL 6 rfl ?_;(refine oL 7 rfl fun K hK => tL ?_; go_simp);refine (rcmp_any _ _ ((b ^ (k + 1) : Nat) : Int) (x.1 : Int) _ HYI.out.drew HXQ.out.drew (Nat.le_trans hszp (by decide)) (Nat.le_trans hszx (by decide))).mono ?_;rintro e w9 ⟨rfl, hb9⟩;have hbq9 := Bl.up (Bl.drew HBQ.out) hb9;replace r3 := keepc hb9 (cellD r3);replace r0 := keepc hb9 (cellD r0);replace r1 := keepc hb9 (cellD r1);replace z0 := keepc hb9 (cellD z0);replace z1 := keepc hb9 (cellD z1);have HBQ9 := Lib.hid hbq9;have HVP9 := Lib.hid (HVP.out.drew.up hb9)
    have hcm : cmpI ((b ^ (k + 1) : Nat) : Int) (x.1 : Int) <= 0 ↔ b ^ (k + 1) <= x.1 := by
     generalize b ^ (k + 1) = m;unfold cmpI;split
     ·constructor <;> intro <;> omega
     ·split <;> constructor <;> intro <;> omega
    generalize cmpI ((b ^ (k + 1) : Nat) : Int) (x.1 : Int) = cc at *;have HCM := Lib.hid hcm;clear hcm hb9 hbq9 HBQ HVP HYI HXQ hszx;(go_wp2_with fail; clear hHeld; refine nxL hK ⟨r3, r0, r1, z0, z1⟩ fun hHeld => tL ?_; clear hK);(refine pL 8 rfl ?_)
    refine dT ?_;clear hHeld z0 z1;by_cases hc : cc <= 0
    ·have hk2 := HCM.out.1 hc;have hk1 : k + 1 <= lg := by rw [<- HLG.out]; exact le_lgN hbs.2 (by omega) hk2
     have w1 : IntKind.i64.wrap ((H : Int) + (k : Int) + 1) = (H : Int) + (k : Int) + 1 := by rw [IntKind.wrap_i64]; omega
     have HK2 := Lib.hid hk2;clear hk2;obtain ⟨y1, y2, y3, y4, z0, z1, -, -, hy⟩ := HVP9.out.cells;have hVn := Vx.new (w := w9) (T := 33) rfl hy;have hbn := below_new w9 (.cells #[.bool y1, .slice y2 y3 y4] 33);go_upto_region 7 with fail;have HBQn := Lib.hid (Bl.up HBQ9.out hbn);have HBQs := Lib.hid HBQ9.out.size;have HVn := Lib.hid hVn;clear z0 z1 hy hVn hbn HBQ9 HVP9;generalize w9.alloc (.cells #[.bool y1, .slice y2 y3 y4] 33) = w10 at *;generalize w9.heap.size = Bn at *;obtain ⟨y1, y2, y3, y4, z0, z1, -, -, hy⟩ := HVn.out.cells;obtain ⟨o1, o2, o3, o4, g0, g1, -, -, hv⟩ := ((HV.out.up HBL8.out).up HBQn.out).cells;have hszb : sz (b : Int) <= 1099511627776 := Nat.le_trans ((Md.small (n := b) (by omega)).sz (Nat.le_refl _)) (by decide);go_wp2_with fail;refine (rmul_any _ _ ((b ^ (k + 1) : Nat) : Int) (b : Int) w10 hy hv hszp hszb).mono ?_;rintro e w11 ⟨v, rfl, hv11, hb11⟩;rw [show ((b ^ (k + 1) : Nat) : Int) * (b : Int) = ((b ^ (k + 1 + 1) : Nat) : Int) by rw [Nat.pow_succ b (k + 1)]; simp] at hv11;obtain ⟨s11, a11, n11, c11, rfl⟩ := hv11.shape;have hVm := HVn.out.up hb11;have HBQm := Lib.hid (Bl.up HBQn.out hb11);obtain ⟨u1, u2, u3, u4, d0, d1, d2, d3, -⟩ := hVm.cells;have HVm := Lib.hid hVm;have HV11 := Lib.hid hv11;clear z0 z1 hy g0 g1 hv hVm hv11 hb11 HBQn HVn hszp hszb;go_wp2_with fail;refine ⟨⟨k + 1, Bn, by go_num, rfl, HK2.out, hk1, Vx.put HVm.out.va HV11.out, Bl.st HBQm.out HBQs.out⟩, by simp [intOf]; omega⟩
    ·have hk2 : x.1 < b ^ (k + 1) := Nat.lt_of_not_le (fun h => hc (HCM.out.2 h));have hk1 : lg = k := by rw [<- HLG.out]; exact lgN_uniq hbs.2 (by omega) HBK.out hk2
     subst hk1;have HBF := Lib.hid (Bl.up HBL8.out HBQ9.out);clear hk2 hszp HBQ9 HVP9;go_wp2_with fail;refine ⟨⟨i + 1, by go_num, by omega, ?_, HBF.out⟩, by simp [intOf]; omega⟩;rw [HST.out, HH.out, HLG.out]; simp
  ·obtain rfl : i = N := by omega
   have HBF := Lib.hid (Bl.up HB6.out hbl);replace p2 := keepc hbl p2;replace p3 := keepc hbl p3;have hhi : hgh f i = highN f := by rw [<- HN.out]; exact HA.out
   rw [hhi];have hlow : f.P.length + i = lowN f := by rw [<- HN.out]; rfl
   have w1 : IntKind.i64.wrap ((f.P.length : Int) + (i : Int)) = ((lowN f : Nat) : Int) := by rw [<- hlow, IntKind.wrap_i64]; have := HN.out; omega
   have hni := HN.out;clear hbl hhi HN HZ HA HFM HB6 hlow hni hLen hb5;go_wp2_with fail;go_ret2
   exact ⟨rfl, HBF.out⟩
end Go.Proofs.YtblebpmlkpobnaaGreat
