/-
  The reference of factor: Refines, where it refines.
-/
import Derived.Test.YtblebpmlkpobnaaGreatFH1
import Derived.Test.YtblebpmlkpobnaaGreatFP1
import Derived.Test.YtblebpmlkpobnaaGreatFS
import Derived.Test.YtblebpmlkpobnaaGreatFN
import Derived.Test.YtblebpmlkpobnaaGreatFF
set_option linter.unusedSimpArgs false
set_option linter.unusedVariables false
set_option maxRecDepth 100000
set_option maxHeartbeats 4000000
namespace Go.Proofs.YtblebpmlkpobnaaGreat
open Go.RowKit
attribute [local go_sem ↓] Go.wp_at_zero Go.wp_at_succ
theorem cof_pos {d n : Nat} (hd : 2 <= d) (hn : 1 <= n) : 1 <= cof d n /\ cof d n <= n := by
 obtain ⟨h1, -, h3⟩ := mlt_spec hd hn;exact ⟨h3, Nat.div_le_self _ _⟩
theorem strip_snoc (n : Nat) {l : List Nat} {i : Nat} (hi : i < l.length) : strip n (l.take (i + 1)) = cof (l.getD i 0) (strip n (l.take i)) := by
 unfold strip;rw [List.take_succ_eq_append_getElem hi, List.foldl_append, List.getD_eq_getElem?_getD, List.getElem?_eq_getElem hi];rfl
theorem strip_le {l : List Nat} (hl : ∀ x ∈ l, 2 <= x) : ∀ {n : Nat}, 1 <= n -> 1 <= strip n l /\ strip n l <= n := by
 induction l with
 | nil => intro n hn; exact ⟨hn, Nat.le_refl _⟩
 | cons x l ih =>
   intro n hn;have h1 := cof_pos (hl x (by simp)) hn;have h2 := ih (fun y hy => hl y (by simp [hy])) h1.1;exact ⟨h2.1, Nat.le_trans h2.2 h1.2⟩
theorem rrefines_any (va vb : Value) (f g : Fn) (w : World) (ha : Fx w va (zF f)) (hb : Fx w vb (zF g)) (hf : RightN f) (hg : RightN g) (hm : Md f.N) (hr : RefinesN f g) :
  Calls Tryz.prog 20 #[va, vb] w fun e w' => e = .returned (.bool true) /\ Below w.heap.size w w' := by
 have hmg : Md g.N := by rw [<- hr.1]; exact hm
 have hlf := hf.len hm;have hlg := hg.len hmg;have hszN := Nat.le_trans (hm.sz (Nat.le_refl _)) (show 4096 <= 4611686018427387904 by decide);obtain ⟨W, s1, a1, n1, c1, aP1, cP1, aR1, cR1, s2, a2, n2, c2, aP2, cP2, aR2, cR2, rfl, rfl, hW, bl, hs, hF, hG⟩ := boxF2 w ha hb;clear ha hb;go_enter Tryz.func20, Tryz.ntmps20
 go_upto_region 1 with fail;rw [<- hW];clear hW;obtain ⟨p0, p1, p2, p3, p4⟩ := hF.cells;obtain ⟨q0, q1, q2, q3, q4⟩ := hG.cells;have hN1 : It W (.agg #[.bool s1, .slice a1 n1 c1]) (f.N : Int) := hF.hN;have hN2 : It W (.agg #[.bool s2, .slice a2 n2 c2]) (f.N : Int) := by have := hG.hN; rw [hr.1]; exact this
 have HF := Lib.hid hF;have HG := Lib.hid hG;have HL := Lib.hid bl;clear hF hG bl;go_wp2_with fail;refine (rcmp_any _ _ (f.N : Int) (f.N : Int) W hN1 hN2 hszN hszN).mono ?_;rintro e w1 ⟨rfl, hb1⟩;rw [show cmpI (f.N : Int) (f.N : Int) = 0 by rw [cmpI_zero]];replace HF := Lib.hid (HF.out.up hb1);replace HG := Lib.hid (HG.out.up hb1);replace HL := Lib.hid (Bl.up HL.out hb1);clear p0 p1 p2 p3 p4 q0 q1 q2 q3 q4 hN1 hN2 hb1;obtain ⟨p0, p1, p2, p3, p4⟩ := HF.out.cells;obtain ⟨q0, q1, q2, q3, q4⟩ := HG.out.cells;have hfx := HF.out.fx;have hgx := HG.out.fx;have HFX := Lib.hid hfx;have HGX := Lib.hid hgx;have eP1 : (zF f).P ++ (zF f).R = zP (f.P ++ f.R) := (zP_append _ _).symm;have eP2 : (zF g).P ++ (zF g).R = zP (g.P ++ g.R) := (zP_append _ _).symm;have HE1 := Lib.hid eP1;have HE2 := Lib.hid eP2;have hl1 : (zF f).P.length <= 65536 /\ (zF f).R.length <= 65536 := by show (zP f.P).length <= _ /\ (zP f.R).length <= _; rw [zP_len, zP_len]; omega
 have hl2 : (zF g).P.length <= 65536 /\ (zF g).R.length <= 65536 := by show (zP g.P).length <= _ /\ (zP g.R).length <= _; rw [zP_len, zP_len]; omega
 have HL1 := Lib.hid hl1;have HL2 := Lib.hid hl2;clear hfx hgx eP1 eP2 hl1 hl2 HF HG;go_upto_region 3 with fail;refine wp_region_T (by kernel_rfl) [] (S := fun w' => w'.cell? ⟨w.heap.size, 0, none⟩ = some (.bool s1) /\ w'.cell? ⟨w.heap.size, 1, none⟩ = some (.slice a1 n1 c1) /\ w'.cell? ⟨w.heap.size, 2, none⟩ = some (.slice aP1 (zF f).P.length cP1) /\ w'.cell? ⟨w.heap.size, 3, none⟩ = some (.slice aR1 (zF f).R.length cR1) /\ w'.cell? ⟨w.heap.size, 4, none⟩ = some (.int .i64 (zF f).B) /\ w'.cell? ⟨w.heap.size + 1, 0, none⟩ = some (.bool s2) /\ w'.cell? ⟨w.heap.size + 1, 1, none⟩ = some (.slice a2 n2 c2) /\ w'.cell? ⟨w.heap.size + 1, 2, none⟩ = some (.slice aP2 (zF g).P.length cP2) /\ w'.cell? ⟨w.heap.size + 1, 3, none⟩ = some (.slice aR2 (zF g).R.length cR2) /\ w'.cell? ⟨w.heap.size + 1, 4, none⟩ = some (.int .i64 (zF g).B)) ⟨p0, p1, p2, p3, p4, q0, q1, q2, q3, q4⟩ (fun hHeld => ?_);(refine kL 0 rfl ?_; refine kL 2 rfl ?_)
 (refine oL 1 rfl fun K hK => tL ?_; go_simp);refine (rall_any _ (zF f) _ (HFX.out.up (Below.refl _ _).drew) (Nat.le_trans HL1.out.1 (by decide)) (Nat.le_trans HL1.out.2 (by decide))).mono ?_;rintro e w2 ⟨vl, rfl, hvl, hb2⟩;rw [HE1.out] at hvl;replace p0 := keepc hb2 (cellD p0);replace p1 := keepc hb2 (cellD p1);replace p2 := keepc hb2 (cellD p2);replace p3 := keepc hb2 (cellD p3);replace p4 := keepc hb2 (cellD p4);replace q0 := keepc hb2 (cellD q0);replace q1 := keepc hb2 (cellD q1);replace q2 := keepc hb2 (cellD q2);replace q3 := keepc hb2 (cellD q3);replace q4 := keepc hb2 (cellD q4);replace HGX := Lib.hid ((HGX.out.up (Below.refl _ _).drew).up hb2);replace HL := Lib.hid (Bl.up (Bl.drew HL.out) hb2);have HVL := Lib.hid hvl.sr;clear hvl hb2 HFX;(go_wp2_with fail; clear hHeld; refine nxL hK ⟨p0, p1, p2, p3, p4, q0, q1, q2, q3, q4⟩ fun hHeld => tL ?_; clear hK);(refine oL 3 rfl fun K hK => tL ?_; go_simp);refine (rall_any _ (zF g) _ HGX.out (Nat.le_trans HL2.out.1 (by decide)) (Nat.le_trans HL2.out.2 (by decide))).mono ?_;rintro e w3 ⟨vm, rfl, hvm, hb2⟩;rw [HE2.out] at hvm;replace p0 := keepc hb2 (p0);replace p1 := keepc hb2 (p1);replace p2 := keepc hb2 (p2);replace p3 := keepc hb2 (p3);replace p4 := keepc hb2 (p4);replace q0 := keepc hb2 (q0);replace q1 := keepc hb2 (q1);replace q2 := keepc hb2 (q2);replace q3 := keepc hb2 (q3);replace q4 := keepc hb2 (q4);replace HL := Lib.hid (Bl.up HL.out hb2);replace HVL := Lib.hid (HVL.out.up hb2);have HVM := Lib.hid hvm.sr;clear hvm hb2 HGX;(go_wp2_with fail; clear hHeld; refine nxL hK ⟨p0, p1, p2, p3, p4, q0, q1, q2, q3, q4⟩ fun hHeld => tL ?_; clear hK);(refine kL 4 rfl ?_; refine kL 5 rfl ?_)
 refine dT ?_;clear hHeld p0 p1 p2 p3 p4 q0 q1 q2 q3 q4;have hkeys : ∀ x ∈ ks (f.P ++ f.R), 2 <= x := hf.cob.1
 have hone : ∀ p ∈ g.P ++ g.R, 1 <= p.1 /\ Md p.1 := fun p hp => by
  have h2 := hg.cob.1 p.1 (ks_mem hp);exact ⟨by omega, hmg.mono (hg.le hp)⟩
 have hkm : ∀ x ∈ ks (f.P ++ f.R), Md x := fun x hx => hm.mono (Nat.le_of_dvd hf.n1 (hf.kdvd hx));have hst := hr.2;obtain ⟨l, hl⟩ : ∃ l, f.P ++ f.R = l := ⟨_, rfl⟩;obtain ⟨m, hmm⟩ : ∃ m, g.P ++ g.R = m := ⟨_, rfl⟩;have hll : l.length <= 65536 := by rw [<- hl, List.length_append]; exact hlf
 have hml : m.length <= 65536 := by rw [<- hmm, List.length_append]; exact hlg
 rw [hl] at hkeys hkm hst HVL;rw [hmm] at hone hst HVM;obtain ⟨al, cl, rfl, -⟩ := id HVL.out;obtain ⟨am, cm, rfl, -⟩ := id HVM.out;rw [zP_len] at HVL HVM |-;rw [zP_len];have HK := Lib.hid hkeys;have HKM := Lib.hid hkm;have HON := Lib.hid hone;have HST := Lib.hid hst;clear hkeys hkm hone hst hl hmm hlf hlg hszN HE1 HE2 HL1 HL2 hs;go_wp2_with fail
 go_loopw [7, 8, 9] (fun s7 s8 s9 wr => ∃ i : Nat, s7 = .int .i64 (i : Int) /\ i <= m.length /\ Below w3.heap.size w3 wr)
  (fun s7 _ _ _ => m.length - (intOf s7).toNat)
 case atStart => exact ⟨0, rfl, Nat.zero_le _, Below.refl _ _⟩
 case round =>
  obtain ⟨i, rfl, hi, hbl⟩ := hrel;by_cases hlt : i < m.length
  ·have hlm : i < (zP m).length := by rw [zP_len]; exact hlt
   obtain ⟨bm, offm, rfl, hbm, hla⟩ := (HVM.out.up hbl).at hlm;obtain ⟨se, ae, ne, ke, x0, x1, -, hx⟩ := hla.pow hlm;rw [zP_getD] at hx;have hmem : m.getD i (0, 0) ∈ m := by rw [List.getD_eq_getElem?_getD, List.getElem?_eq_getElem hlt]; exact List.getElem_mem _
   have hx1 := HON.out _ hmem;have hxs := HST.out _ hmem;obtain ⟨x, hx0⟩ : ∃ x, m.getD i (0, 0) = x := ⟨_, rfl⟩;rw [hx0] at hx hx1 hxs;have HX1 := Lib.hid hx1;have HXS := Lib.hid hxs;have hV := Vx.new (w := wr) (T := 33) rfl hx;have hbn := below_new wr (.cells #[.bool se, .slice ae ne ke] 33);have HBs := Lib.hid hbl.size;have HBL := Lib.hid (Bl.up hbl hbn);have HV := Lib.hid hV;have i0 : (0 : Int) <= (i : Int) := by omega
   have i1 : (i : Int) < (m.length : Int) := by omega
   clear hla hx hx1 hxs hx0 hmem hV hbn hbl hlm;go_upto_region 8 with fail;clear x0 x1;generalize wr.alloc (.cells #[.bool se, .slice ae ne ke] 33) = w4 at *;have hv3 : w3.heap.size <= wr.heap.size := HBs.out;generalize wr.heap.size = Bv at *;have HV3 := Lib.hid hv3;have HBv := Lib.hid HV.out.lt;go_wp2_with fail
   go_loopw [9] (fun s9 wq => ∃ k : Nat, s9 = .int .i64 (k : Int) /\ k <= l.length /\ Vx wq Bv (strip x.1 ((ks l).take k) : Nat) /\ ButS (fun g => g = Bv) w4 wq)
    (fun s9 _ => l.length - (intOf s9).toNat)
   case atStart => exact ⟨0, rfl, Nat.zero_le _, by rw [List.take_zero]; exact HV.out, ButS.refl _ _⟩
   case round =>
    obtain ⟨k, rfl, hk, hV, hbs⟩ := hrel;have hnB : ∀ g, g = Bv -> NoW w4 g := fun g e => by subst e; obtain ⟨_, _, _, _, _, _, h⟩ := HV.out; exact h
    have hsl := strip_le (l := (ks l).take k) (fun y hy => HK.out y (List.mem_of_mem_take hy)) HX1.out.1;by_cases hkl : k < l.length
    ·have hkz : k < (zP l).length := by rw [zP_len]; exact hkl
     have hkk : k < (ks l).length := by rw [ks_len]; exact hkl
     have hvl := (HVL.out.up HBL.out).fr hbs hnB (fun hl0 g hg e => by
      subst e;have h1 := HVL.out.lt hl0 g hg;have h2 := HV3.out;omega)
     obtain ⟨bl, offl, rfl, hbl', hla⟩ := hvl.at hkz;obtain ⟨sl, xl, nl, kl, y0, y1, -, hy⟩ := hla.pow hkz;rw [zP_getD] at hy;have hymem : (l.getD k (0, 0)).1 ∈ ks l := ks_mem (by rw [List.getD_eq_getElem?_getD, List.getElem?_eq_getElem hkl]; exact List.getElem_mem _);have hy2 := HK.out _ hymem;have hyM := HKM.out _ hymem;have hsn := strip_snoc x.1 hkk;have hge : (ks l).getD k 0 = (l.getD k (0, 0)).1 := by simp [ks, List.getD_eq_getElem?_getD, hkl]
     rw [hge] at hsn;obtain ⟨y, hy0⟩ : ∃ y, (l.getD k (0, 0)).1 = y := ⟨_, rfl⟩;rw [hy0] at hy hy2 hyM hsn;obtain ⟨n, hn⟩ : ∃ n, strip x.1 ((ks l).take k) = n := ⟨_, rfl⟩;rw [hn] at hV hsl hsn;have hsz1 := Nat.le_trans ((HX1.out.2.mono hsl.2).sz (Nat.le_refl _)) (show 4096 <= 1099511627776 by decide);have hsz2 := Nat.le_trans (hyM.sz (Nat.le_refl _)) (show 4096 <= 1099511627776 by decide);obtain ⟨r1, r2, r3, r4, z0, z1, -, -, hvn⟩ := hV.cells;have HV2 := Lib.hid hV;have HBS := Lib.hid hbs;have HSN := Lib.hid hsn;have HY := Lib.hid hy;have HVN := Lib.hid hvn;clear hge hy0 hn hV hbs hsn hy hvn hyM hymem hla hvl hkk hkz hnB;have j0 : (0 : Int) <= (k : Int) := by omega
     have j1 : (k : Int) < (l.length : Int) := by omega
     go_upto_region 11 with fail;refine wp_region_T (by kernel_rfl) [10] (S := fun w' => w'.cell? ⟨Bv, 0, none⟩ = some (.bool r1) /\ w'.cell? ⟨Bv, 1, none⟩ = some (.slice r2 r3 r4) /\ w'.cell? ⟨bl, offl + k * 3, none⟩ = some (.bool sl) /\ w'.cell? ⟨bl, offl + k * 3 + 1, none⟩ = some (.slice xl nl kl)) ⟨z0, z1, y0, y1⟩ (fun hHeld => ?_);(refine kL 0 rfl ?_; refine kL 1 rfl ?_; refine kL 2 rfl ?_; refine kL 3 rfl ?_; refine kL 4 rfl ?_; refine kL 5 rfl ?_)
     (refine oL 6 rfl fun K hK => tL ?_; go_simp);refine (rtimes2_any _ _ n y _ (HVN.out.up (Below.refl _ _).drew) (HY.out.up (Below.refl _ _).drew) hsl.1 hy2 hsz1 hsz2).mono ?_;rintro e w6 ⟨v, rfl, hv, hb6⟩;obtain ⟨s6, a6, n6, c6, rfl⟩ := hv.shape;replace z0 := keepc hb6 (cellD z0);replace z1 := keepc hb6 (cellD z1);replace y0 := keepc hb6 (cellD y0);replace y1 := keepc hb6 (cellD y1);have hV6 := (HV2.out.up (Below.refl _ _).drew).up hb6;have hB6 := HBS.out.dr.up hb6;obtain ⟨o1, o2, o3, o4, g0, g1, g2, g3, -⟩ := hV6.cells;have HV6 := Lib.hid hV6;have HB6 := Lib.hid hB6;have Hv := Lib.hid hv;clear hV6 hB6 hv hb6 HY HVN HV2 HBS;(go_wp2_with fail; clear hHeld; refine nxL hK ⟨z0, z1, y0, y1⟩ fun hHeld => tL ?_; clear hK);(refine pL 7 rfl ?_; refine pL 8 rfl ?_; refine pL 9 rfl ?_)
     (refine oL 10 rfl fun K hK => tL ?_; go_simp);(go_wp2_with fail; refine xL hK (tL ?_); clear hK);refine dT ?_;clear z0 z1 y0 y1 g0 g1 g2 g3;go_wp2_with fail;refine ⟨⟨k + 1, by go_num, by omega, by rw [HSN.out]; exact Vx.put HV6.out.va Hv.out, HB6.out.trans ((ButS.set w6 Bv 0 (.bool s6)).trans (ButS.set _ Bv 1 (.slice a6 n6 c6)))⟩, by simp [intOf]; omega⟩
    ·obtain rfl : k = l.length := by omega
     have e1 : strip x.1 ((ks l).take l.length) = 1 := by
      rw [show l.length = (ks l).length from (ks_len l).symm, List.take_length];exact HXS.out
     rw [e1] at hV;obtain ⟨r1, r2, r3, r4, z0, z1, -, -, hvn⟩ := hV.cells;have hbw : Below w3.heap.size w3 _ := ButS.below HBL.out hbs (by have := HV3.out; have := HBv.out; omega) (fun g e => by have := HV3.out; omega);have HBW := Lib.hid hbw;have HVN := Lib.hid (show It _ (.agg #[.bool r1, .slice r2 r3 r4]) 1 from hvn);clear e1 hsl hV hbs hvn hbw hnB;go_upto_region 12 with fail;refine wp_region_T (by kernel_rfl) [] (S := fun w' => w'.cell? ⟨Bv, 0, none⟩ = some (.bool r1) /\ w'.cell? ⟨Bv, 1, none⟩ = some (.slice r2 r3 r4)) ⟨z0, z1⟩ (fun hHeld => ?_);refine kL 0 rfl ?_;(refine oL 1 rfl fun K hK => tL ?_; go_simp);refine (rone_any _).mono ?_;rintro e w6 ⟨v, rfl, hv, hb6⟩;replace z0 := keepc hb6 (cellD z0);replace z1 := keepc hb6 (cellD z1);replace HVN := Lib.hid ((HVN.out.up (Below.refl _ _).drew).up hb6);replace HBW := Lib.hid (Bl.up (Bl.drew HBW.out) hb6);clear hb6;(go_wp2_with fail; clear hHeld; refine nxL hK ⟨z0, z1⟩ fun hHeld => tL ?_; clear hK);(refine oL 2 rfl fun K hK => tL ?_; go_simp);refine (rcmp_any _ _ 1 1 w6 HVN.out hv (by decide) (by decide)).mono ?_;rintro e w7 ⟨rfl, hb6⟩;rw [show cmpI 1 1 = 0 from rfl];replace z0 := keepc hb6 z0;replace z1 := keepc hb6 z1;replace HBW := Lib.hid (Bl.up HBW.out hb6);clear hb6 hv;(go_wp2_with fail; clear hHeld; refine nxL hK ⟨z0, z1⟩ fun hHeld => tL ?_; clear hK);(refine kL 3 rfl ?_)
     refine dT ?_;clear hHeld z0 z1;go_wp2_with fail;refine ⟨⟨i + 1, by go_num, by omega, HBW.out⟩, by simp [intOf]; omega⟩
  ·have HF := Lib.hid (Bl.up HL.out hbl);clear hbl;go_wp2_with fail;go_ret
   exact ⟨rfl, HF.out⟩
end Go.Proofs.YtblebpmlkpobnaaGreat
