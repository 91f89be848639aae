/-
  The reference of factor: Divisors.
-/
import Derived.Test.YtblebpmlkpobnaaGreatFZZA
import Derived.Test.YtblebpmlkpobnaaGreatFS
import Derived.Test.YtblebpmlkpobnaaGreatFM
set_option linter.unusedSimpArgs false
set_option linter.unusedVariables false
set_option maxRecDepth 100000
set_option maxHeartbeats 8000000
namespace Go.Proofs.YtblebpmlkpobnaaGreat
open Go.RowKit
attribute [local go_sem ↓] Go.wp_at_zero Go.wp_at_succ
theorem rdivisors_none (va : Value) (f : Fz) (w : World) (ha : Fx w va f) (hR : 0 < f.R.length) :
  Calls Tryz.prog 48 #[va] w fun e w' => e = .returned (.tuple #[.slice none 0 0, .int .i64 6]) /\ Below w.heap.size w w' := by
 obtain ⟨W, s, a, n, c, aP, cP, aR, cR, rfl, hW, bl, hs, hF⟩ := boxF w ha;clear ha;go_enter Tryz.func48, Tryz.ntmps48
 go_upto_region 1 with fail;rw [<- hW];clear hW;obtain ⟨-, -, -, p3, -⟩ := hF.cells;have i0 : (f.R.length : Int) > 0 := by omega
 go_wp2_with fail;refine bodyPost_ret (results_tmp2 rfl _ _ _) rfl ?_;exact ⟨rfl, bl⟩
theorem dvS_front (out : List Nat) (p k : Nat) : ∃ r, dvS out p k = out ++ r := by
 induction k with
 | zero => exact ⟨[], by rw [dvS_zero, List.append_nil]⟩
 | succ k ih =>
   obtain ⟨r, hr⟩ := ih;exact ⟨r ++ out.map (· * p ^ (k + 1)), by rw [dvS_succ, hr, List.append_assoc]⟩
theorem dvS_getD {out : List Nat} {p k m : Nat} (r : List Nat) (h : m < out.length) : (dvS out p k ++ r).getD m 0 = out.getD m 0 := by
 obtain ⟨q, hq⟩ := dvS_front out p k;rw [hq, List.append_assoc, List.getD_eq_getElem?_getD, List.getElem?_append_left h, <- List.getD_eq_getElem?_getD]
theorem rdivisors_any (va : Value) (f : Fn) (w : World) (ha : Fx w va (zF f)) (hf : RightN f) (hm : Md f.N) (hR : f.R = []) :
  Calls Tryz.prog 48 #[va] w fun e w' => Below w.heap.size w w' /\
   ((4000 < cntN f.P /\ e = .returned (.tuple #[.slice none 0 0, .int .i64 2])) \/
     (cntN f.P <= 4000 /\ ∃ v m, e = .returned (.tuple #[v, .int .i64 0]) /\ Sr eI w' v (zI m) /\ m.Perm (dvL f.P [1]) /\ m.Pairwise (· <= ·))) := by
 obtain ⟨W, s, a, n, c, aP, cP, aR, cR, rfl, hW, bl, hs, hF⟩ := boxN w ha;have hDv := DvI.of hf hm hR;have HRR := Lib.hid hR;clear ha hR;go_enter Tryz.func48, Tryz.ntmps48
 go_upto_region 1 with fail;rw [<- hW];clear hW;obtain ⟨-, -, p2, p3, -, -, hP1, -⟩ := hF.cellsN;rw [HRR.out] at p3;replace p3 : W.cell? ⟨w.heap.size, 3, none⟩ = some (.slice aR 0 cR) := p3;obtain ⟨l, hl⟩ : ∃ l, f.P = l := ⟨_, rfl⟩;obtain ⟨N, hN⟩ : ∃ N, f.N = N := ⟨_, rfl⟩;rw [hl] at p2 hP1 hDv |-;rw [hN] at hDv;have HD := Lib.hid hDv;have HLE := Lib.hid hl;have HP := Lib.hid hP1;have HBL := Lib.hid bl;have hll : l.length <= 65536 := by have := hf.len hm; rw [hl] at this; omega
 clear hF hP1 hDv bl hf hm hl hN;have HPW := Lib.hid p2;go_wp2_with fail;refine (rone_any W).mono ?_;rintro e w1 ⟨v, rfl, hv, hb1⟩;obtain ⟨s1, a1, n1, c1, rfl⟩ := hv.shape;replace p2 := keepc hb1 p2;have hD1 := heap_alloc_new w1 (.cells #[.bool s1, .slice a1 n1 c1] 33);have hb2 := below_new w1 (.cells #[.bool s1, .slice a1 n1 c1] 33);have hO := So.one (E := eI) (base := W.heap.size) (cs := [.bool s1, .slice a1 n1 c1]) hD1 hb1.size ⟨s1, a1, n1, c1, rfl, hv.up hb2⟩;replace p2 := keepc hb2 p2;have HO := Lib.hid hO;have HB2 := Lib.hid (Bl.up hb1 hb2);clear hD1 hb2 hO hv hb1 p3;go_upto_region 4 with fail;generalize w1.alloc (.cells #[.bool s1, .slice a1 n1 c1] 33) = w3 at *;generalize w1.heap.size = G1 at *;go_wp2_with fail
 go_loopw [4, 5, 6, 7, 8, 9] (fun s4 s5 s6 s7 s8 s9 wr => ∃ i : Nat, s5 = .int .i64 (i : Int) /\ i <= l.length /\ So eI wr W.heap.size s4 (zI (dvL (l.take i) [1])) /\ cntN (l.take i) <= 4000 /\ Below W.heap.size W wr)
  (fun _ s5 _ _ _ _ _ => l.length - (intOf s5).toNat)
 case atStart => exact ⟨0, rfl, Nat.zero_le _, HO.out, (show (1 : Nat) <= 4000 by decide), HB2.out⟩
 case round =>
  obtain ⟨i, rfl, hi, hO, hc, hbr⟩ := hrel;obtain ⟨ao, co, rfl, hco⟩ := hO.slice;have hnl : (zI (dvL (l.take i) [1])).length = cntN (l.take i) := by rw [zI_len, dvL_len]; simp
  have HO := Lib.hid hO;have HR := Lib.hid hbr;replace p2 := keepc hbr HPW.out;by_cases hlt : i < l.length
  ·have hltz : i < (zP l).length := by rw [zP_len]; exact hlt
   obtain ⟨ba, offa, rfl, hba, hla⟩ := HP.out.at hltz;obtain ⟨sp, ap, np, kp, x0, x1, x2, hx⟩ := hla.pow hltz;rw [zP_getD] at x2 hx;have hcs := cnt_snoc hlt;have hds := dvL_snoc hlt [1];have hex := HD.out.exp hlt;have hky := HD.out.key hlt;have hsp := fun j => HD.out.szp (j := j) hlt;have hsy := fun y => HD.out.szy (i := i) (y := y);obtain ⟨q, hq⟩ : ∃ q, l.getD i (0, 0) = q := ⟨_, rfl⟩;rw [hq] at x2 hx hcs hds hex hky;simp only [hq] at hsp;obtain ⟨p, k⟩ := q;dsimp only at x2 hx hcs hds hex hky hsp;have y0 := x0;have y1 := x1;have y2 := x2;replace x0 := keepc hbr x0;replace x1 := keepc hbr x1;replace x2 := keepc hbr x2;obtain ⟨out, hout⟩ : ∃ out, dvL (l.take i) [1] = out := ⟨_, rfl⟩;rw [hout] at hnl HO hds hsy;obtain ⟨cn, hcn⟩ : ∃ cn, cntN (l.take i) = cn := ⟨_, rfl⟩;rw [hcn] at hnl hcs hc;rw [hnl] at HO;have HDS := Lib.hid hds;have HCS := Lib.hid hcs;have HKY := Lib.hid hky;have HSP := Lib.hid hsp;have HSY := Lib.hid hsy;have HX := Lib.hid hx;have HNL := Lib.hid hnl;have i0 : (0 : Int) <= (i : Int) := by omega
   have i1 : (i : Int) < (l.length : Int) := by omega
   rw [hout, hnl];clear hla hq hds hcs hky hsp hsy hx hO hbr hout hcn hnl hltz;have hw1 : IntKind.i64.wrap ((k : Int) + 1) = (k : Int) + 1 := by rw [IntKind.wrap_i64]; omega
   have hmul : (cn : Int) * ((k : Int) + 1) = ((cn * (k + 1) : Nat) : Int) := by rw [Int.natCast_mul]; rfl
   have hmle : cn * (k + 1) <= 4000 * 65537 := Nat.mul_le_mul hc (by omega);obtain ⟨mm, hmm⟩ : ∃ mm, cn * (k + 1) = mm := ⟨_, rfl⟩;rw [hmm] at hmul hmle;have hw2 : IntKind.i64.wrap (mm : Int) = (mm : Int) := by rw [IntKind.wrap_i64]; omega
   by_cases hbig : 4000 < mm
   ·have j1 : (mm : Int) > 4000 := by omega
    go_wp2_with fail;refine bodyPost_ret (results_tmp2 rfl _ _ _) rfl ?_;refine ⟨Bl.up HBL.out HR.out, .inl ⟨?_, rfl⟩⟩;have h1 := cnt_take l (i + 1);have h2 := HCS.out;rw [HLE.out];omega
   ·have j1 : ¬ (mm : Int) > 4000 := by omega
    have hcs2 : cntN (l.take (i + 1)) <= 4000 := by have := HCS.out; omega
    have HC2 := Lib.hid hcs2;have HX2 := Lib.hid (show W.cell? ⟨w.heap.size, 2, none⟩ = some (.slice (some ⟨ba, offa, none⟩) l.length cP) /\ W.cell? ⟨ba, offa + i * 3, none⟩ = some (.bool sp) /\ W.cell? ⟨ba, offa + i * 3 + 1, none⟩ = some (.slice ap np kp) /\ W.cell? ⟨ba, offa + i * 3 + 2, none⟩ = some (.int .i64 (k : Int)) from ⟨HPW.out, y0, y1, y2⟩);go_upto_region 9 with fail;clear j1 hw1 hmul hmle hw2 hcs2 hmm hbig x0 x1 x2 p2 y0 y1 y2;go_wp2_with fail;refine (rone_any wr).mono ?_;rintro e w4 ⟨v, rfl, hv, hb4⟩;obtain ⟨s1, a1, n1, c1, rfl⟩ := hv.shape;have hV := Vx.new (w := w4) (T := 33) rfl hv;have hb5 := Bl.alloc hb4 (.cells #[.bool s1, .slice a1 n1 c1] 33);have hlt7 := hb4.size;go_upto_region 10 with fail;have HV := Lib.hid hV;have HB5 := Lib.hid (Bl.up HR.out hb5);have HOU := Lib.hid (HO.out.up hb5);clear hv hV hb4 hb5;generalize w4.alloc (.cells #[.bool s1, .slice a1 n1 c1] 33) = w5 at *;generalize w4.heap.size = B7 at *;have hnO : ∀ g, (Value.slice ao cn co).ownBlock = some g -> g ≠ B7 := fun g hg e => by have := (HO.out.lt g hg).2; omega
    have HNO := Lib.hid hnO;have HL7 := Lib.hid (Nat.le_trans HR.out.size hlt7);clear hnO hlt7;generalize wr = wO at *;go_wp2_with fail
    go_loopw [4, 8, 9] (fun s4 s8 s9 wr => ∃ j : Nat, s8 = .int .i64 (j : Int) /\ j <= k /\ So eI wr W.heap.size s4 (zI (dvS out p j)) /\ (∀ g, s4.ownBlock = some g -> g ≠ B7) /\ Vx wr B7 ((p ^ j : Nat) : Int) /\ Below W.heap.size W wr)
     (fun _ s8 _ _ => k - (intOf s8).toNat)
    case atStart => exact ⟨0, rfl, Nat.zero_le _, by rw [dvS_zero]; exact HOU.out, HNO.out, by rw [Nat.pow_zero]; exact HV.out, HB5.out⟩
    case round =>
     clear HV HB5 HO HNO HOU;obtain ⟨j, rfl, hj, hSq, hnq, hVq, hbq⟩ := hrel;obtain ⟨aq, cq, rfl, hcq⟩ := hSq.slice;obtain ⟨g2, g0, g1, g3⟩ := HX2.out;replace g2 := keepc hbq g2;replace g0 := keepc hbq g0;replace g1 := keepc hbq g1;replace g3 := keepc hbq g3;have HSq := Lib.hid hSq;have HNq := Lib.hid hnq;have HBq := Lib.hid hbq;by_cases hjk : j < k
     ·have j1 : (j : Int) < (k : Int) := by omega
      have hs1 : sz (((p ^ j : Nat)) : Int) <= 1099511627776 := by
       cases j with
       | zero => exact Nat.le_trans (show sz ((p ^ 0 : Nat) : Int) <= 1 by rw [Nat.pow_zero]; decide) (by decide)
       | succ j => exact HSP.out j (by omega) (by omega)
      have hs2 := HSP.out 0 (by omega) (by omega);rw [Nat.zero_add, Nat.pow_one] at hs2;have hs3 := HSP.out j (by omega) (by omega);have HS1 := Lib.hid hs1;have HS2 := Lib.hid hs2;have HS3 := Lib.hid hs3;obtain ⟨s7, a7, n7, c7, f0, f1, f2, f3, hI⟩ := Vx.cells hVq;have HI := Lib.hid hI;have HVq := Lib.hid hVq;have HXq := Lib.hid (HX.out.up hbq);clear hSq hnq hVq hbq hcq hs1 hs2 hs3 hI;go_upto_region 13 with fail;refine wp_region_T (by kernel_rfl) [8] (S := fun w' => w'.cell? ⟨B7, 0, none⟩ = some (.bool s7) /\ w'.cell? ⟨B7, 1, none⟩ = some (.slice a7 n7 c7) /\ w'.cell? ⟨w.heap.size, 2, none⟩ = some (.slice (some ⟨ba, offa, none⟩) l.length cP) /\ w'.cell? ⟨ba, offa + i * 3, none⟩ = some (.bool sp) /\ w'.cell? ⟨ba, offa + i * 3 + 1, none⟩ = some (.slice ap np kp)) ⟨f0, f1, g2, g0, g1⟩ (fun hHeld => ?_);refine kL 0 rfl ?_;refine pL 1 rfl ?_;refine kL 2 rfl ?_;(refine pL 3 rfl ?_; refine pL 4 rfl ?_; refine pL 5 rfl ?_)
      refine kL 6 rfl ?_;(refine oL 7 rfl fun K hK => tL ?_; go_simp);refine (rmul_any _ _ ((p ^ j : Nat) : Int) (p : Int) _ HI.out.drew HXq.out.drew HS1.out HS2.out).mono ?_;rintro e w6 ⟨v6, rfl, hv6, hb6⟩;obtain ⟨s9, a9, n9, c9, rfl⟩ := hv6.shape;have hbT := Bl.up (Bl.drew (Below.refl wr.heap.size wr)) hb6;have hV6 := Vx.up HVq.out hbT;have hS6 := HSq.out.up hbT;have hB6 := Bl.up HBq.out hbT;replace f0 := keepc hbT f0;replace f1 := keepc hbT f1;replace g2 := keepc hbT g2;replace g0 := keepc hbT g0;replace g1 := keepc hbT g1;(go_wp2_with fail; clear hHeld; refine nxL hK ⟨f0, f1, g2, g0, g1⟩ fun hHeld => tL ?_; clear hK);obtain ⟨_, _, _, _, k0, k1, k2, k3, -⟩ := Vx.cells hV6;have hbu := (ButS.set w6 B7 0 (.bool s9)).trans (ButS.set _ B7 1 (.slice a9 n9 c9));have hV7 := Vx.put hV6.va hv6;have hS7 := hS6.fr hbu (fun g e => by rw [e]; exact Vx.nw hV6) (fun g hg e => HNq.out g hg e);have hB7 := ButS.below hB6 hbu hB6.size (fun g e => by have := HL7.out; omega);rw [show ((p ^ j : Nat) : Int) * (p : Int) = ((p ^ (j + 1) : Nat) : Int) by rw [Nat.pow_succ p j, Int.natCast_mul]] at hV7;have HV7 := Lib.hid hV7;have HS7 := Lib.hid hS7;have HB7 := Lib.hid hB7;clear hbT hV6 hS6 hB6 hbu hV7 hS7 hB7 hv6 hb6 HI HXq HVq HSq f2 f3;(refine oL 8 rfl fun K hK => tL ?_; go_simp);(go_wp2_with fail; refine xL hK (tL ?_); clear hK);refine dT ?_;clear k0 k1 k2 k3 f0 f1 g0 g1 g2 g3 HBq;generalize (w6.setCell ⟨B7, 0, none⟩ (.bool s9)).setCell ⟨B7, 1, none⟩ (.slice a9 n9 c9) = w7 at *;generalize wr = wQ at *;go_wp2_with fail
      go_loopw [4, 9] (fun s4 s9 wr => ∃ m : Nat, s9 = .int .i64 (m : Int) /\ m <= cn /\ So eI wr W.heap.size s4 (zI (dvS out p j ++ (out.map (· * p ^ (j + 1))).take m)) /\ (∀ g, s4.ownBlock = some g -> g ≠ B7) /\ Vx wr B7 ((p ^ (j + 1) : Nat) : Int) /\ Below W.heap.size W wr)
       (fun _ s9 _ => cn - (intOf s9).toNat)
      case atStart => exact ⟨0, rfl, Nat.zero_le _, by simpa using HS7.out, HNq.out, HV7.out, HB7.out⟩
      case round =>
       clear HS7 HV7 HB7;obtain ⟨m, rfl, hm, hSy, hny, hVy, hby⟩ := hrel;obtain ⟨ay, cy, rfl, hcy⟩ := hSy.slice;by_cases hml : m < cn
       ·have m0 : (0 : Int) <= (m : Int) := by omega
        have m1 : (m : Int) < (cn : Int) := by omega
        have hmo : m < out.length := by rw [<- zI_len, HNL.out]; exact hml
        have hmz : m < (zI (dvS out p j ++ (out.map (· * p ^ (j + 1))).take m)).length := by
         rw [zI_len, List.length_append, dvS_len];have : out.length * 1 <= out.length * (j + 1) := Nat.mul_le_mul_left _ (by omega);omega
        obtain ⟨bo, offo, hao, hbo, hlo⟩ := hSy.sr.at hmz;obtain ⟨se, ae, ne, ke, e0, e1, hxe⟩ := hlo.int hmz;rw [zI_getD, dvS_getD _ hmo] at hxe;have hsn := map_snoc hmo (p ^ (j + 1));have hmem : out.getD m 0 ∈ out := by rw [List.getD_eq_getElem?_getD, List.getElem?_eq_getElem hmo]; exact List.getElem_mem _
        have hs1 := HSY.out _ hmem;obtain ⟨x, hx⟩ : ∃ x, out.getD m 0 = x := ⟨_, rfl⟩;rw [hx] at hxe hsn hs1;obtain ⟨ln, hln⟩ : ∃ ln, (zI (dvS out p j ++ (out.map (· * p ^ (j + 1))).take m)).length = ln := ⟨_, rfl⟩
        have hln4 : ln + 1 <= 1099511627776 := by
         rw [<- hln, zI_len, List.length_append, dvS_len, List.length_take, List.length_map];have h1 : out.length * (j + 1) <= out.length * (k + 1) := Nat.mul_le_mul_left _ (by omega);have h2 : out.length = cn := by rw [<- zI_len]; exact HNL.out
         have h3 := HC2.out;have h4 := HCS.out;rw [h2] at h1 |-;omega
        have i2 : (m : Int) < (ln : Int) := by omega
        rw [hln] at hSy hny hcy |-;subst hao;obtain ⟨s8, a8, n8, c8, f0, f1, -, -, hI8⟩ := Vx.cells hVy;have HLN := Lib.hid hln;have HSe := Lib.hid hSy;have HVe := Lib.hid hVy;have HNe := Lib.hid hny;have HBe := Lib.hid hby;have HXe := Lib.hid hxe;have HI8 := Lib.hid hI8;have HSN := Lib.hid hsn;have HS4 := Lib.hid hs1;clear hSy hny hVy hby hlo hx hmem hxe hI8 hsn hs1 hbo hmz hcy hln hmo;go_upto_region 17 with fail;refine wp_region_T (by kernel_rfl) [8] (S := fun w' => w'.cell? ⟨bo, offo + m * 2, none⟩ = some (.bool se) /\ w'.cell? ⟨bo, offo + m * 2 + 1, none⟩ = some (.slice ae ne ke) /\ w'.cell? ⟨B7, 0, none⟩ = some (.bool s8) /\ w'.cell? ⟨B7, 1, none⟩ = some (.slice a8 n8 c8)) ⟨e0, e1, f0, f1⟩ (fun hHeld => ?_);(refine pL 0 rfl ?_; refine pL 1 rfl ?_; refine pL 2 rfl ?_; refine pL 3 rfl ?_)
        (refine kL 4 rfl ?_; refine kL 5 rfl ?_)
        (refine oL 6 rfl fun K hK => tL ?_; go_simp);refine (rmul_any _ _ ((x : Nat) : Int) ((p ^ (j + 1) : Nat) : Int) _ HXe.out.drew HI8.out.drew (Nat.le_trans HS4.out (by decide)) HS3.out).mono ?_;rintro e w9 ⟨v, rfl, hv, hb9⟩;obtain ⟨s9, a9, n9, c9, rfl⟩ := hv.shape;have hbT := Bl.up (Bl.drew (Below.refl wr.heap.size wr)) hb9;replace e0 := keepc hbT e0;replace e1 := keepc hbT e1;replace f0 := keepc hbT f0;replace f1 := keepc hbT f1;replace HSe := Lib.hid (HSe.out.up hbT);replace HVe := Lib.hid (Vx.up HVe.out hbT);replace HBe := Lib.hid (Bl.up HBe.out hbT);(go_wp2_with fail; clear hHeld; refine nxL hK ⟨e0, e1, f0, f1⟩ fun hHeld => tL ?_; clear hK);clear hbT hb9 HXe HI8;(refine oL 7 rfl fun K hK => tL ?_; go_simp);have hbb := below_new w9 (.cells #[.bool s9, .slice a9 n9 c9] 33);have hsc : Sc eI (w9.alloc (.cells #[.bool s9, .slice a9 n9 c9] 33)) w9.heap.size 0 [((x : Nat) : Int) * ((p ^ (j + 1) : Nat) : Int)] := Sc.one (E := eI) (cs := [.bool s9, .slice a9 n9 c9]) (heap_alloc_new w9 _) ⟨s9, a9, n9, c9, rfl, hv.up hbb⟩;have hS8 := HSe.out.up hbb;have hV8 := Vx.up HVe.out hbb;have hB8 := Bl.up HBe.out hbb;(go_wp2_with fail; clear hHeld; refine nxL hK ⟨keepc hbb e0, keepc hbb e1, keepc hbb f0, keepc hbb f1⟩ fun hHeld => tL ?_; clear hK);refine wpAnyT_one (i := 8) (by as_aux_lemma => kernel_rfl) rfl (fun K hK => ?_);refine step_apS (E := eI) (by rfl) (.tmp 60) (.tmp 67) _ (by rfl) Tryz.underlying63 W.heap.size _ (zI (dvS out p j ++ (out.map (· * p ^ (j + 1))).take m)) [((x : Nat) : Int) * ((p ^ (j + 1) : Nat) : Int)] (by rfl) hS8 hB8.size w9.heap.size 0 1 1 (by rfl) rfl hsc (by decide) (by rw [HLN.out]; exact hln4) ?_;intro g' cap' w18 hS' hb' hg';have hV18 := Vx.fr hb' (fun g hg => hS8.nw g hg) (fun hg => HNe.out _ hg rfl) hV8;have hB18 := ButS.below hB8 hb' hB8.size (fun g hg => (hS8.lt g hg).1);have hlt8 := HVe.out.lt;have hl9 := hbb.size
        have hn18 : ∀ g, (Value.slice (some ⟨g', 0, none⟩) (ln + 1) cap').ownBlock = some g -> g ≠ B7 := fun g hg e => by
         have h1 : g' = g := by simpa [Value.ownBlock] using hg
         rw [h1, e] at hg';rcases hg' with h | h
         ·exact HNe.out _ h rfl
         ·omega
        have hS18 : So eI w18 W.heap.size (.slice (some ⟨g', 0, none⟩) (ln + 1) cap') (zI (dvS out p j ++ (out.map (· * p ^ (j + 1))).take (m + 1))) := by
         rw [HSN.out, <- List.append_assoc, zI_append (dvS out p j ++ _), <- HLN.out];have : zI [x * p ^ (j + 1)] = [((x : Nat) : Int) * ((p ^ (j + 1) : Nat) : Int)] := by simp [zI]
         rw [this]; exact hS'
        have HV18 := Lib.hid hV18;have HB18 := Lib.hid hB18;have HN18 := Lib.hid hn18;have HS18 := Lib.hid hS18;clear hV18 hB18 hn18 hS18 hS' hb' hg' hS8 hsc hV8 hB8 hlt8 hl9 hbb HSe HVe HBe hv;rw [HLN.out];refine hK.out _ _ nzz ?_;clear hK hHeld;refine tL ?_;refine pL 9 rfl ?_;refine dT ?_;clear e0 e1 f0 f1;go_wp2_with fail;refine ⟨⟨m + 1, by go_num, by omega, HS18.out, HN18.out, HV18.out, HB18.out⟩, by simp [intOf]; omega⟩
       ·obtain rfl : m = cn := by omega
        have m1 : ¬ (m : Int) < (m : Int) := by omega
        have hom : out.length = m := by rw [<- zI_len]; exact HNL.out
        have hee : dvS out p j ++ (out.map (· * p ^ (j + 1))).take m = dvS out p (j + 1) := by rw [List.take_of_length_le (by simp [hom]), <- dvS_succ]
        rw [hee] at hSy hny;rw [hee];have HSy := Lib.hid hSy;have HNy := Lib.hid hny;have HVy := Lib.hid hVy;have HBy := Lib.hid hby;clear hee hSy hny hVy hby hom hcy hml hm;go_wp2_with fail;refine ⟨⟨j + 1, by go_num, by omega, HSy.out, HNy.out, HVy.out, HBy.out⟩, by simp [intOf]; omega⟩
     ·obtain rfl : j = k := by omega
      have j1 : ¬ (j : Int) < (j : Int) := by omega
      rw [<- HDS.out] at hSq hnq;rw [<- HDS.out];have HSx := Lib.hid hSq;clear hSq hnq hVq hbq hcq hjk HSq HNq;go_wp2_with fail;refine ⟨⟨i + 1, by go_num, by omega, HSx.out, HC2.out, HBq.out⟩, by simp [intOf]; omega⟩
  ·obtain rfl : i = l.length := by omega
   have i1 : ¬ (l.length : Int) < (l.length : Int) := by omega
   rw [List.take_length] at hc hnl HO;have hyp : ∀ x ∈ dvL l [1], sz (x : Int) <= 1099511627776 := fun x hx => Nat.le_trans (HD.out.szy (i := l.length) (by rw [List.take_length]; exact hx)) (by decide);have HY := Lib.hid hyp;rw [List.take_length, hnl];rw [hnl] at HO;have HNL := Lib.hid hnl;have HC := Lib.hid hc;clear hO hbr hco hlt hi hyp hnl hc;go_wp2_with fail;refine (rinc_any _ _ (dvL l [1]) wr rfl HO.out.sr HY.out (by rw [<- zI_len, HNL.out]; have := HC.out; omega)).mono ?_;rintro e w4 ⟨v, m, rfl, hv, hp, hso, hb4⟩;have HBW := Lib.hid (Bl.up HBL.out (Bl.up HR.out hb4));have HVV := Lib.hid hv;have HPP := Lib.hid hp;have HSS := Lib.hid hso;clear hv hp hso hb4;go_wp2_with fail;refine bodyPost_ret (results_tmp2 rfl _ _ _) rfl ?_;exact ⟨HBW.out, .inr ⟨HLE.out ▸ HC.out, v, m, rfl, HVV.out, HLE.out ▸ HPP.out, HSS.out⟩⟩
end Go.Proofs.YtblebpmlkpobnaaGreat
