/-
  algoristlaw05.FactorSettles: the walk.
-/
import Derived.Test.YtblebpmlkpobnaaGreatFW
import Derived.Test.YtblebpmlkpobnaaGreatFZC
import Derived.Test.YtblebpmlkpobnaaGreatFZD
set_option linter.unusedSimpArgs false
set_option linter.unusedVariables false
set_option maxHeartbeats 8000000
namespace Go.Proofs.YtblebpmlkpobnaaGreat
open Go.RowKit
attribute [local go_sem ↓] Go.wp_at_zero Go.wp_at_succ
theorem MadeTo.good {L : List Tri} {b : Nat} {f : Fn} (h : MadeTo (usedN L []) b f) : RightN f ∧ Md f.N ∧ ∀ p ∈ f.P, Pri p.1 :=
  ⟨(h.right (usedN_nd L)).1, made_md (usedN_len L) h, (h.right (usedN_nd L)).2⟩
set_option maxRecDepth 100000 in
theorem fsettles_any (va : Value) (L : List Tri) (b : Nat) (i : Int) (w : World) (h : Dx w va L b) (hi0 : -9223372036854775808 ≤ i ∧ i ≤ 9223372036854775807) :
    Calls Tryz.prog 10 #[va, .int .i64 i] w fun e w' => e = .returned (.bool true) ∧ Below w.heap.size w w' := by
  obtain ⟨a, c, rfl, hb16, ha, hLm⟩ := h
  go_enter Tryz.func10, Tryz.ntmps10
  go_upto_region 1 with fail
  have hbl := below_new w (.cells #[.slice a L.length c, .int .u16 (b : Int)] 25)
  have hD := heap_alloc_new w (.cells #[.slice a L.length c, .int .u16 (b : Int)] 25)
  have hA := ha.alloc (.cells #[.slice a L.length c, .int .u16 (b : Int)] 25)
  clear ha
  generalize w.alloc (.cells #[.slice a L.length c, .int .u16 (b : Int)] 25) = W at *
  go_wp2_with fail
  refine (examples_any W).mono ?_
  rintro e w1 ⟨rfl, hb1⟩
  replace hbl := Bl.up hbl hb1
  have hD1 := (hb1.block _ (Array.getElem?_eq_some_iff.1 hD).1).trans hD
  have c0 : w1.cell? ⟨w.heap.size, 0, none⟩ = some (.slice a L.length c) := by simp [World.cell?, hD1]
  have c1 : w1.cell? ⟨w.heap.size, 1, none⟩ = some (.int .u16 (b : Int)) := by simp [World.cell?, hD1]
  replace hA := hA.up hb1
  clear hD hD1 hb1
  go_wp2_with fail
  refine (rmade_any _ L b w1 ⟨a, c, rfl, hb16, hA, hLm⟩).mono ?_
  rintro e w2 ⟨v, f, rfl, hF, hM, hb2⟩
  obtain ⟨hR, hMd, -⟩ := hM.good
  clear hM c0 c1 hA
  replace hbl := Bl.up hbl hb2
  obtain ⟨y, rfl, hFy⟩ := hF.shape
  have hB := Bf.new hFy
  have hbl2 := Bl.alloc hbl (.cells #[.bool y.s, .slice y.a y.n y.c, .slice y.a2 y.n2 y.c2, .slice y.a3 y.n3 y.c3, .int .i64 y.b] 36)
  clear hF hFy hbl hb2
  go_upto_region 5 with fail
  generalize w2.alloc (.cells #[.bool y.s, .slice y.a y.n y.c, .slice y.a2 y.n2 y.c2, .slice y.a3 y.n3 y.c3, .int .i64 y.b] 36) = w3 at *
  generalize w2.heap.size = Bq at *
  obtain ⟨⟨s1, a1, n1, k1, aP, nP, cP, aR, nR, cR, bb⟩, ⟨p0, p1, p2, p3, p4⟩, hfx, hN1, hP1, hR1, e2, e3, eb⟩ := hB.cells
  dsimp only at p0 p1 p2 p3 p4 hfx hN1 hP1 hR1 e2 e3 eb
  have HB := Lib.hid hB
  have HL := Lib.hid hbl2
  have HFX := Lib.hid hfx
  have HR := Lib.hid hR
  have HMD := Lib.hid hMd
  clear hB hbl2 hfx hN1 hP1 hR1 hR hMd
  have e3' : nR = f.R.length := e3.trans (zP_len _)
  have e2' : nP = f.P.length := e2.trans (zP_len _)
  have hlen := HR.out.len HMD.out
  have E2 := Lib.hid e2'
  have E3 := Lib.hid e3'
  have E3z := Lib.hid e3
  have EB := Lib.hid eb
  have HLEN := Lib.hid hlen
  clear e2 e3 eb e2' e3' hlen
  by_cases hbad : i < 0 ∨ (nR : Int) ≤ i
  · go_wp2_with fail
    refine (settle_bad _ (zF f) i w3 HFX.out (by rw [← E3z.out]; exact hbad)).mono ?_
    rintro e w4 ⟨v, rfl, hG, hb4⟩
    have p3' := keepc hb4 p3
    replace HL := Lib.hid (Bl.up HL.out hb4)
    clear p0 p1 p2 p4
    obtain ⟨z, rfl, hGz⟩ := hG.shape
    have hBG := Bf.new hGz
    have hbn := below_new w4 (.cells #[.bool z.s, .slice z.a z.n z.c, .slice z.a2 z.n2 z.c2, .slice z.a3 z.n3 z.c3, .int .i64 z.b] 36)
    clear hG hGz hb4
    go_upto_region 6 with fail
    have p3'' := keepc hbn p3'
    have HL5 := Lib.hid (Bl.up HL.out hbn)
    generalize w4.alloc (.cells #[.bool z.s, .slice z.a z.n z.c, .slice z.a2 z.n2 z.c2, .slice z.a3 z.n3 z.c3, .int .i64 z.b] 36) = w5 at *
    generalize w4.heap.size = Bg at *
    clear p3' hbn HL
    obtain ⟨⟨s2, a2, n2, k2, gaP, gnP, gcP, gaR, gnR, gcR, gb⟩, ⟨r0, r1, r2, r3, r4⟩, -, -, -, -, g2, g3, -⟩ := hBG.cells
    dsimp only at r0 r1 r2 r3 r4 g2 g3
    obtain rfl : gnP = 0 := g2
    obtain rfl : gnR = 0 := g3
    clear hBG r0 r1 r4
    by_cases hneg : i < 0
    · clear hbad
      go_wp2_with fail
      go_ret
      exact ⟨rfl, HL5.out⟩
    · have hge : i ≥ (nR : Int) := by omega
      clear hbad
      go_wp2_with fail
      go_ret
      exact ⟨rfl, HL5.out⟩
  · obtain ⟨j, rfl⟩ : ∃ j : Nat, i = (j : Int) := ⟨i.toNat, by omega⟩
    have hj : j < nR := by omega
    have hjf : j < f.R.length := by rw [← E3.out]; exact hj
    clear hbad hi0
    obtain ⟨gR, rfl⟩ : ∃ gR, nR = gR + 1 := ⟨nR - 1, by omega⟩
    go_wp2_with fail
    refine (settle_ok _ f j w3 HFX.out HR.out HMD.out hjf).mono ?_
    rintro e w4 ⟨v, g, rfl, hG, hS, hb4⟩
    obtain ⟨hGR, hgP, hgR, hmem⟩ := hS.right HR.out hjf
    have hSN := hS.1
    have hSB := hS.2.1
    obtain ⟨z, rfl, hGz⟩ := hG.shape
    have hBG := Bf.new hGz
    have hbn := below_new w4 (.cells #[.bool z.s, .slice z.a z.n z.c, .slice z.a2 z.n2 z.c2, .slice z.a3 z.n3 z.c3, .int .i64 z.b] 36)
    have hb5 := Bl.up hb4 hbn
    have hBf5 := HB.out.up hb5
    have HL5 := Lib.hid (Bl.up HL.out hb5)
    have HGR := Lib.hid hGR
    have HGP := Lib.hid hgP
    have HGRl := Lib.hid hgR
    have HMEM := Lib.hid hmem
    have HSN := Lib.hid hSN
    have HSB := Lib.hid hSB
    have HBf5 := Lib.hid hBf5
    clear hG hGz hb4 hS hGR hgP hgR hmem hSN hSB hbn hb5 hBf5 HL HB p0 p1 p2 p3 p4
    go_upto_region 6 with fail
    generalize w4.alloc (.cells #[.bool z.s, .slice z.a z.n z.c, .slice z.a2 z.n2 z.c2, .slice z.a3 z.n3 z.c3, .int .i64 z.b] 36) = w5 at *
    generalize w4.heap.size = Bg at *
    have hBf5 := HBf5.out
    obtain ⟨⟨s1, a1, n1, k1, aP, nP', cP, aR, nR', cR, bb⟩, ⟨q0, q1, q2, q3, q4⟩, -, hN1, -, hR1, e2, e3, eb⟩ := hBf5.cells
    obtain ⟨⟨s2, a2, n2, k2, gaP, gnP, gcP, gaR, gnR, gcR, gb⟩, ⟨r0, r1, r2, r3, r4⟩, hgx, hN2, hP2, -, g2, g3, g4⟩ := hBG.cells
    dsimp only at q0 q1 q2 q3 q4 hN1 hR1 e2 e3 eb r0 r1 r2 r3 r4 hgx hN2 hP2 g2 g3 g4
    have hR1 : Sr eP w5 (.slice aR nR' cR) (zP f.R) := hR1
    have hN1 : It w5 (.agg #[.bool s1, .slice a1 n1 k1]) (f.N : Int) := hN1
    have hN2 : It w5 (.agg #[.bool s2, .slice a2 n2 k2]) (g.N : Int) := hN2
    have hP2 : Sr eP w5 (.slice gaP gnP gcP) (zP g.P) := hP2
    obtain ⟨fp, hfp⟩ : ∃ fp, f.P.length = fp := ⟨_, rfl⟩
    obtain rfl : nP' = fp := (e2.trans (zP_len _)).trans hfp
    obtain rfl : nR' = gR + 1 := (e3.trans (zP_len _)).trans E3.out.symm
    obtain rfl : gnP = nP' + 1 := by rw [g2, show (zF g).P = zP g.P from rfl, zP_len, HGP.out, hfp]
    obtain rfl : gR = gnR := by
      have h1 := HGRl.out
      have h2 := E3.out
      have h3 : gnR = g.R.length := g3.trans (zP_len _)
      omega
    obtain rfl : bb = gb := by rw [g4, eb]; show (f.B : Int) = (g.B : Int); rw [HSB.out]
    have hlR : j < (zP f.R).length := by rw [zP_len]; exact hjf
    obtain ⟨ba, offa, rfl, hba, hla⟩ := hR1.at hlR
    obtain ⟨se, ae, ne, ke, x0, x1, x3, hx⟩ := hla.pow hlR
    rw [zP_getD] at x3 hx
    have hxm : f.R.getD j (0, 0) ∈ f.R := by rw [List.getD_eq_getElem?_getD, List.getElem?_eq_getElem hjf]; exact List.getElem_mem _
    have hszx := HR.out.szk HMD.out (ks_mem (List.mem_append_right f.P hxm))
    have hmem := HMEM.out
    obtain ⟨x, hx0⟩ : ∃ x, f.R.getD j (0, 0) = x := ⟨_, rfl⟩
    rw [hx0] at x3 hx hszx hmem
    have HMG : Md g.N := by rw [HSN.out]; exact HMD.out
    have HN1 := Lib.hid hN1
    have HN2 := Lib.hid hN2
    have HP2 := Lib.hid hP2
    have HX := Lib.hid hx
    have HGX := Lib.hid hgx
    have HSZ := Lib.hid hszx
    have HMEM2 := Lib.hid hmem
    have HMG2 := Lib.hid HMG
    have HPL := Lib.hid (HGR.out.len HMG)
    have HNEQ := Lib.hid (show (zF g).N = (zF f).N by show (g.N : Int) = (f.N : Int); rw [HSN.out])
    have hnl := HLEN.out
    rw [hfp] at hnl
    have HJ := Lib.hid hnl
    have ej : (j : Int) < (gR : Int) + 1 := by omega
    have hgr0 : gR ≤ 65536 := by have := E3.out; omega
    have w0 : IntKind.i64.wrap ((nP' : Int) + 1) = (nP' : Int) + 1 := by rw [IntKind.wrap_i64]; omega
    have w2 : IntKind.i64.wrap (gR : Int) = (gR : Int) := by rw [IntKind.wrap_i64]; omega
    have j0 : (0 : Int) ≤ (j : Int) := by omega
    have i1 : ¬ (j : Int) < 0 := by omega
    have i2 : ¬ (j : Int) ≥ (gR : Int) + 1 := by omega
    clear e2 e3 eb g2 g3 g4 hN1 hN2 hP2 hx hgx hszx hmem HMG hfp hlR hla hba hxm hx0 hnl HMEM hBf5 HBf5 hBG hR1
    go_upto_region 8 with fail
    refine wp_region_T (by kernel_rfl) [] (S := fun w' => w'.cell? ⟨Bq, 0, none⟩ = some (.bool s1) ∧ w'.cell? ⟨Bq, 1, none⟩ = some (.slice a1 n1 k1) ∧ w'.cell? ⟨Bq, 2, none⟩ = some (.slice aP nP' cP) ∧ w'.cell? ⟨Bq, 3, none⟩ = some (.slice (some ⟨ba, offa, none⟩) (gR + 1) cR) ∧ w'.cell? ⟨Bq, 4, none⟩ = some (.int .i64 bb) ∧ w'.cell? ⟨Bg, 0, none⟩ = some (.bool s2) ∧ w'.cell? ⟨Bg, 1, none⟩ = some (.slice a2 n2 k2) ∧ w'.cell? ⟨Bg, 2, none⟩ = some (.slice gaP (nP' + 1) gcP) ∧ w'.cell? ⟨Bg, 3, none⟩ = some (.slice gaR gR gcR) ∧ w'.cell? ⟨Bg, 4, none⟩ = some (.int .i64 bb) ∧ w'.cell? ⟨ba, offa + j * 3, none⟩ = some (.bool se) ∧ w'.cell? ⟨ba, offa + j * 3 + 1, none⟩ = some (.slice ae ne ke) ∧ w'.cell? ⟨ba, offa + j * 3 + 2, none⟩ = some (.int .i64 (x.2 : Int))) ⟨q0, q1, q2, q3, q4, r0, r1, r2, r3, r4, x0, x1, x3⟩ (fun hHeld => ?_)
    (refine kL 0 rfl ?_; refine kL 1 rfl ?_; refine kL 2 rfl ?_; refine kL 3 rfl ?_)
    (refine oL 4 rfl fun K hK => tL ?_; go_simp)
    refine (rright_any _ (zF g) _ (HGX.out.up (Below.refl _ _).drew) (HGR.out.szf HMG2.out) (by have := HPL.out; show (zP g.P).length ≤ _; rw [zP_len]; omega) (by have := HPL.out; show (zP g.R).length ≤ _; rw [zP_len]; omega)).mono ?_
    rintro e w6 ⟨rfl, hb6⟩
    rw [show rightB (zF g) = true from rightB_of (right_nat.2 HGR.out)]
    replace q0 := keepc hb6 (cellD q0)
    replace q1 := keepc hb6 (cellD q1)
    replace q2 := keepc hb6 (cellD q2)
    replace q3 := keepc hb6 (cellD q3)
    replace q4 := keepc hb6 (cellD q4)
    replace r0 := keepc hb6 (cellD r0)
    replace r1 := keepc hb6 (cellD r1)
    replace r2 := keepc hb6 (cellD r2)
    replace r3 := keepc hb6 (cellD r3)
    replace r4 := keepc hb6 (cellD r4)
    replace x0 := keepc hb6 (cellD x0)
    replace x1 := keepc hb6 (cellD x1)
    replace x3 := keepc hb6 (cellD x3)
    replace HN1 := Lib.hid (HN1.out.drew.up hb6)
    replace HN2 := Lib.hid (HN2.out.drew.up hb6)
    replace HP2 := Lib.hid (HP2.out.drew.up hb6)
    replace HX := Lib.hid (HX.out.drew.up hb6)
    replace HL5 := Lib.hid (Bl.up (Bl.drew HL5.out) hb6)
    clear hb6 HGX
    (go_wp2_with fail; clear hHeld; have hHeld : (fun w' : World => w'.cell? ⟨Bq, 0, none⟩ = some (.bool s1) ∧ w'.cell? ⟨Bq, 1, none⟩ = some (.slice a1 n1 k1) ∧ w'.cell? ⟨Bq, 2, none⟩ = some (.slice aP nP' cP) ∧ w'.cell? ⟨Bq, 3, none⟩ = some (.slice (some ⟨ba, offa, none⟩) (gR + 1) cR) ∧ w'.cell? ⟨Bq, 4, none⟩ = some (.int .i64 bb) ∧ w'.cell? ⟨Bg, 0, none⟩ = some (.bool s2) ∧ w'.cell? ⟨Bg, 1, none⟩ = some (.slice a2 n2 k2) ∧ w'.cell? ⟨Bg, 2, none⟩ = some (.slice gaP (nP' + 1) gcP) ∧ w'.cell? ⟨Bg, 3, none⟩ = some (.slice gaR gR gcR) ∧ w'.cell? ⟨Bg, 4, none⟩ = some (.int .i64 bb) ∧ w'.cell? ⟨ba, offa + j * 3, none⟩ = some (.bool se) ∧ w'.cell? ⟨ba, offa + j * 3 + 1, none⟩ = some (.slice ae ne ke) ∧ w'.cell? ⟨ba, offa + j * 3 + 2, none⟩ = some (.int .i64 (x.2 : Int))) (w6) := ⟨q0, q1, q2, q3, q4, r0, r1, r2, r3, r4, x0, x1, x3⟩; refine hK.out _ _ (fun _ => hHeld) ?_; clear hK; refine tL ?_)
    (refine kL 5 rfl ?_; refine kL 6 rfl ?_; refine kL 7 rfl ?_; refine kL 8 rfl ?_; refine kL 9 rfl ?_; refine kL 10 rfl ?_; refine kL 11 rfl ?_; refine kL 12 rfl ?_; refine kL 13 rfl ?_; refine kL 14 rfl ?_; refine kL 15 rfl ?_; refine kL 16 rfl ?_; refine kL 17 rfl ?_; refine kL 18 rfl ?_; refine kL 19 rfl ?_; refine kL 20 rfl ?_; refine kL 21 rfl ?_; refine kL 22 rfl ?_; refine kL 23 rfl ?_; refine kL 24 rfl ?_; refine kL 25 rfl ?_; refine kL 26 rfl ?_; refine kL 27 rfl ?_; refine kL 28 rfl ?_; refine kL 29 rfl ?_; refine kL 30 rfl ?_; refine kL 31 rfl ?_; refine kL 32 rfl ?_; refine kL 33 rfl ?_)
    (refine oL 34 rfl fun K hK => tL ?_; go_simp)
    refine (member_any _ se ae ne ke (zP g.P) ((x.1 : Int), (x.2 : Int)) _ HP2.out HX.out (HGR.out.szP HMG2.out) (Nat.le_trans HSZ.out (by decide))).mono ?_
    rintro e w7 ⟨rfl, hb6⟩
    rw [decide_eq_true (show ((x.1 : Int), (x.2 : Int)) ∈ zP g.P from List.mem_map.2 ⟨x, HMEM2.out, rfl⟩)]
    replace q0 := keepc hb6 (q0)
    replace q1 := keepc hb6 (q1)
    replace q2 := keepc hb6 (q2)
    replace q3 := keepc hb6 (q3)
    replace q4 := keepc hb6 (q4)
    replace r0 := keepc hb6 (r0)
    replace r1 := keepc hb6 (r1)
    replace r2 := keepc hb6 (r2)
    replace r3 := keepc hb6 (r3)
    replace r4 := keepc hb6 (r4)
    replace x0 := keepc hb6 (x0)
    replace x1 := keepc hb6 (x1)
    replace x3 := keepc hb6 (x3)
    replace HN1 := Lib.hid (HN1.out.up hb6)
    replace HN2 := Lib.hid (HN2.out.up hb6)
    replace HL5 := Lib.hid (Bl.up HL5.out hb6)
    clear hb6 HP2 HX
    (go_wp2_with fail; clear hHeld; have hHeld : (fun w' : World => w'.cell? ⟨Bq, 0, none⟩ = some (.bool s1) ∧ w'.cell? ⟨Bq, 1, none⟩ = some (.slice a1 n1 k1) ∧ w'.cell? ⟨Bq, 2, none⟩ = some (.slice aP nP' cP) ∧ w'.cell? ⟨Bq, 3, none⟩ = some (.slice (some ⟨ba, offa, none⟩) (gR + 1) cR) ∧ w'.cell? ⟨Bq, 4, none⟩ = some (.int .i64 bb) ∧ w'.cell? ⟨Bg, 0, none⟩ = some (.bool s2) ∧ w'.cell? ⟨Bg, 1, none⟩ = some (.slice a2 n2 k2) ∧ w'.cell? ⟨Bg, 2, none⟩ = some (.slice gaP (nP' + 1) gcP) ∧ w'.cell? ⟨Bg, 3, none⟩ = some (.slice gaR gR gcR) ∧ w'.cell? ⟨Bg, 4, none⟩ = some (.int .i64 bb) ∧ w'.cell? ⟨ba, offa + j * 3, none⟩ = some (.bool se) ∧ w'.cell? ⟨ba, offa + j * 3 + 1, none⟩ = some (.slice ae ne ke) ∧ w'.cell? ⟨ba, offa + j * 3 + 2, none⟩ = some (.int .i64 (x.2 : Int))) (w7) := ⟨q0, q1, q2, q3, q4, r0, r1, r2, r3, r4, x0, x1, x3⟩; refine hK.out _ _ (fun _ => hHeld) ?_; clear hK; refine tL ?_)
    (refine kL 35 rfl ?_; refine kL 36 rfl ?_; refine kL 37 rfl ?_; refine kL 38 rfl ?_; refine kL 39 rfl ?_; refine kL 40 rfl ?_; refine kL 41 rfl ?_; refine kL 42 rfl ?_; refine kL 43 rfl ?_; refine kL 44 rfl ?_; refine kL 45 rfl ?_; refine kL 46 rfl ?_; refine kL 47 rfl ?_)
    (refine oL 48 rfl fun K hK => tL ?_; go_simp)
    have hszN := Nat.le_trans (HMD.out.sz (Nat.le_refl _)) (show 4096 ≤ 4611686018427387904 by decide)
    refine (rsame_any _ _ (g.N : Int) (f.N : Int) _ HN2.out HN1.out (by rw [HSN.out]; exact hszN) hszN).mono ?_
    rintro e w8 ⟨rfl, hb6⟩
    rw [show sameB (g.N : Int) (f.N : Int) = true from sameB_iff.2 HNEQ.out]
    replace q0 := keepc hb6 (q0)
    replace q1 := keepc hb6 (q1)
    replace q2 := keepc hb6 (q2)
    replace q3 := keepc hb6 (q3)
    replace q4 := keepc hb6 (q4)
    replace r0 := keepc hb6 (r0)
    replace r1 := keepc hb6 (r1)
    replace r2 := keepc hb6 (r2)
    replace r3 := keepc hb6 (r3)
    replace r4 := keepc hb6 (r4)
    replace x0 := keepc hb6 (x0)
    replace x1 := keepc hb6 (x1)
    replace x3 := keepc hb6 (x3)
    replace HL5 := Lib.hid (Bl.up HL5.out hb6)
    clear hb6 hszN
    (go_wp2_with fail; clear hHeld; have hHeld : (fun w' : World => w'.cell? ⟨Bq, 0, none⟩ = some (.bool s1) ∧ w'.cell? ⟨Bq, 1, none⟩ = some (.slice a1 n1 k1) ∧ w'.cell? ⟨Bq, 2, none⟩ = some (.slice aP nP' cP) ∧ w'.cell? ⟨Bq, 3, none⟩ = some (.slice (some ⟨ba, offa, none⟩) (gR + 1) cR) ∧ w'.cell? ⟨Bq, 4, none⟩ = some (.int .i64 bb) ∧ w'.cell? ⟨Bg, 0, none⟩ = some (.bool s2) ∧ w'.cell? ⟨Bg, 1, none⟩ = some (.slice a2 n2 k2) ∧ w'.cell? ⟨Bg, 2, none⟩ = some (.slice gaP (nP' + 1) gcP) ∧ w'.cell? ⟨Bg, 3, none⟩ = some (.slice gaR gR gcR) ∧ w'.cell? ⟨Bg, 4, none⟩ = some (.int .i64 bb) ∧ w'.cell? ⟨ba, offa + j * 3, none⟩ = some (.bool se) ∧ w'.cell? ⟨ba, offa + j * 3 + 1, none⟩ = some (.slice ae ne ke) ∧ w'.cell? ⟨ba, offa + j * 3 + 2, none⟩ = some (.int .i64 (x.2 : Int))) (w8) := ⟨q0, q1, q2, q3, q4, r0, r1, r2, r3, r4, x0, x1, x3⟩; refine hK.out _ _ (fun _ => hHeld) ?_; clear hK; refine tL ?_)
    (refine kL 49 rfl ?_; refine kL 50 rfl ?_; refine kL 51 rfl ?_; refine kL 52 rfl ?_; refine kL 53 rfl ?_)
    refine wpAnyT_done (by kernel_rfl) ?_ _
    clear hHeld q0 q1 q2 q3 q4 r0 r1 r2 r3 r4 x0 x1 x3
    go_wp2_with fail
    go_ret
    exact ⟨rfl, HL5.out⟩
end Go.Proofs.YtblebpmlkpobnaaGreat
