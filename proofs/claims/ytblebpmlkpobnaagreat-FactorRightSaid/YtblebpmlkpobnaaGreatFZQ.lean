/-
  algoristlaw05.FactorRight: the walk.
-/
import Derived.Test.YtblebpmlkpobnaaGreatFZI
import Derived.Test.YtblebpmlkpobnaaGreatFU
import Derived.Test.YtblebpmlkpobnaaGreatFT
import Derived.Test.YtblebpmlkpobnaaGreatFZP
set_option linter.unusedSimpArgs false
set_option linter.unusedVariables false
set_option maxHeartbeats 8000000
namespace Go.Proofs.YtblebpmlkpobnaaGreat
open Go.RowKit
attribute [local go_sem ↓] Go.wp_at_zero Go.wp_at_succ
def kvB (x : Bool) : Kv where
  R := fun _ v _ => v = .bool x
  V := fun _ _ _ => False
  js := fun _ => false
  up := fun h _ => h
  vup := fun h _ => h
  vlt := fun h => h.elim
theorem FlV.start0 (K : Kv) (W0 : World) (x : Nat → Value) : FlV K W0 (fun _ => false) x W0 := ⟨Below.refl _ _, (fun _ _ h => nomatch h), (fun _ _ h => nomatch h), fun _ _ _ _ _ h => nomatch h⟩
theorem SzC.szf {g : Fz} (h : SzC g) : szF g := ⟨h.N, ⟨Nat.le_trans h.lP (by decide), h.P⟩, ⟨Nat.le_trans h.lR (by decide), h.R⟩⟩
theorem RightN.szc {f : Fn} (h : RightN f) (hm : Md f.N) : SzC (zF f) := by
  have hl := h.len hm
  have hs := h.szf hm
  exact ⟨hs.1, hs.2.1.2, hs.2.2.2, by show (zP f.P).length ≤ _; rw [zP_len]; omega, by show (zP f.R).length ≤ _; rw [zP_len]; omega⟩
set_option maxRecDepth 100000 in
theorem fright_any (va vz : Value) (L : List Tri) (b : Nat) (w : World) (h : Dx w va L b) (hz : Zx w vz) :
    Calls Tryz.prog 3 #[va, vz] w fun e w' => e = .returned (.bool true) ∧ Below w.heap.size w w' := by
  obtain ⟨a, c, rfl, hb16, ha, hLm⟩ := h
  obtain ⟨kd, at', sz', az, nz, cz, kz, rfl, hkd, hat, hNx⟩ := hz
  go_enter Tryz.func3, Tryz.ntmps3
  go_upto_region 1 with fail
  have hb0 := below_new w (.cells #[.slice a L.length c, .int .u16 (b : Int)] 25)
  have hD0 := heap_alloc_new w (.cells #[.slice a L.length c, .int .u16 (b : Int)] 25)
  have hb1 := below_new (w.alloc (.cells #[.slice a L.length c, .int .u16 (b : Int)] 25)) (.cells #[.int .u8 (kd : Int), .int .u8 (at' : Int), .bool sz', .slice az nz cz, .int .i64 kz] 30)
  have hD1 := heap_alloc_new (w.alloc (.cells #[.slice a L.length c, .int .u16 (b : Int)] 25)) (.cells #[.int .u8 (kd : Int), .int .u8 (at' : Int), .bool sz', .slice az nz cz, .int .i64 kz] 30)
  replace hD0 := (hb1.block _ (Array.getElem?_eq_some_iff.1 hD0).1).trans hD0
  rw [World.size_alloc] at hD1
  have hbl := Bl.up hb0 hb1
  have hA := ha.up hbl
  have hN := hNx.up hbl
  clear ha hNx hb0 hb1
  generalize (w.alloc (.cells #[.slice a L.length c, .int .u16 (b : Int)] 25)).alloc (.cells #[.int .u8 (kd : Int), .int .u8 (at' : Int), .bool sz', .slice az nz cz, .int .i64 kz] 30) = W at *
  have HD0 := Lib.hid hD0
  have HD1 := Lib.hid hD1
  have HA := Lib.hid hA
  have HN := Lib.hid hN
  have HL := Lib.hid hbl
  clear hD0 hD1 hA hN hbl
  go_wp2_with fail
  refine (examples_any W).mono ?_
  rintro e w1 ⟨rfl, hb1⟩
  replace HL := Lib.hid (Bl.up HL.out hb1)
  have hD0 := (hb1.block _ (Array.getElem?_eq_some_iff.1 HD0.out).1).trans HD0.out
  have hD1 := (hb1.block _ (Array.getElem?_eq_some_iff.1 HD1.out).1).trans HD1.out
  have c0 : w1.cell? ⟨w.heap.size, 0, none⟩ = some (.slice a L.length c) := by simp [World.cell?, hD0]
  have c1 : w1.cell? ⟨w.heap.size, 1, none⟩ = some (.int .u16 (b : Int)) := by simp [World.cell?, hD0]
  replace HD1 := Lib.hid hD1
  replace HA := Lib.hid (HA.out.up hb1)
  replace HN := Lib.hid (HN.out.up hb1)
  clear hD0 hD1 HD0 hb1
  go_wp2_with fail
  refine (rmade_any _ L b w1 ⟨a, c, rfl, hb16, HA.out, hLm⟩).mono ?_
  rintro e w2 ⟨v, f, rfl, hF, hM, hb2⟩
  obtain ⟨hR, hMd, -⟩ := hM.good
  have HR := Lib.hid hR
  have HMD := Lib.hid hMd
  replace HL := Lib.hid (Bl.up HL.out hb2)
  replace HN := Lib.hid (HN.out.up hb2)
  replace HD1 := Lib.hid ((hb2.block _ (Array.getElem?_eq_some_iff.1 HD1.out).1).trans HD1.out)
  clear hM c0 c1 HA hR hMd hb2
  obtain ⟨y, rfl, hFy⟩ := hF.shape
  have hB := Bf.new hFy
  have hbn := below_new w2 (.cells #[.bool y.s, .slice y.a y.n y.c, .slice y.a2 y.n2 y.c2, .slice y.a3 y.n3 y.c3, .int .i64 y.b] 36)
  replace HL := Lib.hid (Bl.up HL.out hbn)
  replace HN := Lib.hid (HN.out.up hbn)
  replace HD1 := Lib.hid ((hbn.block _ (Array.getElem?_eq_some_iff.1 HD1.out).1).trans HD1.out)
  have HB := Lib.hid hB
  clear hF hFy hB hbn
  go_upto_region 5 with fail
  generalize w2.alloc (.cells #[.bool y.s, .slice y.a y.n y.c, .slice y.a2 y.n2 y.c2, .slice y.a3 y.n3 y.c3, .int .i64 y.b] 36) = w3 at *
  generalize w2.heap.size = Bq at *
  have hB := HB.out
  obtain ⟨⟨s1, a1, n1, k1, aP, nP, cP, aR, nR, cR, bb⟩, ⟨p0, p1, p2, p3, p4⟩, hfx, -, -, -, -, -, -⟩ := hB.cells
  dsimp only at p0 p1 p2 p3 p4 hfx
  have HFX := Lib.hid hfx
  have hD1 := HD1.out
  have z0 : w3.cell? ⟨w.heap.size + 1, 0, none⟩ = some (.int .u8 (kd : Int)) := by simp [World.cell?, hD1]
  have z1 : w3.cell? ⟨w.heap.size + 1, 1, none⟩ = some (.int .u8 (at' : Int)) := by simp [World.cell?, hD1]
  have z2 : w3.cell? ⟨w.heap.size + 1, 2, none⟩ = some (.bool sz') := by simp [World.cell?, hD1]
  have z3 : w3.cell? ⟨w.heap.size + 1, 3, none⟩ = some (.slice az nz cz) := by simp [World.cell?, hD1]
  have z4 : w3.cell? ⟨w.heap.size + 1, 4, none⟩ = some (.int .i64 kz) := by simp [World.cell?, hD1]
  have HSC := Lib.hid (HR.out.szc HMD.out)
  have HLN := Lib.hid (HR.out.len HMD.out)
  clear hB hfx hD1 HD1
  go_wp2_with fail
  refine (changed_any _ _ (zF f) w3 HFX.out ⟨kd, at', sz', az, nz, cz, kz, rfl, hkd, hat, HN.out⟩ HSC.out (by have := HLN.out; show (zP f.P).length ≤ _; rw [zP_len]; omega) (by have := HLN.out; show (zP f.R).length ≤ _; rw [zP_len]; omega)).mono ?_
  rintro e w4 ⟨v, g, rfl, hG, hSG, hb4⟩
  obtain ⟨z, rfl, hGz⟩ := hG.shape
  have hBG := Bf.new hGz
  have hbn := below_new w4 (.cells #[.bool z.s, .slice z.a z.n z.c, .slice z.a2 z.n2 z.c2, .slice z.a3 z.n3 z.c3, .int .i64 z.b] 36)
  have hb5 := Bl.up hb4 hbn
  have HSG := Lib.hid hSG
  have HBG := Lib.hid hBG
  replace HB := Lib.hid (HB.out.up hb5)
  replace HL := Lib.hid (Bl.up HL.out hb5)
  clear hG hGz hSG hBG hb4 hbn hb5 HN HFX p0 p1 p2 p3 p4 z0 z1 z2 z3 z4
  go_upto_region 6 with fail
  generalize w4.alloc (.cells #[.bool z.s, .slice z.a z.n z.c, .slice z.a2 z.n2 z.c2, .slice z.a3 z.n3 z.c3, .int .i64 z.b] 36) = w5 at *
  generalize w4.heap.size = Bg at *
  have hB := HB.out
  have hBG := HBG.out
  obtain ⟨⟨s1, a1, n1, k1, aP, nP, cP, aR, nR, cR, bb⟩, ⟨q0, q1, q2, q3, q4⟩, hfx, -, -, -, -, -, -⟩ := hB.cells
  obtain ⟨⟨s2, a2, n2, k2, gaP, gnP, gcP, gaR, gnR, gcR, gb⟩, ⟨r0, r1, r2, r3, r4⟩, hgx, -, -, -, -, -, -⟩ := hBG.cells
  dsimp only at q0 q1 q2 q3 q4 hfx r0 r1 r2 r3 r4 hgx
  have HFX := Lib.hid hfx
  have HGX := Lib.hid hgx
  clear hB hBG hfx hgx HB HBG
  refine wp_region_T (by kernel_rfl) [] (S := fun w' => w'.cell? ⟨Bq, 0, none⟩ = some (.bool s1) ∧ w'.cell? ⟨Bq, 1, none⟩ = some (.slice a1 n1 k1) ∧ w'.cell? ⟨Bq, 2, none⟩ = some (.slice aP nP cP) ∧ w'.cell? ⟨Bq, 3, none⟩ = some (.slice aR nR cR) ∧ w'.cell? ⟨Bq, 4, none⟩ = some (.int .i64 bb) ∧ w'.cell? ⟨Bg, 0, none⟩ = some (.bool s2) ∧ w'.cell? ⟨Bg, 1, none⟩ = some (.slice a2 n2 k2) ∧ w'.cell? ⟨Bg, 2, none⟩ = some (.slice gaP gnP gcP) ∧ w'.cell? ⟨Bg, 3, none⟩ = some (.slice gaR gnR gcR) ∧ w'.cell? ⟨Bg, 4, none⟩ = some (.int .i64 gb)) ⟨q0, q1, q2, q3, q4, r0, r1, r2, r3, r4⟩ (fun hHeld => ?_)
  refine kL 0 rfl ?_
  (refine oL 1 rfl fun K hK => tL ?_; go_simp)
  refine (right_any _ (zF f) _ (HFX.out.up (Below.refl _ _).drew) (HSC.out.szf) (by have := HLN.out; show (zP f.P).length ≤ _; rw [zP_len]; omega) (by have := HLN.out; show (zP f.R).length ≤ _; rw [zP_len]; omega)).mono ?_
  rintro e w6 ⟨rfl, hb6⟩
  rw [show rightB (zF f) = true from rightB_of (right_nat.2 HR.out)]
  replace q0 := keepc hb6 (cellD q0)
  replace q1 := keepc hb6 (cellD q1)
  replace q2 := keepc hb6 (cellD q2)
  replace q3 := keepc hb6 (cellD q3)
  replace q4 := keepc hb6 (cellD q4)
  replace r0 := keepc hb6 (cellD r0)
  replace r1 := keepc hb6 (cellD r1)
  replace r2 := keepc hb6 (cellD r2)
  replace r3 := keepc hb6 (cellD r3)
  replace r4 := keepc hb6 (cellD r4)
  replace HFX := Lib.hid ((HFX.out.up (Below.refl _ _).drew).up hb6)
  replace HGX := Lib.hid ((HGX.out.up (Below.refl _ _).drew).up hb6)
  replace HL := Lib.hid (Bl.up (Bl.drew HL.out) hb6)
  clear hb6
  (go_wp2_with fail; clear hHeld; have hHeld : (fun w' : World => w'.cell? ⟨Bq, 0, none⟩ = some (.bool s1) ∧ w'.cell? ⟨Bq, 1, none⟩ = some (.slice a1 n1 k1) ∧ w'.cell? ⟨Bq, 2, none⟩ = some (.slice aP nP cP) ∧ w'.cell? ⟨Bq, 3, none⟩ = some (.slice aR nR cR) ∧ w'.cell? ⟨Bq, 4, none⟩ = some (.int .i64 bb) ∧ w'.cell? ⟨Bg, 0, none⟩ = some (.bool s2) ∧ w'.cell? ⟨Bg, 1, none⟩ = some (.slice a2 n2 k2) ∧ w'.cell? ⟨Bg, 2, none⟩ = some (.slice gaP gnP gcP) ∧ w'.cell? ⟨Bg, 3, none⟩ = some (.slice gaR gnR gcR) ∧ w'.cell? ⟨Bg, 4, none⟩ = some (.int .i64 gb)) (w6) := ⟨q0, q1, q2, q3, q4, r0, r1, r2, r3, r4⟩; refine hK.out _ _ (fun _ => hHeld) ?_; clear hK; refine tL ?_)
  (refine kL 2 rfl ?_; refine kL 3 rfl ?_)
  (refine oL 4 rfl fun K hK => tL ?_; go_simp)
  refine (rright_any _ (zF f) _ HFX.out (HSC.out.szf) (by have := HLN.out; show (zP f.P).length ≤ _; rw [zP_len]; omega) (by have := HLN.out; show (zP f.R).length ≤ _; rw [zP_len]; omega)).mono ?_
  rintro e w7 ⟨rfl, hb6⟩
  rw [show rightB (zF f) = true from rightB_of (right_nat.2 HR.out)]
  replace q0 := keepc hb6 q0
  replace q1 := keepc hb6 q1
  replace q2 := keepc hb6 q2
  replace q3 := keepc hb6 q3
  replace q4 := keepc hb6 q4
  replace r0 := keepc hb6 r0
  replace r1 := keepc hb6 r1
  replace r2 := keepc hb6 r2
  replace r3 := keepc hb6 r3
  replace r4 := keepc hb6 r4
  replace HGX := Lib.hid (HGX.out.up hb6)
  replace HL := Lib.hid (Bl.up HL.out hb6)
  clear hb6 HFX
  (go_wp2_with fail; clear hHeld; have hHeld : (fun w' : World => w'.cell? ⟨Bq, 0, none⟩ = some (.bool s1) ∧ w'.cell? ⟨Bq, 1, none⟩ = some (.slice a1 n1 k1) ∧ w'.cell? ⟨Bq, 2, none⟩ = some (.slice aP nP cP) ∧ w'.cell? ⟨Bq, 3, none⟩ = some (.slice aR nR cR) ∧ w'.cell? ⟨Bq, 4, none⟩ = some (.int .i64 bb) ∧ w'.cell? ⟨Bg, 0, none⟩ = some (.bool s2) ∧ w'.cell? ⟨Bg, 1, none⟩ = some (.slice a2 n2 k2) ∧ w'.cell? ⟨Bg, 2, none⟩ = some (.slice gaP gnP gcP) ∧ w'.cell? ⟨Bg, 3, none⟩ = some (.slice gaR gnR gcR) ∧ w'.cell? ⟨Bg, 4, none⟩ = some (.int .i64 gb)) (w7) := ⟨q0, q1, q2, q3, q4, r0, r1, r2, r3, r4⟩; refine hK.out _ _ (fun _ => hHeld) ?_; clear hK; refine tL ?_)
  (refine kL 5 rfl ?_; refine kL 6 rfl ?_; refine kL 7 rfl ?_; refine kL 9 rfl ?_)
  clear hHeld
  refine wpAnyT_all [(8, some 24), (10, some 26)] 6 (FlV (kvB (rightB g)) w7) rfl (by kernel_rfl) (by decide) (by kernel_rfl) (by kernel_rfl) (by kernel_rfl)
    (fun bb xx wz h => ⟨keepc h.bl q0, keepc h.bl q1, keepc h.bl q2, keepc h.bl q3, keepc h.bl q4, keepc h.bl r0, keepc h.bl r1, keepc h.bl r2, keepc h.bl r3, keepc h.bl r4⟩) (fun xx => FlV.start0 _ _ _) ?_ ?_
  · intro i hi
    have hi' : i = 8 ∨ i = 10 := by simpa using hi
    clear hi
    rcases hi' with rfl | rfl
    · refine ⟨_, rfl, fun bb xx wz hJ hbf hw K hK => ?_⟩
      clear hbf hw
      simp only [actsD, List.foldl_cons, List.foldl_nil, Act.put, List.setIfInBounds_toArray, List.set_cons_zero, List.set_cons_succ] at hK ⊢
      go_simp
      refine (right_any _ g wz (HGX.out.up hJ.bl) HSG.out.szf (Nat.le_trans HSG.out.lP (by decide)) (Nat.le_trans HSG.out.lR (by decide))).mono ?_
      rintro e w8 ⟨rfl, hb⟩
      exact hK.out _ _ (hJ.call (i := 8) rfl rfl hb)
    · refine ⟨_, rfl, fun bb xx wz hJ hbf hw K hK => ?_⟩
      clear hbf hw
      simp only [actsD, List.foldl_cons, List.foldl_nil, Act.put, List.setIfInBounds_toArray, List.set_cons_zero, List.set_cons_succ] at hK ⊢
      go_simp
      refine (rright_any _ g wz (HGX.out.up hJ.bl) HSG.out.szf (Nat.le_trans HSG.out.lP (by decide)) (Nat.le_trans HSG.out.lR (by decide))).mono ?_
      rintro e w8 ⟨rfl, hb⟩
      exact hK.out _ _ (hJ.call (i := 10) rfl rfl hb)
  intro bz xx wz hbb hJ
  have hx8 : xx 8 = .bool (rightB g) := hJ.pr 8 rfl (hbb 8 (by decide))
  have hx10 : xx 10 = .bool (rightB g) := hJ.pr 10 rfl (hbb 10 (by decide))
  replace HL := Lib.hid (Bl.up HL.out hJ.bl)
  have hHeld : (fun w' : World => w'.cell? ⟨Bq, 0, none⟩ = some (.bool s1) ∧ w'.cell? ⟨Bq, 1, none⟩ = some (.slice a1 n1 k1) ∧ w'.cell? ⟨Bq, 2, none⟩ = some (.slice aP nP cP) ∧ w'.cell? ⟨Bq, 3, none⟩ = some (.slice aR nR cR) ∧ w'.cell? ⟨Bq, 4, none⟩ = some (.int .i64 bb) ∧ w'.cell? ⟨Bg, 0, none⟩ = some (.bool s2) ∧ w'.cell? ⟨Bg, 1, none⟩ = some (.slice a2 n2 k2) ∧ w'.cell? ⟨Bg, 2, none⟩ = some (.slice gaP gnP gcP) ∧ w'.cell? ⟨Bg, 3, none⟩ = some (.slice gaR gnR gcR) ∧ w'.cell? ⟨Bg, 4, none⟩ = some (.int .i64 gb)) wz := ⟨keepc hJ.bl q0, keepc hJ.bl q1, keepc hJ.bl q2, keepc hJ.bl q3, keepc hJ.bl q4, keepc hJ.bl r0, keepc hJ.bl r1, keepc hJ.bl r2, keepc hJ.bl r3, keepc hJ.bl r4⟩
  clear hbb hJ q0 q1 q2 q3 q4 r0 r1 r2 r3 r4
  generalize rightB g = rb at *
  simp only [actsD, markOf, List.map_cons, List.map_nil, List.foldl_cons, List.foldl_nil, Act.put, List.setIfInBounds_toArray, List.set_cons_zero, List.set_cons_succ, hx8, hx10]
  clear hx8 hx10
  cases rb
  all_goals
    (refine pL 11 rfl ?_; refine pL 12 rfl ?_; refine pL 13 rfl ?_; refine pL 14 rfl ?_; refine pL 15 rfl ?_; refine pL 16 rfl ?_)
    refine wpAnyT_done (by kernel_rfl) ?_ _
    go_wp2_with fail
    go_ret
    exact ⟨rfl, HL.out⟩
end Go.Proofs.YtblebpmlkpobnaaGreat
