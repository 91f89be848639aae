/-
  algoristlaw05.FactorMerges: the walk.
-/
import Derived.Test.YtblebpmlkpobnaaGreatFZY
import Derived.Test.YtblebpmlkpobnaaGreatFZR
import Derived.Test.YtblebpmlkpobnaaGreatFZL
import Derived.Test.YtblebpmlkpobnaaGreatFZK
set_option linter.unusedSimpArgs false
set_option linter.unusedVariables false
set_option maxHeartbeats 8000000
namespace Go.Proofs.YtblebpmlkpobnaaGreat
open Go.RowKit
attribute [local go_sem ↓] Go.wp_at_zero Go.wp_at_succ
def kvM (L : List Tri) (b m0 m1 : Nat) : Kv where
 R := fun i v w => (i = 1 → ∃ f, Fx w v (zF f) ∧ MadeTo (usedN L []) b f) ∧ (i = 4 → Dx w v (mvN m0 L) m1) ∧ (i = 5 → ∃ g, Fx w v (zF g) ∧ MadeTo (usedN (mvN m0 L) []) m1 g)
 V := fun _ w B => Fv w B
 js := fun i => decide (i = 6 ∨ i = 7)
 up := fun h hb => ⟨fun e => by obtain ⟨f, h1, h2⟩ := h.1 e; exact ⟨f, h1.up hb, h2⟩, fun e => (h.2.1 e).up hb, fun e => by obtain ⟨f, h1, h2⟩ := h.2.2 e; exact ⟨f, h1.up hb, h2⟩⟩
 vup := fun h hb => h.up hb
 vlt := fun h => h.lt
def ktT (i0 : Nat) (t : Fn) : Kt where
 A := fun i v w => i = i0 → Fx w v (zF t)
 up := fun h hb e => (h e).up hb
 fr := fun h hb hB e => (h e).fr hb (fun g e => e ▸ hB.nw) hB (fun g e => e)
theorem MgT.szf {f g : Fn} {z : Fz} {k : Int} (h : MgT f g z k) (hf : RightN f) (hg : RightN g) (hm : Md f.N) (pf : ∀ p ∈ f.P, Pri p.1) (pg : ∀ p ∈ g.P, Pri p.1) : szF z := by
 rcases h with ⟨h1, -, c, o, rfl, hcb, hc⟩ | ⟨-, -, rfl⟩
 ·exact (MergeTo.right hf hcb hg h1 (known_all hcb (known_pri pf pg)) hc).szf (hc.1 ▸ hm)
 ·exact ⟨by decide, ⟨by decide, fun x hx => by simp [f0] at hx⟩, ⟨by decide, fun x hx => by simp [f0] at hx⟩⟩
set_option maxRecDepth 100000 in
theorem fmerges_any (va : Value) (L : List Tri) (b m0 m1 : Nat) (w : World) (h : Dx w va L b) (h0 : m0 < 256) (h1 : m1 < 256) (hL : L.length * 3 ≤ 140737488351232) :
  Calls Tryz.prog 5 #[va, .agg #[.int .u8 (m0 : Int), .int .u8 (m1 : Int)]] w fun e w' => e = .returned (.bool true) ∧ Below w.heap.size w w' := by
 obtain ⟨a, c, rfl, hb16, ha, hLm⟩ := h
 go_enter Tryz.func5, Tryz.ntmps5
 go_upto_region 1 with fail
 have hb0 := below_new w (.cells #[.slice a L.length c, .int .u16 (b : Int)] 25)
 have hD0 := heap_alloc_new w (.cells #[.slice a L.length c, .int .u16 (b : Int)] 25)
 have hb1 := below_new (w.alloc (.cells #[.slice a L.length c, .int .u16 (b : Int)] 25)) (.cells #[.int .u8 (m0 : Int), .int .u8 (m1 : Int)] 55)
 have hD1 := heap_alloc_new (w.alloc (.cells #[.slice a L.length c, .int .u16 (b : Int)] 25)) (.cells #[.int .u8 (m0 : Int), .int .u8 (m1 : Int)] 55)
 replace hD0 := (hb1.block _ (Array.getElem?_eq_some_iff.1 hD0).1).trans hD0
 rw [World.size_alloc] at hD1
 have hbl := Bl.up hb0 hb1
 have hA := ha.up hbl
 clear ha hb0 hb1
 generalize (w.alloc (.cells #[.slice a L.length c, .int .u16 (b : Int)] 25)).alloc (.cells #[.int .u8 (m0 : Int), .int .u8 (m1 : Int)] 55) = W at *
 have HD0 := Lib.hid hD0
 have HD1 := Lib.hid hD1
 have HA := Lib.hid hA
 have HL := Lib.hid hbl
 clear hD0 hD1 hA hbl
 go_wp2_with fail
 refine (examples_any W).mono ?_
 rintro e w1 ⟨rfl, hb1⟩
 replace HL := Lib.hid (Bl.up HL.out hb1)
 have hD0 := (hb1.block _ (Array.getElem?_eq_some_iff.1 HD0.out).1).trans HD0.out
 have hD1 := (hb1.block _ (Array.getElem?_eq_some_iff.1 HD1.out).1).trans HD1.out
 have c0 : w1.cell? ⟨w.heap.size, 0, none⟩ = some (.slice a L.length c) := by simp [World.cell?, hD0]
 have c1 : w1.cell? ⟨w.heap.size, 1, none⟩ = some (.int .u16 (b : Int)) := by simp [World.cell?, hD0]
 have n0 : w1.cell? ⟨w.heap.size + 1, 0, none⟩ = some (.int .u8 (m0 : Int)) := by simp [World.cell?, hD1]
 have n1 : w1.cell? ⟨w.heap.size + 1, 1, none⟩ = some (.int .u8 (m1 : Int)) := by simp [World.cell?, hD1]
 replace HA := Lib.hid (HA.out.up hb1)
 have HDX := Lib.hid (show Dx w1 (.agg #[.slice a L.length c, .int .u16 (b : Int)]) L b from ⟨a, c, rfl, hb16, HA.out, hLm⟩)
 clear hD0 hD1 HD0 HD1 hb1 HA
 go_upto_region 4 with fail
 refine wp_region_T (by kernel_rfl) [8, 9] (S := fun w' => w'.cell? ⟨w.heap.size, 0, none⟩ = some (.slice a L.length c) ∧ w'.cell? ⟨w.heap.size, 1, none⟩ = some (.int .u16 (b : Int)) ∧ w'.cell? ⟨w.heap.size + 1, 0, none⟩ = some (.int .u8 (m0 : Int)) ∧ w'.cell? ⟨w.heap.size + 1, 1, none⟩ = some (.int .u8 (m1 : Int))) ⟨c0, c1, n0, n1⟩ (fun hHeld => ?_)
 (refine kL 0 rfl ?_; refine kL 2 rfl ?_; refine kL 3 rfl ?_)
 clear hHeld
 refine wpAnyT_all [(1, some 22), (4, some 25), (5, some 26), (6, some 6), (7, some 7)] 2 (FlV (kvM L b m0 m1) w1) rfl (by kernel_rfl) (by decide) (by kernel_rfl) (by kernel_rfl) (by kernel_rfl)
  (fun bb x wz h => ⟨keepc h.bl c0, keepc h.bl c1, keepc h.bl n0, keepc h.bl n1⟩) (fun x => FlV.start _ _ _) ?_ ?_
 ·intro i hi
  have hi' : i = 1 ∨ i = 4 ∨ i = 5 ∨ i = 6 ∨ i = 7 := by simpa using hi
  clear hi
  rcases hi' with rfl | rfl | rfl | rfl | rfl
  ·refine ⟨_, rfl, fun bb xx wz hJ hbf hw K hK => ?_⟩
   clear hbf hw
   simp only [actsD, List.foldl_cons, List.foldl_nil, Act.put, List.setIfInBounds_toArray, List.set_cons_zero, List.set_cons_succ] at hK ⊢
   go_simp
   refine (rmade_any _ L b wz (HDX.out.up hJ.bl)).mono ?_
   rintro e w2 ⟨v, f, rfl, hv, hmd, hb⟩
   exact hK.out _ _ (hJ.call (i := 1) rfl ⟨fun _ => ⟨f, hv, hmd⟩, (fun e => absurd e (by decide)), (fun e => absurd e (by decide))⟩ hb)
  ·refine ⟨_, rfl, fun bb xx wz hJ hbf hw K hK => ?_⟩
   clear hbf hw
   simp only [actsD, List.foldl_cons, List.foldl_nil, Act.put, List.setIfInBounds_toArray, List.set_cons_zero, List.set_cons_succ] at hK ⊢
   go_simp
   refine (moved_any _ L b m0 m1 wz (HDX.out.up hJ.bl) h0 h1 hL).mono ?_
   rintro e w2 ⟨v, rfl, hv, hb⟩
   exact hK.out _ _ (hJ.call (i := 4) rfl ⟨(fun e => absurd e (by decide)), fun _ => hv, (fun e => absurd e (by decide))⟩ hb)
  ·refine ⟨_, rfl, fun bb xx wz hJ hbf hw K hK => ?_⟩
   have h4 := (hJ.pr 4 rfl (hw 4 (by kernel_rfl))).2.1 rfl
   have H4 := Lib.hid h4
   clear hbf hw h4
   simp only [actsD, List.foldl_cons, List.foldl_nil, Act.put, List.setIfInBounds_toArray, List.set_cons_zero, List.set_cons_succ] at hK ⊢
   go_simp
   refine (rmade_any _ _ _ wz H4.out).mono ?_
   rintro e w2 ⟨v, g, rfl, hv, hmd, hb⟩
   exact hK.out _ _ (hJ.call (i := 5) rfl ⟨(fun e => absurd e (by decide)), (fun e => absurd e (by decide)), fun _ => ⟨g, hv, hmd⟩⟩ hb)
  ·refine ⟨_, rfl, fun bb xx wz hJ hbf hw K hK => ?_⟩
   clear hbf hw
   simp only [actsD, List.foldl_cons, List.foldl_nil, Act.put, List.setIfInBounds_toArray, List.set_cons_zero, List.set_cons_succ] at hK ⊢
   go_simp
   exact hK.out _ _ (hJ.var (i := 6) rfl (Fv.new wz) (below_new _ _))
  ·refine ⟨_, rfl, fun bb xx wz hJ hbf hw K hK => ?_⟩
   clear hbf hw
   simp only [actsD, List.foldl_cons, List.foldl_nil, Act.put, List.setIfInBounds_toArray, List.set_cons_zero, List.set_cons_succ] at hK ⊢
   go_simp
   exact hK.out _ _ (hJ.var (i := 7) rfl (Fv.new wz) (below_new _ _))
 intro bz xx wz hbb hJ
 obtain ⟨f, hF, hM⟩ := (hJ.pr 1 rfl (hbb 1 (by decide))).1 rfl
 obtain ⟨g, hG, hMg⟩ := (hJ.pr 5 rfl (hbb 5 (by decide))).2.2 rfl
 obtain ⟨B6, hx6, hB6, hV6⟩ := hJ.pj 6 rfl (hbb 6 (by decide))
 obtain ⟨B7, hx7, hB7, hV7⟩ := hJ.pj 7 rfl (hbb 7 (by decide))
 have hne := hJ.ne 6 7 rfl rfl (by decide) (hbb 6 (by decide)) (hbb 7 (by decide))
 have hbz := hJ.bl
 clear hbb hJ
 have hV6 : Fv wz B6 := hV6
 have hV7 : Fv wz B7 := hV7
 have hn67 : B6 ≠ B7 := fun e => hne (by rw [hx6, hx7, e])
 obtain ⟨y, hx1, hFy⟩ := hF.shape
 obtain ⟨z, hx5, hGz⟩ := hG.shape
 obtain ⟨u4, hu4⟩ : ∃ u4, u4 = xx 4 := ⟨_, rfl⟩
 simp only [actsD, markOf, List.map_cons, List.map_nil, List.foldl_cons, List.foldl_nil, Act.put, List.setIfInBounds_toArray, List.set_cons_zero, List.set_cons_succ, hx1, hx5, hx6, hx7, ← hu4]
 clear hx1 hx5 hx6 hx7 hu4 hne hF hG
 have hS6 : ∀ g, g = B6 → NoW wz g := fun g e => by rw [e]; exact hV6.nw
 have hV7' : Fv (fput wz B6 y) B7 := by
  obtain ⟨y7, h⟩ := hV7
  exact ⟨y7, ((fput_but wz B6 y).block _ (Array.getElem?_eq_some_iff.1 h).1 (Ne.symm hn67)).trans h⟩
 have hBf := (Bf.put hV6 hFy).fr5 (fput_but _ B7 z) hV7' hn67
 have hBg := Bf.put hV7' (hGz.fr (fput_but wz B6 y) hS6 hV6 (fun g e => e))
 have hb2 := ButS.below hbz (fput_but wz B6 y) hbz.size (fun g e => by omega)
 have hb3 := ButS.below hb2 (fput_but _ B7 z) hb2.size (fun g e => by omega)
 obtain ⟨y6, d0, d1, d2, d3, d4, f0, f1, f2, f3, f4⟩ := hV6.cells
 have hc7 := hV7'.cells
 unfold fput at hc7 hBf hBg hb3
 obtain ⟨y7, e0, e1, e2, e3, e4, g0, g1, g2, g3, g4⟩ := hc7
 have HBF := Lib.hid hBf
 have HBG := Lib.hid hBg
 have HB3 := Lib.hid hb3
 clear hV7' hBf hBg hb2 hb3 hS6 hFy hGz hV6 hV7 hbz hn67
 (refine oL 8 rfl fun K hK => tL ?_; go_simp)
 (go_wp2_with fail; refine hK.out _ _ (fun h => absurd h (by decide)) ?_; clear hK; refine tL ?_)
 (refine oL 9 rfl fun K hK => tL ?_; go_simp)
 (go_wp2_with fail; refine hK.out _ _ (fun h => absurd h (by decide)) ?_; clear hK; refine tL ?_)
 refine wpAnyT_done (by kernel_rfl) ?_ _
 clear d0 d1 d2 d3 d4 f0 f1 f2 f3 f4 e0 e1 e2 e3 e4 g0 g1 g2 g3 g4 c0 c1 n0 n1 HDX
 generalize ((((((((((wz).setCell ⟨B6, 0, none⟩ (.bool y.s)).setCell ⟨B6, 1, none⟩ (.slice y.a y.n y.c)).setCell ⟨B6, 2, none⟩ (.slice y.a2 y.n2 y.c2)).setCell ⟨B6, 3, none⟩ (.slice y.a3 y.n3 y.c3)).setCell ⟨B6, 4, none⟩ (.int .i64 y.b)).setCell ⟨B7, 0, none⟩ (.bool z.s)).setCell ⟨B7, 1, none⟩ (.slice z.a z.n z.c)).setCell ⟨B7, 2, none⟩ (.slice z.a2 z.n2 z.c2)).setCell ⟨B7, 3, none⟩ (.slice z.a3 z.n3 z.c3)).setCell ⟨B7, 4, none⟩ (.int .i64 z.b) = w3 at *
 obtain ⟨hR, hMd, hPf⟩ := hM.good
 obtain ⟨hRg, hMdg, hPg⟩ := hMg.good
 obtain ⟨t, hT⟩ := tidy_some f
 replace HL := Lib.hid (Bl.up HL.out HB3.out)
 have HR := Lib.hid hR
 have HMD := Lib.hid hMd
 have HPF := Lib.hid hPf
 have HRG := Lib.hid hRg
 have HMDG := Lib.hid hMdg
 have HPG := Lib.hid hPg
 have HT := Lib.hid hT
 have HSZ := Lib.hid (hR.szf hMd)
 have HSZG := Lib.hid (hRg.szf hMdg)
 have HSZT := Lib.hid ((tidy_parts hR hT).1.szf (hT.1 ▸ hMd))
 clear HB3 hM hMg hR hMd hPf hRg hMdg hPg hT
 obtain ⟨y, ⟨p0, p1, p2, p3, p4⟩, hfx, -, -, -, -, -, -⟩ := HBF.out.cells
 have HFX := Lib.hid hfx
 clear hfx
 go_upto_region 5 with fail
 refine wp_region_T (by kernel_rfl) [8] (S := fun w' => w'.cell? ⟨B6, 0, none⟩ = some (.bool y.s) ∧ w'.cell? ⟨B6, 1, none⟩ = some (.slice y.a y.n y.c) ∧ w'.cell? ⟨B6, 2, none⟩ = some (.slice y.a2 y.n2 y.c2) ∧ w'.cell? ⟨B6, 3, none⟩ = some (.slice y.a3 y.n3 y.c3) ∧ w'.cell? ⟨B6, 4, none⟩ = some (.int .i64 y.b)) ⟨p0, p1, p2, p3, p4⟩ (fun hHeld => ?_)
 (refine kL 0 rfl ?_; refine kL 1 rfl ?_)
 clear hHeld
 refine wpAnyT_all [(2, some 30), (3, some 31), (4, some 27), (5, some 32), (6, some 33), (7, some 8), (8, none)] 1 (FlT (ktT 2 t) (fun z k => z = zF t ∧ k = 0) 3 w3) rfl (by kernel_rfl) (by decide) (by kernel_rfl) (by kernel_rfl) (by kernel_rfl) (fun bb xx wz h => (fun hb' => ⟨keepc hb' p0, keepc hb' p1, keepc hb' p2, keepc hb' p3, keepc hb' p4⟩) h.bl) (fun xx => FlT.start _ _ _ _ _) ?_ ?_
 ·intro i hi
  have hi' : i = 2 ∨ i = 3 ∨ i = 4 ∨ i = 5 ∨ i = 6 ∨ i = 7 ∨ i = 8 := by simpa using hi
  clear hi
  rcases hi' with rfl | rfl | rfl | rfl | rfl | rfl | rfl
  ·refine ⟨_, rfl, fun bb xx wz hJ hbf hw K hK => ?_⟩
   clear hbf hw
   simp only [actsD, List.foldl_cons, List.foldl_nil, Act.put, List.setIfInBounds_toArray, List.set_cons_zero, List.set_cons_succ] at hK ⊢
   go_simp
   refine (ltidy_any _ f t wz (HFX.out.up hJ.bl) HR.out HMD.out HT.out).mono ?_
   rintro e w8 ⟨v, rfl, hv, hb⟩
   exact hK.out _ _ (hJ.pre (i := 2) (by decide) (fun _ => hv) hb)
  ·refine ⟨_, rfl, fun bb xx wz hJ hbf hw K hK => ?_⟩
   have h2 := (hJ.pr 2 (by decide) (hw 2 (by kernel_rfl))) rfl
   clear hw
   simp only [actsD, List.foldl_cons, List.foldl_nil, Act.put, List.setIfInBounds_toArray, List.set_cons_zero, List.set_cons_succ] at hK ⊢
   go_simp
   refine (ltm_any _ _ f t wz (HFX.out.up hJ.bl) h2 HR.out HMD.out HT.out HPF.out).mono ?_
   rintro e w8 ⟨v, rfl, hv, hb⟩
   exact hK.out _ _ (hJ.call hbf hv ⟨rfl, rfl⟩ hb)
  ·refine ⟨_, rfl, fun bb xx wz hJ hbf hw K hK => ?_⟩
   have hq := hw 3 (by kernel_rfl)
   clear hw
   simp only [actsD, List.foldl_cons, List.foldl_nil, Act.put, List.setIfInBounds_toArray, List.set_cons_zero, List.set_cons_succ] at hK ⊢
   go_simp
   exact hK.out _ _ (hJ.mv1 hq)
  ·refine ⟨_, rfl, fun bb xx wz hJ hbf hw K hK => ?_⟩
   have h1 := hw 4 (by kernel_rfl)
   have hh := Classical.choose_spec (hJ.tup h1)
   generalize Classical.choose (hJ.tup h1) = p at hh
   have hxu : xx 4 = .tuple #[p.1, .int .i64 p.2] := hh.1
   have HXQ := Lib.hid hh.2
   clear hw hh
   simp only [actsD, List.foldl_cons, List.foldl_nil, Act.put, List.setIfInBounds_toArray, List.set_cons_zero, List.set_cons_succ, hxu] at hK ⊢
   go_simp
   exact hK.out _ _ (hJ.ex0 h1 HXQ.out)
  ·refine ⟨_, rfl, fun bb xx wz hJ hbf hw K hK => ?_⟩
   have h1 := hw 4 (by kernel_rfl)
   have hh := Classical.choose_spec (hJ.tup h1)
   generalize Classical.choose (hJ.tup h1) = p at hh
   have hxu : xx 4 = .tuple #[p.1, .int .i64 p.2] := hh.1
   have HXQ := Lib.hid hh.2
   clear hw hh
   simp only [actsD, List.foldl_cons, List.foldl_nil, Act.put, List.setIfInBounds_toArray, List.set_cons_zero, List.set_cons_succ, hxu] at hK ⊢
   go_simp
   exact hK.out _ _ (hJ.ex1 h1 HXQ.out)
  ·refine ⟨_, rfl, fun bb xx wz hJ hbf hw K hK => ?_⟩
   clear hw
   simp only [actsD, List.foldl_cons, List.foldl_nil, Act.put, List.setIfInBounds_toArray, List.set_cons_zero, List.set_cons_succ] at hK ⊢
   go_simp
   exact hK.out _ _ (hJ.var (W' := wz.alloc (.cells #[.bool false, .slice none 0 0, .slice none 0 0, .slice none 0 0, .int .i64 0] 36)) hbf (Fv.new wz) (below_new _ _))
  ·refine ⟨_, rfl, fun bb xx wz hJ hbf hw K hK => ?_⟩
   have h2 := hw 5 (by kernel_rfl)
   have h4 := hw 7 (by kernel_rfl)
   have hh := Classical.choose_spec (hJ.sto h2 h4)
   generalize Classical.choose (hJ.sto h2 h4) = p at hh
   have hxu : xx 5 = _ := hh.v
   have hxv : xx 7 = _ := hh.b
   have d0 := hh.d0
   have d1 := hh.d1
   have d2 := hh.d2
   have d3 := hh.d3
   have d4 := hh.d4
   have f0 := hh.f0
   have f1 := hh.f1
   have f2 := hh.f2
   have f3 := hh.f3
   have f4 := hh.f4
   have HJ := Lib.hid hJ
   have HH := Lib.hid hh
   clear hw hh hJ
   simp only [actsD, List.foldl_cons, List.foldl_nil, Act.put, List.setIfInBounds_toArray, List.set_cons_zero, List.set_cons_succ, hxu, hxv] at hK ⊢
   clear hxu hxv
   go_simp
   go_wp2_with fail
   exact hK.out _ _ (HJ.out.st' h2 h4 HH.out (v := undef))
 intro bb xx wz hbb hJ
 have hpre : ∀ i, i < 3 → bb i = true → _ := hJ.pr
 obtain ⟨uu, fz, code, BB, e0, e1, e2, e3, e4, hT, hBf, hBs, hbz⟩ := hJ.out (fun i h1 h2 => hbb i (by simp; omega))
 have hA2 := hpre 2 (by decide) (hbb 2 (by decide))
 clear hbb hJ hpre
 obtain ⟨u2, hu2⟩ : ∃ u2, u2 = xx 2 := ⟨_, rfl⟩
 rw [← hu2] at hA2
 simp only [actsD, markOf, List.map_cons, List.map_nil, List.foldl_cons, List.foldl_nil, Act.put, List.setIfInBounds_toArray, List.set_cons_zero, List.set_cons_succ, show xx 3 = _ from e0, show xx 4 = _ from e1, show xx 5 = _ from e2, show xx 6 = _ from e3, show xx 7 = _ from e4, ← hu2]
 clear e0 e1 e2 e3 e4 hu2
 (refine oL 9 rfl fun K hK => tL ?_; go_simp)
 (go_wp2_with fail; refine hK.out _ _ (fun h => absurd h (by decide)) ?_; clear hK; refine tL ?_)
 refine wpAnyT_done (by kernel_rfl) ?_ _
 obtain ⟨rfl, rfl⟩ := hT
 have HBA := Lib.hid hBf
 replace HL := Lib.hid (Bl.up HL.out hbz)
 replace HBF := Lib.hid (HBF.out.up hbz)
 replace HBG := Lib.hid (HBG.out.up hbz)
 clear hA2 hBs hbz p0 p1 p2 p3 p4 hBf HFX
 generalize BB = BA at *
 obtain ⟨y, ⟨p0, p1, p2, p3, p4⟩, hfx, -, -, -, -, -, -⟩ := HBF.out.cells
 have HFX := Lib.hid hfx
 clear hfx
 generalize wz = w4 at *
 go_upto_region 6 with fail
 refine wp_region_T (by kernel_rfl) [8] (S := fun w' => w'.cell? ⟨B6, 0, none⟩ = some (.bool y.s) ∧ w'.cell? ⟨B6, 1, none⟩ = some (.slice y.a y.n y.c) ∧ w'.cell? ⟨B6, 2, none⟩ = some (.slice y.a2 y.n2 y.c2) ∧ w'.cell? ⟨B6, 3, none⟩ = some (.slice y.a3 y.n3 y.c3) ∧ w'.cell? ⟨B6, 4, none⟩ = some (.int .i64 y.b)) ⟨p0, p1, p2, p3, p4⟩ (fun hHeld => ?_)
 (refine kL 0 rfl ?_; refine kL 2 rfl ?_)
 clear hHeld
 refine wpAnyT_all [(1, some 36), (3, some 38), (4, some 34), (5, some 39), (6, some 40), (7, some 10), (8, none)] 1 (FlT (ktT 1 t) (fun z k => z = zF t ∧ k = 0) 3 w4) rfl (by kernel_rfl) (by decide) (by kernel_rfl) (by kernel_rfl) (by kernel_rfl) (fun bb xx wz h => (fun hb' => ⟨keepc hb' p0, keepc hb' p1, keepc hb' p2, keepc hb' p3, keepc hb' p4⟩) h.bl) (fun xx => FlT.start _ _ _ _ _) ?_ ?_
 ·intro i hi
  have hi' : i = 1 ∨ i = 3 ∨ i = 4 ∨ i = 5 ∨ i = 6 ∨ i = 7 ∨ i = 8 := by simpa using hi
  clear hi
  rcases hi' with rfl | rfl | rfl | rfl | rfl | rfl | rfl
  ·refine ⟨_, rfl, fun bb xx wz hJ hbf hw K hK => ?_⟩
   clear hbf hw
   simp only [actsD, List.foldl_cons, List.foldl_nil, Act.put, List.setIfInBounds_toArray, List.set_cons_zero, List.set_cons_succ] at hK ⊢
   go_simp
   refine (ltidy_any _ f t wz (HFX.out.up hJ.bl) HR.out HMD.out HT.out).mono ?_
   rintro e w8 ⟨v, rfl, hv, hb⟩
   exact hK.out _ _ (hJ.pre (i := 1) (by decide) (fun _ => hv) hb)
  ·refine ⟨_, rfl, fun bb xx wz hJ hbf hw K hK => ?_⟩
   have h2 := (hJ.pr 1 (by decide) (hw 1 (by kernel_rfl))) rfl
   clear hw
   simp only [actsD, List.foldl_cons, List.foldl_nil, Act.put, List.setIfInBounds_toArray, List.set_cons_zero, List.set_cons_succ] at hK ⊢
   go_simp
   refine (ltm2_any _ _ f t wz h2 (HFX.out.up hJ.bl) HR.out HMD.out HT.out HPF.out).mono ?_
   rintro e w8 ⟨v, rfl, hv, hb⟩
   exact hK.out _ _ (hJ.call hbf hv ⟨rfl, rfl⟩ hb)
  ·refine ⟨_, rfl, fun bb xx wz hJ hbf hw K hK => ?_⟩
   have hq := hw 3 (by kernel_rfl)
   clear hw
   simp only [actsD, List.foldl_cons, List.foldl_nil, Act.put, List.setIfInBounds_toArray, List.set_cons_zero, List.set_cons_succ] at hK ⊢
   go_simp
   exact hK.out _ _ (hJ.mv1 hq)
  ·refine ⟨_, rfl, fun bb xx wz hJ hbf hw K hK => ?_⟩
   have h1 := hw 4 (by kernel_rfl)
   have hh := Classical.choose_spec (hJ.tup h1)
   generalize Classical.choose (hJ.tup h1) = p at hh
   have hxu : xx 4 = .tuple #[p.1, .int .i64 p.2] := hh.1
   have HXQ := Lib.hid hh.2
   clear hw hh
   simp only [actsD, List.foldl_cons, List.foldl_nil, Act.put, List.setIfInBounds_toArray, List.set_cons_zero, List.set_cons_succ, hxu] at hK ⊢
   go_simp
   exact hK.out _ _ (hJ.ex0 h1 HXQ.out)
  ·refine ⟨_, rfl, fun bb xx wz hJ hbf hw K hK => ?_⟩
   have h1 := hw 4 (by kernel_rfl)
   have hh := Classical.choose_spec (hJ.tup h1)
   generalize Classical.choose (hJ.tup h1) = p at hh
   have hxu : xx 4 = .tuple #[p.1, .int .i64 p.2] := hh.1
   have HXQ := Lib.hid hh.2
   clear hw hh
   simp only [actsD, List.foldl_cons, List.foldl_nil, Act.put, List.setIfInBounds_toArray, List.set_cons_zero, List.set_cons_succ, hxu] at hK ⊢
   go_simp
   exact hK.out _ _ (hJ.ex1 h1 HXQ.out)
  ·refine ⟨_, rfl, fun bb xx wz hJ hbf hw K hK => ?_⟩
   clear hw
   simp only [actsD, List.foldl_cons, List.foldl_nil, Act.put, List.setIfInBounds_toArray, List.set_cons_zero, List.set_cons_succ] at hK ⊢
   go_simp
   exact hK.out _ _ (hJ.var (W' := wz.alloc (.cells #[.bool false, .slice none 0 0, .slice none 0 0, .slice none 0 0, .int .i64 0] 36)) hbf (Fv.new wz) (below_new _ _))
  ·refine ⟨_, rfl, fun bb xx wz hJ hbf hw K hK => ?_⟩
   have h2 := hw 5 (by kernel_rfl)
   have h4 := hw 7 (by kernel_rfl)
   have hh := Classical.choose_spec (hJ.sto h2 h4)
   generalize Classical.choose (hJ.sto h2 h4) = p at hh
   have hxu : xx 5 = _ := hh.v
   have hxv : xx 7 = _ := hh.b
   have d0 := hh.d0
   have d1 := hh.d1
   have d2 := hh.d2
   have d3 := hh.d3
   have d4 := hh.d4
   have f0 := hh.f0
   have f1 := hh.f1
   have f2 := hh.f2
   have f3 := hh.f3
   have f4 := hh.f4
   have HJ := Lib.hid hJ
   have HH := Lib.hid hh
   clear hw hh hJ
   simp only [actsD, List.foldl_cons, List.foldl_nil, Act.put, List.setIfInBounds_toArray, List.set_cons_zero, List.set_cons_succ, hxu, hxv] at hK ⊢
   clear hxu hxv
   go_simp
   go_wp2_with fail
   exact hK.out _ _ (HJ.out.st' h2 h4 HH.out (v := undef))
 intro bb xx wz hbb hJ
 have hpre : ∀ i, i < 3 → bb i = true → _ := hJ.pr
 obtain ⟨uu, fz, code, BB, e0, e1, e2, e3, e4, hT, hBf, hBs, hbz⟩ := hJ.out (fun i h1 h2 => hbb i (by simp; omega))
 have hA1 := hpre 1 (by decide) (hbb 1 (by decide))
 clear hbb hJ hpre
 obtain ⟨u1, hu1⟩ : ∃ u1, u1 = xx 1 := ⟨_, rfl⟩
 rw [← hu1] at hA1
 simp only [actsD, markOf, List.map_cons, List.map_nil, List.foldl_cons, List.foldl_nil, Act.put, List.setIfInBounds_toArray, List.set_cons_zero, List.set_cons_succ, show xx 3 = _ from e0, show xx 4 = _ from e1, show xx 5 = _ from e2, show xx 6 = _ from e3, show xx 7 = _ from e4, ← hu1]
 clear e0 e1 e2 e3 e4 hu1
 (refine oL 9 rfl fun K hK => tL ?_; go_simp)
 (go_wp2_with fail; refine hK.out _ _ (fun h => absurd h (by decide)) ?_; clear hK; refine tL ?_)
 refine wpAnyT_done (by kernel_rfl) ?_ _
 obtain ⟨rfl, rfl⟩ := hT
 have HBB := Lib.hid hBf
 replace HL := Lib.hid (Bl.up HL.out hbz)
 replace HBF := Lib.hid (HBF.out.up hbz)
 replace HBG := Lib.hid (HBG.out.up hbz)
 replace HBA := Lib.hid (HBA.out.up hbz)
 clear hA1 hBs hbz p0 p1 p2 p3 p4 hBf HFX
 generalize BB = BC at *
 generalize wz = w5 at *
 obtain ⟨y, ⟨p0, p1, p2, p3, p4⟩, hfx, -, -, -, -, -, -⟩ := HBF.out.cells
 obtain ⟨ya, ⟨a0, a1, a2, a3, a4⟩, hax, -, -, -, -, -, -⟩ := HBA.out.cells
 obtain ⟨yb, ⟨b0, b1, b2, b3, b4⟩, hbx, -, -, -, -, -, -⟩ := HBB.out.cells
 have HFX := Lib.hid hfx
 have HAX := Lib.hid hax
 have HBX := Lib.hid hbx
 clear hfx hax hbx
 go_upto_region 7 with fail
 refine wp_region_T (by kernel_rfl) [] (S := fun w' => w'.cell? ⟨B6, 0, none⟩ = some (.bool y.s) ∧ w'.cell? ⟨B6, 1, none⟩ = some (.slice y.a y.n y.c) ∧ w'.cell? ⟨B6, 2, none⟩ = some (.slice y.a2 y.n2 y.c2) ∧ w'.cell? ⟨B6, 3, none⟩ = some (.slice y.a3 y.n3 y.c3) ∧ w'.cell? ⟨B6, 4, none⟩ = some (.int .i64 y.b) ∧ w'.cell? ⟨BA, 0, none⟩ = some (.bool ya.s) ∧ w'.cell? ⟨BA, 1, none⟩ = some (.slice ya.a ya.n ya.c) ∧ w'.cell? ⟨BA, 2, none⟩ = some (.slice ya.a2 ya.n2 ya.c2) ∧ w'.cell? ⟨BA, 3, none⟩ = some (.slice ya.a3 ya.n3 ya.c3) ∧ w'.cell? ⟨BA, 4, none⟩ = some (.int .i64 ya.b) ∧ w'.cell? ⟨BC, 0, none⟩ = some (.bool yb.s) ∧ w'.cell? ⟨BC, 1, none⟩ = some (.slice yb.a yb.n yb.c) ∧ w'.cell? ⟨BC, 2, none⟩ = some (.slice yb.a2 yb.n2 yb.c2) ∧ w'.cell? ⟨BC, 3, none⟩ = some (.slice yb.a3 yb.n3 yb.c3) ∧ w'.cell? ⟨BC, 4, none⟩ = some (.int .i64 yb.b)) ⟨p0, p1, p2, p3, p4, a0, a1, a2, a3, a4, b0, b1, b2, b3, b4⟩ (fun hHeld => ?_)
 (refine pL 0 rfl ?_; refine pL 1 rfl ?_; refine pL 2 rfl ?_; refine pL 3 rfl ?_; refine pL 4 rfl ?_; refine pL 5 rfl ?_; refine pL 6 rfl ?_)
 (refine kL 7 rfl ?_; refine kL 8 rfl ?_)
 (refine oL 9 rfl fun K hK => tL ?_; go_simp)
 refine (rsamef_any _ _ (zF t) (zF t) _ (HAX.out.up (Below.refl _ _).drew) (HBX.out.up (Below.refl _ _).drew) HSZT.out HSZT.out).mono ?_
 rintro e w6 ⟨rfl, hb6⟩
 rw [show sameF (zF t) (zF t) = true from sameF_iff.2 rfl]
 have hbW := Bl.up (Bl.drew (Below.refl w5.heap.size w5)) hb6
 replace p0 := keepc hb6 (cellD p0)
 replace p1 := keepc hb6 (cellD p1)
 replace p2 := keepc hb6 (cellD p2)
 replace p3 := keepc hb6 (cellD p3)
 replace p4 := keepc hb6 (cellD p4)
 replace a0 := keepc hb6 (cellD a0)
 replace a1 := keepc hb6 (cellD a1)
 replace a2 := keepc hb6 (cellD a2)
 replace a3 := keepc hb6 (cellD a3)
 replace a4 := keepc hb6 (cellD a4)
 replace b0 := keepc hb6 (cellD b0)
 replace b1 := keepc hb6 (cellD b1)
 replace b2 := keepc hb6 (cellD b2)
 replace b3 := keepc hb6 (cellD b3)
 replace b4 := keepc hb6 (cellD b4)
 clear hb6
 (go_wp2_with fail; clear hHeld; have hHeld : (fun w' : World => w'.cell? ⟨B6, 0, none⟩ = some (.bool y.s) ∧ w'.cell? ⟨B6, 1, none⟩ = some (.slice y.a y.n y.c) ∧ w'.cell? ⟨B6, 2, none⟩ = some (.slice y.a2 y.n2 y.c2) ∧ w'.cell? ⟨B6, 3, none⟩ = some (.slice y.a3 y.n3 y.c3) ∧ w'.cell? ⟨B6, 4, none⟩ = some (.int .i64 y.b) ∧ w'.cell? ⟨BA, 0, none⟩ = some (.bool ya.s) ∧ w'.cell? ⟨BA, 1, none⟩ = some (.slice ya.a ya.n ya.c) ∧ w'.cell? ⟨BA, 2, none⟩ = some (.slice ya.a2 ya.n2 ya.c2) ∧ w'.cell? ⟨BA, 3, none⟩ = some (.slice ya.a3 ya.n3 ya.c3) ∧ w'.cell? ⟨BA, 4, none⟩ = some (.int .i64 ya.b) ∧ w'.cell? ⟨BC, 0, none⟩ = some (.bool yb.s) ∧ w'.cell? ⟨BC, 1, none⟩ = some (.slice yb.a yb.n yb.c) ∧ w'.cell? ⟨BC, 2, none⟩ = some (.slice yb.a2 yb.n2 yb.c2) ∧ w'.cell? ⟨BC, 3, none⟩ = some (.slice yb.a3 yb.n3 yb.c3) ∧ w'.cell? ⟨BC, 4, none⟩ = some (.int .i64 yb.b)) (w6) := ⟨p0, p1, p2, p3, p4, a0, a1, a2, a3, a4, b0, b1, b2, b3, b4⟩; refine hK.out _ _ (fun _ => hHeld) ?_; clear hK; refine tL ?_)
 (refine pL 10 rfl ?_; refine pL 11 rfl ?_; refine pL 12 rfl ?_)
 (refine kL 13 rfl ?_; refine kL 14 rfl ?_)
 (refine oL 15 rfl fun K hK => tL ?_; go_simp)
 refine (ltidy_any _ f t _ (HFX.out.up hbW) HR.out HMD.out HT.out).mono ?_
 rintro e w7 ⟨v7, rfl, hv7, hb6⟩
 replace hbW := Bl.up hbW hb6
 replace p0 := keepc hb6 p0
 replace p1 := keepc hb6 p1
 replace p2 := keepc hb6 p2
 replace p3 := keepc hb6 p3
 replace p4 := keepc hb6 p4
 replace a0 := keepc hb6 a0
 replace a1 := keepc hb6 a1
 replace a2 := keepc hb6 a2
 replace a3 := keepc hb6 a3
 replace a4 := keepc hb6 a4
 replace b0 := keepc hb6 b0
 replace b1 := keepc hb6 b1
 replace b2 := keepc hb6 b2
 replace b3 := keepc hb6 b3
 replace b4 := keepc hb6 b4
 clear hb6
 (go_wp2_with fail; clear hHeld; have hHeld : (fun w' : World => w'.cell? ⟨B6, 0, none⟩ = some (.bool y.s) ∧ w'.cell? ⟨B6, 1, none⟩ = some (.slice y.a y.n y.c) ∧ w'.cell? ⟨B6, 2, none⟩ = some (.slice y.a2 y.n2 y.c2) ∧ w'.cell? ⟨B6, 3, none⟩ = some (.slice y.a3 y.n3 y.c3) ∧ w'.cell? ⟨B6, 4, none⟩ = some (.int .i64 y.b) ∧ w'.cell? ⟨BA, 0, none⟩ = some (.bool ya.s) ∧ w'.cell? ⟨BA, 1, none⟩ = some (.slice ya.a ya.n ya.c) ∧ w'.cell? ⟨BA, 2, none⟩ = some (.slice ya.a2 ya.n2 ya.c2) ∧ w'.cell? ⟨BA, 3, none⟩ = some (.slice ya.a3 ya.n3 ya.c3) ∧ w'.cell? ⟨BA, 4, none⟩ = some (.int .i64 ya.b) ∧ w'.cell? ⟨BC, 0, none⟩ = some (.bool yb.s) ∧ w'.cell? ⟨BC, 1, none⟩ = some (.slice yb.a yb.n yb.c) ∧ w'.cell? ⟨BC, 2, none⟩ = some (.slice yb.a2 yb.n2 yb.c2) ∧ w'.cell? ⟨BC, 3, none⟩ = some (.slice yb.a3 yb.n3 yb.c3) ∧ w'.cell? ⟨BC, 4, none⟩ = some (.int .i64 yb.b)) (w7) := ⟨p0, p1, p2, p3, p4, a0, a1, a2, a3, a4, b0, b1, b2, b3, b4⟩; refine hK.out _ _ (fun _ => hHeld) ?_; clear hK; refine tL ?_)
 (refine oL 16 rfl fun K hK => tL ?_; go_simp)
 refine (rsamef_any _ _ (zF t) (zF t) _ (HAX.out.up hbW) hv7 HSZT.out HSZT.out).mono ?_
 rintro e w8 ⟨rfl, hb6⟩
 rw [show sameF (zF t) (zF t) = true from sameF_iff.2 rfl]
 replace hbW := Bl.up hbW hb6
 replace p0 := keepc hb6 p0
 replace p1 := keepc hb6 p1
 replace p2 := keepc hb6 p2
 replace p3 := keepc hb6 p3
 replace p4 := keepc hb6 p4
 replace a0 := keepc hb6 a0
 replace a1 := keepc hb6 a1
 replace a2 := keepc hb6 a2
 replace a3 := keepc hb6 a3
 replace a4 := keepc hb6 a4
 replace b0 := keepc hb6 b0
 replace b1 := keepc hb6 b1
 replace b2 := keepc hb6 b2
 replace b3 := keepc hb6 b3
 replace b4 := keepc hb6 b4
 clear hb6 hv7
 (go_wp2_with fail; clear hHeld; have hHeld : (fun w' : World => w'.cell? ⟨B6, 0, none⟩ = some (.bool y.s) ∧ w'.cell? ⟨B6, 1, none⟩ = some (.slice y.a y.n y.c) ∧ w'.cell? ⟨B6, 2, none⟩ = some (.slice y.a2 y.n2 y.c2) ∧ w'.cell? ⟨B6, 3, none⟩ = some (.slice y.a3 y.n3 y.c3) ∧ w'.cell? ⟨B6, 4, none⟩ = some (.int .i64 y.b) ∧ w'.cell? ⟨BA, 0, none⟩ = some (.bool ya.s) ∧ w'.cell? ⟨BA, 1, none⟩ = some (.slice ya.a ya.n ya.c) ∧ w'.cell? ⟨BA, 2, none⟩ = some (.slice ya.a2 ya.n2 ya.c2) ∧ w'.cell? ⟨BA, 3, none⟩ = some (.slice ya.a3 ya.n3 ya.c3) ∧ w'.cell? ⟨BA, 4, none⟩ = some (.int .i64 ya.b) ∧ w'.cell? ⟨BC, 0, none⟩ = some (.bool yb.s) ∧ w'.cell? ⟨BC, 1, none⟩ = some (.slice yb.a yb.n yb.c) ∧ w'.cell? ⟨BC, 2, none⟩ = some (.slice yb.a2 yb.n2 yb.c2) ∧ w'.cell? ⟨BC, 3, none⟩ = some (.slice yb.a3 yb.n3 yb.c3) ∧ w'.cell? ⟨BC, 4, none⟩ = some (.int .i64 yb.b)) (w8) := ⟨p0, p1, p2, p3, p4, a0, a1, a2, a3, a4, b0, b1, b2, b3, b4⟩; refine hK.out _ _ (fun _ => hHeld) ?_; clear hK; refine tL ?_)
 (refine pL 17 rfl ?_; refine pL 18 rfl ?_)
 refine wpAnyT_done (by kernel_rfl) ?_ _
 clear hHeld p0 p1 p2 p3 p4 a0 a1 a2 a3 a4 b0 b1 b2 b3 b4 HBA HBB HAX HBX HFX HSZT
 replace HBF := Lib.hid (HBF.out.up hbW)
 replace HBG := Lib.hid (HBG.out.up hbW)
 replace HL := Lib.hid (Bl.up HL.out hbW)
 clear hbW
 obtain ⟨y, ⟨p0, p1, p2, p3, p4⟩, hfx, -, -, -, -, -, -⟩ := HBF.out.cells
 obtain ⟨z, ⟨q0, q1, q2, q3, q4⟩, hgx, -, -, -, -, -, -⟩ := HBG.out.cells
 have HFX := Lib.hid hfx
 have HGX := Lib.hid hgx
 clear hfx hgx
 go_wp2_with fail
 refine (lmerge_any _ _ f g w8 HFX.out HGX.out HR.out HRG.out HMD.out HMDG.out HPF.out HPG.out).mono ?_
 rintro e wm ⟨v, z1, k1, rfl, hv, hM1, hb⟩
 obtain ⟨yv, rfl, hvy⟩ := hv.shape
 have hBn := Bf.new hvy
 have hbn := below_new wm (.cells #[.bool yv.s, .slice yv.a yv.n yv.c, .slice yv.a2 yv.n2 yv.c2, .slice yv.a3 yv.n3 yv.c3, .int .i64 yv.b] 36)
 have hb2 := Bl.up hb hbn
 have HC1 := Lib.hid hBn
 have HM1 := Lib.hid hM1
 replace HBF := Lib.hid (HBF.out.up hb2)
 replace HBG := Lib.hid (HBG.out.up hb2)
 replace HL := Lib.hid (Bl.up HL.out hb2)
 clear hv hvy hBn hbn hb hb2 hM1 p0 p1 p2 p3 p4 q0 q1 q2 q3 q4 HFX HGX
 go_upto_region 10 with fail
 generalize wm.alloc (.cells #[.bool yv.s, .slice yv.a yv.n yv.c, .slice yv.a2 yv.n2 yv.c2, .slice yv.a3 yv.n3 yv.c3, .int .i64 yv.b] 36) = w11 at *
 generalize wm.heap.size = C1 at *
 obtain ⟨y, ⟨p0, p1, p2, p3, p4⟩, hfx, -, -, -, -, -, -⟩ := HBF.out.cells
 obtain ⟨z, ⟨q0, q1, q2, q3, q4⟩, hgx, -, -, -, -, -, -⟩ := HBG.out.cells
 have HFX := Lib.hid hfx
 have HGX := Lib.hid hgx
 clear hfx hgx
 go_wp2_with fail
 refine (lmerge_any _ _ g f w11 HGX.out HFX.out HRG.out HR.out HMDG.out HMD.out HPG.out HPF.out).mono ?_
 rintro e wm ⟨v, z2, k2, rfl, hv, hM2, hb⟩
 obtain ⟨yv, rfl, hvy⟩ := hv.shape
 have hBn := Bf.new hvy
 have hbn := below_new wm (.cells #[.bool yv.s, .slice yv.a yv.n yv.c, .slice yv.a2 yv.n2 yv.c2, .slice yv.a3 yv.n3 yv.c3, .int .i64 yv.b] 36)
 have hb2 := Bl.up hb hbn
 have HC2 := Lib.hid hBn
 have HM2 := Lib.hid hM2
 replace HBF := Lib.hid (HBF.out.up hb2)
 replace HBG := Lib.hid (HBG.out.up hb2)
 replace HL := Lib.hid (Bl.up HL.out hb2)
 replace HC1 := Lib.hid (HC1.out.up hb2)
 clear hv hvy hBn hbn hb hb2 hM2 p0 p1 p2 p3 p4 q0 q1 q2 q3 q4 HFX HGX
 go_upto_region 11 with fail
 generalize wm.alloc (.cells #[.bool yv.s, .slice yv.a yv.n yv.c, .slice yv.a2 yv.n2 yv.c2, .slice yv.a3 yv.n3 yv.c3, .int .i64 yv.b] 36) = w12 at *
 generalize wm.heap.size = C2 at *
 obtain ⟨y, ⟨p0, p1, p2, p3, p4⟩, hfx, -, -, -, -, -, -⟩ := HBF.out.cells
 obtain ⟨z, ⟨q0, q1, q2, q3, q4⟩, hgx, -, -, -, -, -, -⟩ := HBG.out.cells
 have HFX := Lib.hid hfx
 have HGX := Lib.hid hgx
 clear hfx hgx
 go_wp2_with fail
 refine (rlmerge_any _ _ f g w12 HFX.out HGX.out HR.out HRG.out HMD.out HMDG.out HPF.out HPG.out).mono ?_
 rintro e wm ⟨v, z3, k3, rfl, hv, hM3, hb⟩
 obtain ⟨yv, rfl, hvy⟩ := hv.shape
 have hBn := Bf.new hvy
 have hbn := below_new wm (.cells #[.bool yv.s, .slice yv.a yv.n yv.c, .slice yv.a2 yv.n2 yv.c2, .slice yv.a3 yv.n3 yv.c3, .int .i64 yv.b] 36)
 have hb2 := Bl.up hb hbn
 have HC3 := Lib.hid hBn
 have HM3 := Lib.hid hM3
 replace HBF := Lib.hid (HBF.out.up hb2)
 replace HBG := Lib.hid (HBG.out.up hb2)
 replace HL := Lib.hid (Bl.up HL.out hb2)
 replace HC1 := Lib.hid (HC1.out.up hb2)
 replace HC2 := Lib.hid (HC2.out.up hb2)
 clear hv hvy hBn hbn hb hb2 hM3 p0 p1 p2 p3 p4 q0 q1 q2 q3 q4 HFX HGX
 go_upto_region 12 with fail
 generalize wm.alloc (.cells #[.bool yv.s, .slice yv.a yv.n yv.c, .slice yv.a2 yv.n2 yv.c2, .slice yv.a3 yv.n3 yv.c3, .int .i64 yv.b] 36) = w13 at *
 generalize wm.heap.size = C3 at *
 obtain ⟨ez2, ek2⟩ := HM2.out.comm.uniq HM1.out
 obtain ⟨ez3, ek3⟩ := HM3.out.uniq HM1.out
 subst ez2 ek2
 subst ez3 ek3
 have HSZ3 := Lib.hid (HM1.out.szf HR.out HRG.out HMD.out HPF.out HPG.out)
 have hkk : (k3 != k3) = false := by simp
 obtain ⟨y1, ⟨p0, p1, p2, p3, p4⟩, hfx, -, -, -, -, -, -⟩ := HC1.out.cells
 obtain ⟨y2, ⟨q0, q1, q2, q3, q4⟩, hgx, -, -, -, -, -, -⟩ := HC2.out.cells
 have HFX := Lib.hid hfx
 have HGX := Lib.hid hgx
 clear hfx hgx HM2 HM3
 go_wp2_with fail
 refine (rsamef_any _ _ z3 z3 w13 HFX.out HGX.out HSZ3.out HSZ3.out).mono ?_
 rintro e w14 ⟨rfl, hb6⟩
 rw [show sameF z3 z3 = true from sameF_iff.2 rfl]
 replace HBF := Lib.hid (HBF.out.up hb6)
 replace HBG := Lib.hid (HBG.out.up hb6)
 replace HC1 := Lib.hid (HC1.out.up hb6)
 replace HC3 := Lib.hid (HC3.out.up hb6)
 replace HL := Lib.hid (Bl.up HL.out hb6)
 clear hb6 p0 p1 p2 p3 p4 q0 q1 q2 q3 q4 HFX HGX HC2
 obtain ⟨y1, ⟨p0, p1, p2, p3, p4⟩, hfx, -, -, -, -, -, -⟩ := HC1.out.cells
 obtain ⟨y2, ⟨q0, q1, q2, q3, q4⟩, hgx, -, -, -, -, -, -⟩ := HC3.out.cells
 have HFX := Lib.hid hfx
 have HGX := Lib.hid hgx
 clear hfx hgx
 go_wp2_with fail
 refine (rsamef_any _ _ z3 z3 w14 HFX.out HGX.out HSZ3.out HSZ3.out).mono ?_
 rintro e w15 ⟨rfl, hb6⟩
 rw [show sameF z3 z3 = true from sameF_iff.2 rfl]
 replace HBF := Lib.hid (HBF.out.up hb6)
 replace HBG := Lib.hid (HBG.out.up hb6)
 replace HC1 := Lib.hid (HC1.out.up hb6)
 replace HL := Lib.hid (Bl.up HL.out hb6)
 clear hb6 p0 p1 p2 p3 p4 q0 q1 q2 q3 q4 HFX HGX HC3 hkk
 go_upto_region 14 with fail
 have hM := HM1.out
 clear HM1
 rcases hM with ⟨hN, rfl, c, o, rfl, hcb, hc⟩ | ⟨hN, rfl, rfl⟩
 case' inr =>
  obtain ⟨y, ⟨p0, p1, p2, p3, p4⟩, -, hn1, -, -, -, -, -⟩ := HBF.out.cells
  obtain ⟨z, ⟨q0, q1, q2, q3, q4⟩, -, hn2, -, -, -, -, -⟩ := HBG.out.cells
  have hn1 : It w15 _ (f.N : Int) := hn1
  have hn2 : It w15 _ (g.N : Int) := hn2
  have HN1 := Lib.hid hn1
  have HN2 := Lib.hid hn2
  have hcc : (cmpI (f.N : Int) (g.N : Int) != 0) = true := by rw [bne_iff_ne, ne_eq, cmpI_zero]; omega
  have HCC := Lib.hid hcc
  clear hn1 hn2 hN hcc
  go_wp2_with fail
  refine (rcmp_any _ _ (f.N : Int) (g.N : Int) w15 HN1.out HN2.out (Nat.le_trans (HMD.out.sz (Nat.le_refl _)) (by decide)) (Nat.le_trans (HMDG.out.sz (Nat.le_refl _)) (by decide))).mono ?_
  rintro e w16 ⟨rfl, hb6⟩
  have hcc := HCC.out
  generalize cmpI (f.N : Int) (g.N : Int) = cc at *
  have HLL := Lib.hid (Bl.up HL.out hb6)
  clear hb6 p0 p1 p2 p3 p4 q0 q1 q2 q3 q4 HN1 HN2 HCC
  go_wp2_with fail
  go_ret
  exact ⟨rfl, HLL.out⟩
 case' inl =>
  have hcr := MergeTo.right HR.out hcb HRG.out hN (known_all hcb (known_pri HPF.out HPG.out)) hc
  have hcm : Md c.N := hc.1 ▸ HMD.out
  have hr1 := MergeTo.refines hcb hc
  have hr2 := MergeTo.refines' hcb hN hc
  have hcB := hc.2.1
  have HCR := Lib.hid hcr
  have HCM := Lib.hid hcm
  have HR1 := Lib.hid hr1
  have HR2 := Lib.hid hr2
  have HCB := Lib.hid hcB
  clear hN hcb hc hcr hcm hr1 hr2 hcB
  obtain ⟨y1, ⟨p0, p1, p2, p3, p4⟩, hcx, -, -, -, -, -, eb1⟩ := HC1.out.cells
  obtain ⟨y, ⟨q0, q1, q2, q3, q4⟩, hfx, -, -, -, -, -, eb2⟩ := HBF.out.cells
  obtain ⟨z, ⟨r0, r1, r2, r3, r4⟩, hgx, -, -, -, -, -, eb3⟩ := HBG.out.cells
  replace eb1 : y1.b = ((max f.B g.B : Nat) : Int) := by rw [eb1]; show (c.B : Int) = _; rw [HCB.out]
  replace eb2 : y.b = (f.B : Int) := eb2
  replace eb3 : z.b = (g.B : Int) := eb3
  have hmx : max (f.B : Int) (g.B : Int) = ((max f.B g.B : Nat) : Int) := by omega
  have HCX := Lib.hid hcx
  have HFX := Lib.hid hfx
  have HGX := Lib.hid hgx
  have hbe : (y1.b == max y.b z.b) = true := by rw [eb1, eb2, eb3, hmx]; simp
  clear hcx hfx hgx eb1 eb2 eb3 hmx
  go_wp2_with fail
  refine (rright_any _ (zF c) w15 HCX.out (HCR.out.szf HCM.out) (by have := HCR.out.len HCM.out; show (zP c.P).length ≤ _; rw [zP_len]; omega) (by have := HCR.out.len HCM.out; show (zP c.R).length ≤ _; rw [zP_len]; omega)).mono ?_
  rintro e w16 ⟨rfl, hb6⟩
  rw [show rightB (zF c) = true from rightB_of (right_nat.2 HCR.out)]
  have hbW := hb6
  replace p0 := keepc hb6 p0
  replace p1 := keepc hb6 p1
  replace p2 := keepc hb6 p2
  replace p3 := keepc hb6 p3
  replace p4 := keepc hb6 p4
  replace q0 := keepc hb6 q0
  replace q1 := keepc hb6 q1
  replace q2 := keepc hb6 q2
  replace q3 := keepc hb6 q3
  replace q4 := keepc hb6 q4
  replace r0 := keepc hb6 r0
  replace r1 := keepc hb6 r1
  replace r2 := keepc hb6 r2
  replace r3 := keepc hb6 r3
  replace r4 := keepc hb6 r4
  clear hb6
  go_wp2_with fail
  refine (rrefines_any _ _ c f w16 (HCX.out.up hbW) (HFX.out.up hbW) HCR.out HR.out HCM.out HR1.out).mono ?_
  rintro e w17 ⟨rfl, hb6⟩
  replace hbW := Bl.up hbW hb6
  replace p0 := keepc hb6 p0
  replace p1 := keepc hb6 p1
  replace p2 := keepc hb6 p2
  replace p3 := keepc hb6 p3
  replace p4 := keepc hb6 p4
  replace q0 := keepc hb6 q0
  replace q1 := keepc hb6 q1
  replace q2 := keepc hb6 q2
  replace q3 := keepc hb6 q3
  replace q4 := keepc hb6 q4
  replace r0 := keepc hb6 r0
  replace r1 := keepc hb6 r1
  replace r2 := keepc hb6 r2
  replace r3 := keepc hb6 r3
  replace r4 := keepc hb6 r4
  clear hb6
  go_wp2_with fail
  refine (rrefines_any _ _ c g w17 (HCX.out.up hbW) (HGX.out.up hbW) HCR.out HRG.out HCM.out HR2.out).mono ?_
  rintro e w18 ⟨rfl, hb6⟩
  replace hbW := Bl.up hbW hb6
  replace p0 := keepc hb6 p0
  replace p1 := keepc hb6 p1
  replace p2 := keepc hb6 p2
  replace p3 := keepc hb6 p3
  replace p4 := keepc hb6 p4
  replace q0 := keepc hb6 q0
  replace q1 := keepc hb6 q1
  replace q2 := keepc hb6 q2
  replace q3 := keepc hb6 q3
  replace q4 := keepc hb6 q4
  replace r0 := keepc hb6 r0
  replace r1 := keepc hb6 r1
  replace r2 := keepc hb6 r2
  replace r3 := keepc hb6 r3
  replace r4 := keepc hb6 r4
  have HLL := Lib.hid (Bl.up HL.out hbW)
  clear hb6 hbW
  go_wp2_with fail
  go_ret
  exact ⟨rfl, HLL.out⟩
end Go.Proofs.YtblebpmlkpobnaaGreat
