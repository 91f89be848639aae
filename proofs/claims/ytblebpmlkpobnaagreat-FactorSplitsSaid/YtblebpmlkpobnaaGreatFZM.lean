/-
  algoristlaw05.FactorSplits: the walk.
-/
import Derived.Test.YtblebpmlkpobnaaGreatFZI
import Derived.Test.YtblebpmlkpobnaaGreatFZL
import Derived.Test.YtblebpmlkpobnaaGreatFZK
import Derived.Test.YtblebpmlkpobnaaGreatFZD
set_option linter.unusedSimpArgs false
set_option linter.unusedVariables false
set_option maxHeartbeats 8000000
namespace Go.Proofs.YtblebpmlkpobnaaGreat
open Go.RowKit
attribute [local go_sem ↓] Go.wp_at_zero Go.wp_at_succ
def kwS (U : List Tri) (b : Nat) (V : List Tri) (c : Nat) : Kw where
  R := fun i v w => (i = 1 → ∃ f, Fx w v (zF f) ∧ MadeTo U b f) ∧ (i = 3 ∨ i = 4 → (ktN 3 V c).A i v w)
  V := fun i w B => (i = 5 → Fv w B) ∧ (i = 6 → Vx w B 0 ∧ Two w B) ∧ B < w.heap.size
  js := fun i => decide (i = 5 ∨ i = 6)
  up := fun h hb => ⟨fun e => by obtain ⟨f, h1, h2⟩ := h.1 e; exact ⟨f, h1.up hb, h2⟩, fun e => (ktN 3 V c).up (h.2 e) hb⟩
  vup := fun h hb => ⟨fun e => (h.1 e).up hb, fun e => ⟨(h.2.1 e).1.up hb, (h.2.1 e).2.up hb⟩, Nat.lt_of_lt_of_le h.2.2 hb.size⟩
  vlt := fun h => h.2.2
  j := 5
  q := 7
  C := fun w B => ∃ f, Bf w B (zF f) ∧ MadeTo U b f
  cup := fun h hb => by obtain ⟨f, h1, h2⟩ := h; exact ⟨f, h1.up hb, h2⟩
  fr := fun h hb hB => ⟨fun e => by obtain ⟨f, h1, h2⟩ := h.1 e; exact ⟨f, h1.fr hb (fun g e => e ▸ hB.nw) hB (fun g e => e), h2⟩, fun e => (ktN 3 V c).fr (h.2 e) hb hB⟩
  vfr := fun h hb hB hne => ⟨fun e => by
      have h1 := h.1 e
      obtain ⟨y, h1⟩ := h1
      exact ⟨y, (hb.block _ (Array.getElem?_eq_some_iff.1 h1).1 hne).trans h1⟩, fun e => ⟨(h.2.1 e).1.fr hb (fun g e => e ▸ hB.nw) hne, (h.2.1 e).2.fr hb hne⟩, Nat.lt_of_lt_of_le h.2.2 hb.size⟩
  vj := fun h => h.1 rfl
  vy := fun h => ⟨fun _ => h, (fun e => absurd e (by decide)), h.lt⟩
  hj := rfl
  hq := rfl
  tr := ⟨(fun e => absurd e (by decide)), fun e => by rcases e with e | e <;> exact absurd e (by decide)⟩
set_option maxRecDepth 100000 in
theorem fsplits_any (va vb : Value) (L M : List Tri) (b c : Nat) (w : World) (h : Dx w va L b) (h' : Dx w vb M c) :
    Calls Tryz.prog 4 #[va, vb] w fun e w' => e = .returned (.bool true) ∧ Below w.heap.size w w' := by
  obtain ⟨W, a1, c1, rfl, hW, hbW, hsW, p0, p1, hX⟩ := boxD w h
  obtain ⟨W2, a2, c2, rfl, hW2, hbW2, hsW2, q0, q1, hY⟩ := boxD W (h'.up hbW)
  replace hX := hX.up hbW2
  replace p0 := keepc hbW2 p0
  replace p1 := keepc hbW2 p1
  rw [hsW] at q0 q1
  go_enter Tryz.func4, Tryz.ntmps4
  go_upto_region 1 with fail
  rw [← hW, ← hW2]
  have hbl := Bl.up hbW hbW2
  clear hW hW2 hbW hbW2 hsW hsW2 h h'
  go_wp2_with fail
  refine (examples_any W2).mono ?_
  rintro e w1 ⟨rfl, hb1⟩
  replace hbl := Bl.up hbl hb1
  replace p0 := keepc hb1 p0
  replace p1 := keepc hb1 p1
  replace q0 := keepc hb1 q0
  replace q1 := keepc hb1 q1
  have HX := Lib.hid (hX.up hb1)
  have HY := Lib.hid (hY.up hb1)
  have HL := Lib.hid hbl
  clear hb1 hX hY hbl
  obtain ⟨U, hU⟩ : ∃ U, usedN L [] = U := ⟨_, rfl⟩
  obtain ⟨V, hV⟩ : ∃ V, usedN M [] = V := ⟨_, rfl⟩
  obtain ⟨dN, hdN⟩ : ∃ d, pk (kwnN V ++ rstN V) = d := ⟨_, rfl⟩
  have hd1 : 1 ≤ dN ∧ Md dN := by
    obtain ⟨f', hf'⟩ := made_some V c
    have : MadeTo (usedN M []) c f' := by rw [hV]; exact hf'
    rw [← hdN, ← hf'.nn]
    exact ⟨this.good.1.n1, this.good.2.1⟩
  have HU := Lib.hid hU
  have HV := Lib.hid hV
  have HD := Lib.hid hdN
  have HD1 := Lib.hid hd1
  clear hU hV hdN hd1
  go_upto_region 4 with fail
  refine wp_region_T (by kernel_rfl) [7, 8] (S := fun w' => w'.cell? ⟨w.heap.size, 0, none⟩ = some (.slice a1 L.length c1) ∧ w'.cell? ⟨w.heap.size, 1, none⟩ = some (.int .u16 (b : Int)) ∧ w'.cell? ⟨w.heap.size + 1, 0, none⟩ = some (.slice a2 M.length c2) ∧ w'.cell? ⟨w.heap.size + 1, 1, none⟩ = some (.int .u16 (c : Int))) ⟨p0, p1, q0, q1⟩ (fun hHeld => ?_)
  (refine kL 0 rfl ?_; refine kL 2 rfl ?_)
  clear hHeld
  refine wpAnyT_all [(1, some 20), (3, some 22), (4, some 23), (5, some 6), (6, some 7), (7, none)] 1 (FlW (kwS U b V c) w1) rfl (by kernel_rfl) (by decide) (by kernel_rfl) (by kernel_rfl) (by kernel_rfl)
    (fun bb xx wz h => (fun hb' => ⟨keepc hb' p0, keepc hb' p1, keepc hb' q0, keepc hb' q1⟩) h.fl.bl) (fun xx => FlW.start _ _ _) ?_ ?_
  · intro i hi
    have hi' : i = 1 ∨ i = 3 ∨ i = 4 ∨ i = 5 ∨ i = 6 ∨ i = 7 := by simpa using hi
    clear hi
    rcases hi' with rfl | rfl | rfl | rfl | rfl | rfl
    · refine ⟨_, rfl, fun bb xx wz hJ hbf hw K hK => ?_⟩
      clear hbf hw
      simp only [actsD, List.foldl_cons, List.foldl_nil, Act.put, List.setIfInBounds_toArray, List.set_cons_zero, List.set_cons_succ] at hK ⊢
      go_simp
      refine (rmade_any _ L b wz (HX.out.up hJ.fl.bl)).mono ?_
      rintro e w8 ⟨v, f', rfl, hv, hm, hb⟩
      exact hK.out _ _ (hJ.call (i := 1) rfl (show (1 : Nat) ≠ 7 by decide) ⟨fun _ => ⟨f', hv, by rw [← HU.out]; exact hm⟩, fun e => absurd e (by decide)⟩ hb)
    · refine ⟨_, rfl, fun bb xx wz hJ hbf hw K hK => ?_⟩
      clear hbf hw
      simp only [actsD, List.foldl_cons, List.foldl_nil, Act.put, List.setIfInBounds_toArray, List.set_cons_zero, List.set_cons_succ] at hK ⊢
      go_simp
      refine (rmade_any _ M c wz (HY.out.up hJ.fl.bl)).mono ?_
      rintro e w8 ⟨v, f', rfl, hv, hm, hb⟩
      exact hK.out _ _ (hJ.call (i := 3) rfl (show (3 : Nat) ≠ 7 by decide) ⟨(fun e => absurd e (by decide)), fun _ => ⟨fun _ => ⟨f', hv, by rw [← HV.out]; exact hm⟩, fun e => absurd e (by decide)⟩⟩ hb)
    · refine ⟨_, rfl, fun bb xx wz hJ hbf hw K hK => ?_⟩
      have hp := ktN.num (i0 := 3) (V := V) (c := c) ((hJ.fl.pr 3 rfl (hw 3 (by kernel_rfl))).2 (.inl rfl))
      have hh := Classical.choose_spec hp
      generalize Classical.choose hp = zz at hh
      have hxu := hh.1
      have hit := hh.2
      clear hbf hw hp hh
      simp only [actsD, List.foldl_cons, List.foldl_nil, Act.put, List.setIfInBounds_toArray, List.set_cons_zero, List.set_cons_succ, hxu] at hK ⊢
      go_simp
      exact hK.out _ _ (hJ.call (i := 4) rfl (show (4 : Nat) ≠ 7 by decide) ⟨(fun e => absurd e (by decide)), fun _ => ⟨(fun e => absurd e (by decide)), fun _ => hit⟩⟩ (Below.refl _ _))
    · refine ⟨_, rfl, fun bb xx wz hJ hbf hw K hK => ?_⟩
      clear hw
      simp only [actsD, List.foldl_cons, List.foldl_nil, Act.put, List.setIfInBounds_toArray, List.set_cons_zero, List.set_cons_succ] at hK ⊢
      go_simp
      exact hK.out _ _ (hJ.var (i := 5) (W' := wz.alloc (.cells #[.bool false, .slice none 0 0, .slice none 0 0, .slice none 0 0, .int .i64 0] 36)) rfl hbf ⟨fun _ => Fv.new wz, (fun e => absurd e (by decide)), (Fv.new wz).lt⟩ (below_new _ _))
    · refine ⟨_, rfl, fun bb xx wz hJ hbf hw K hK => ?_⟩
      clear hw
      simp only [actsD, List.foldl_cons, List.foldl_nil, Act.put, List.setIfInBounds_toArray, List.set_cons_zero, List.set_cons_succ] at hK ⊢
      go_simp
      exact hK.out _ _ (hJ.var (i := 6) (W' := wz.alloc (.cells #[.bool false, .slice none 0 0] 33)) rfl hbf ⟨(fun e => absurd e (by decide)), (fun _ => ⟨Vx.new0 (w := wz) rfl, _, _, _, _, heap_alloc_new wz (.cells #[.bool false, .slice none 0 0] 33)⟩), (Vx.new0 (w := wz) (T := 33) rfl).lt⟩ (below_new _ _))
    · refine ⟨_, rfl, fun bb xx wz hJ hbf hw K hK => ?_⟩
      have h1 := (hJ.fl.pr 1 rfl (hw 1 (by kernel_rfl))).1 rfl
      have h4 := hw 5 (by kernel_rfl)
      have hp : ∃ p, Sto wz (xx 1) (xx 5) p := by
        obtain ⟨f', hf', -⟩ := h1
        exact hJ.sto (K := kwS U b V c) hf' h4
      have hh := Classical.choose_spec hp
      generalize Classical.choose hp = p at hh
      have hxu : xx 1 = _ := hh.v
      have hxv : xx 5 = _ := hh.b
      have d0 := hh.d0
      have d1 := hh.d1
      have d2 := hh.d2
      have d3 := hh.d3
      have d4 := hh.d4
      have f0 := hh.f0
      have f1 := hh.f1
      have f2 := hh.f2
      have f3 := hh.f3
      have f4 := hh.f4
      have HJ := Lib.hid hJ
      have HH := Lib.hid hh
      have H1 := Lib.hid h1
      clear hbf hw hp hh hJ h1
      simp only [actsD, List.foldl_cons, List.foldl_nil, Act.put, List.setIfInBounds_toArray, List.set_cons_zero, List.set_cons_succ, hxu, hxv] at hK ⊢
      clear hxu hxv
      go_simp
      go_wp2_with fail
      exact hK.out _ _ (HJ.out.st (i := 1) h4 HH.out (fun hF => by obtain ⟨f', hf', hm⟩ := H1.out; exact ⟨f', Bf.put hF (by rw [HH.out.v] at hf'; exact hf'), hm⟩) (v := undef))
  intro bb xx wz hbb hJ
  have hN := ((hJ.fl.pr 4 rfl (hbb 4 (by decide))).2 (.inr rfl)).2 rfl
  obtain ⟨B6, hx5, hB6, hV6⟩ := hJ.fl.pj 5 rfl (hbb 5 (by decide))
  obtain ⟨B7, hx6, hB7, hV7⟩ := hJ.fl.pj 6 rfl (hbb 6 (by decide))
  obtain ⟨f, hF, hM⟩ := (hJ.ct (hbb 7 (by decide))).2 B6 hx5
  have hne : B6 ≠ B7 := fun e => hJ.fl.ne 5 6 rfl rfl (by decide) (hbb 5 (by decide)) (hbb 6 (by decide)) (by rw [hx5, hx6, e])
  have hbz := hJ.fl.bl
  clear hbb hJ
  obtain ⟨s4, a4, n4, k4, hy4⟩ := hN.shape
  rw [hy4] at hN
  obtain ⟨u1, hu1⟩ : ∃ u1, u1 = xx 1 := ⟨_, rfl⟩
  obtain ⟨u3, hu3⟩ : ∃ u3, u3 = xx 3 := ⟨_, rfl⟩
  simp only [actsD, markOf, List.map_cons, List.map_nil, List.foldl_cons, List.foldl_nil, Act.put, List.setIfInBounds_toArray, List.set_cons_zero, List.set_cons_succ, hx5, hx6, hy4, ← hu1, ← hu3]
  clear hx5 hx6 hy4 hu1 hu3
  rw [HD.out] at hN
  rw [← HU.out] at hM
  have HM := Lib.hid hM
  have hV7' := (hV7.2.1 rfl).1
  have hT7 := (hV7.2.1 rfl).2
  obtain ⟨o1, o2, o3, o4, g0, g1, g2, g3, -⟩ := hV7'.cells
  have HF0 := Lib.hid hF
  have HN := Lib.hid hN
  have HV7 := Lib.hid hV7'
  have HT7 := Lib.hid hT7
  have HBZ := Lib.hid hbz
  clear hM hF hN hV6 hV7 hV7' hT7 hbz
  (refine oL 8 rfl fun K hK => tL ?_; go_simp)
  (go_wp2_with fail; refine hK.out _ _ (fun h => absurd h (by decide)) ?_; clear hK; refine tL ?_)
  refine wpAnyT_done (by kernel_rfl) ?_ _
  clear g0 g1 g2 g3 p0 p1 q0 q1
  have hb7 := (ButS.set wz B7 0 (.bool s4)).trans (ButS.set _ B7 1 (.slice a4 n4 k4))
  have hnw7 : ∀ g, g = B7 → NoW wz g := fun g e => by subst e; obtain ⟨_, _, _, _, _, _, h⟩ := HV7.out; exact h
  have k4' := Vx.put HV7.out.va HN.out
  have k5 := HF0.out.fr7 hb7 hnw7 HT7.out hne
  have hbl3 := ButS.below HBZ.out hb7 HBZ.out.size (fun g e => by omega)
  have HF6 := Lib.hid k5
  have HD7 := Lib.hid k4'
  replace HL := Lib.hid (Bl.up HL.out hbl3)
  clear hb7 hnw7 k4' k5 hbl3 HN HV7 HT7 HF0 HBZ hB6 hB7 HX HY
  generalize (wz.setCell ⟨B7, 0, none⟩ (.bool s4)).setCell ⟨B7, 1, none⟩ (.slice a4 n4 k4) = w3 at *
  have HG := Lib.hid HM.out.good
  obtain ⟨z, ⟨d0, d1, d2, d3, d4⟩, hfx, -⟩ := HF6.out.cells
  obtain ⟨o1, o2, o3, o4, g0, g1, -, -, hdv⟩ := HD7.out.cells
  have HFX := Lib.hid hfx
  have HDV := Lib.hid hdv
  clear hfx hdv
  go_wp2_with fail
  refine (split_ok _ _ f dN w3 HFX.out HDV.out HG.out.1 HG.out.2.1 HD1.out.1 HD1.out.2).mono ?_
  rintro e w4 ⟨o, hcb, hb4, hcase⟩
  replace HF6 := Lib.hid (HF6.out.up hb4)
  replace HD7 := Lib.hid (HD7.out.up hb4)
  replace HL := Lib.hid (Bl.up HL.out hb4)
  have hfi := fresh_iff HG.out.1 hcb HD1.out.1
  have HCB := Lib.hid hcb
  clear hb4 hcb d0 d1 d2 d3 d4 g0 g1 HFX HDV
  rcases hcase with ⟨hfr, v, g, rfl, hGv, hsp⟩ | ⟨hfr, v, rfl, hGv⟩
  case inr =>
    have hns : ¬ splitsP f dN := fun h => hfr (hfi.2 h)
    obtain ⟨y, rfl, hFy⟩ := hGv.shape
    have hb3 := below_new w4 (.cells #[.bool y.s, .slice y.a y.n y.c, .slice y.a2 y.n2 y.c2, .slice y.a3 y.n3 y.c3, .int .i64 y.b] 36)
    replace HF6 := Lib.hid (HF6.out.up hb3)
    replace HD7 := Lib.hid (HD7.out.up hb3)
    replace HL := Lib.hid (Bl.up HL.out hb3)
    have HNS := Lib.hid hns
    clear hb3 hGv hFy hns hfr hfi
    go_upto_region 6 with fail
    generalize w4.alloc (.cells #[.bool y.s, .slice y.a y.n y.c, .slice y.a2 y.n2 y.c2, .slice y.a3 y.n3 y.c3, .int .i64 y.b] 36) = w5 at *
    generalize w4.heap.size = B8 at *
    obtain ⟨z, ⟨d0, d1, d2, d3, d4⟩, hfx, -⟩ := HF6.out.cells
    obtain ⟨o1, o2, o3, o4, g0, g1, -, -, hdv⟩ := HD7.out.cells
    have HFX := Lib.hid hfx
    have HDV := Lib.hid hdv
    clear hfx hdv
    go_wp2_with fail
    refine (splits_any _ _ f dN w5 HFX.out HDV.out HG.out.1 HG.out.2.1 HD1.out.1 HD1.out.2).mono ?_
    rintro e w6 ⟨⟨bo, rfl, hbo⟩, hb6⟩
    obtain rfl : bo = false := by
      cases bo
      · rfl
      · exact absurd (hbo.1 rfl) HNS.out
    replace HL := Lib.hid (Bl.up HL.out hb6)
    clear hbo hb6 d0 d1 d2 d3 d4 g0 g1
    go_wp2_with fail
    go_ret
    exact ⟨rfl, HL.out⟩
  have HSPf := Lib.hid (hfi.1 hfr)
  have HGR := Lib.hid (hsp.right HG.out.1 HCB.out)
  have HGM := Lib.hid (show Md g.N by rw [hsp.1]; exact HG.out.2.1)
  have HRF := Lib.hid (hsp.refines HG.out.1 HCB.out)
  have HLF := Lib.hid (hsp.left HG.out.1 HCB.out)
  have HAG := Lib.hid (fun (o' : List Nat) (h' : CB (ks g.R ++ [dN]) o') => hsp.again HG.out.1 HCB.out h' HD1.out.1)
  have HMB := Lib.hid (fun (p : Nat × Nat) (hp : p ∈ f.P) => hsp.member hp)
  have HBD := Lib.hid (show g.B = f.B from hsp.2.1)
  obtain ⟨y, rfl, hFy⟩ := hGv.shape
  have hB8 := Bf.new hFy
  have hb3 := below_new w4 (.cells #[.bool y.s, .slice y.a y.n y.c, .slice y.a2 y.n2 y.c2, .slice y.a3 y.n3 y.c3, .int .i64 y.b] 36)
  have HG8 := Lib.hid hB8
  replace HF6 := Lib.hid (HF6.out.up hb3)
  replace HD7 := Lib.hid (HD7.out.up hb3)
  replace HL := Lib.hid (Bl.up HL.out hb3)
  clear hb3 hGv hFy hfr hfi hsp hB8
  go_upto_region 6 with fail
  generalize w4.alloc (.cells #[.bool y.s, .slice y.a y.n y.c, .slice y.a2 y.n2 y.c2, .slice y.a3 y.n3 y.c3, .int .i64 y.b] 36) = w5 at *
  generalize w4.heap.size = B8 at *
  obtain ⟨z, ⟨d0, d1, d2, d3, d4⟩, hgx, -⟩ := HG8.out.cells
  obtain ⟨o1, o2, o3, o4, g0, g1, -, -, hdv⟩ := HD7.out.cells
  have HGX := Lib.hid hgx
  have HDV := Lib.hid hdv
  clear hgx hdv
  go_wp2_with fail
  refine (split_ok _ _ g dN w5 HGX.out HDV.out HGR.out HGM.out HD1.out.1 HD1.out.2).mono ?_
  rintro e w6 ⟨o', hcb', hb4, hcase⟩
  rcases hcase with ⟨hfr, -⟩ | ⟨hfr, v, rfl, hGv⟩
  case inl => exact absurd hfr (HAG.out o' hcb')
  obtain ⟨y, rfl, hFy⟩ := hGv.shape
  have hb3 := Bl.up hb4 (below_new w6 (.cells #[.bool y.s, .slice y.a y.n y.c, .slice y.a2 y.n2 y.c2, .slice y.a3 y.n3 y.c3, .int .i64 y.b] 36))
  replace HF6 := Lib.hid (HF6.out.up hb3)
  replace HG8 := Lib.hid (HG8.out.up hb3)
  replace HD7 := Lib.hid (HD7.out.up hb3)
  replace HL := Lib.hid (Bl.up HL.out hb3)
  clear hb3 hb4 hGv hFy hfr hcb' d0 d1 d2 d3 d4 g0 g1 HGX HDV
  go_upto_region 9 with fail
  generalize w6.alloc (.cells #[.bool y.s, .slice y.a y.n y.c, .slice y.a2 y.n2 y.c2, .slice y.a3 y.n3 y.c3, .int .i64 y.b] 36) = w7 at *
  obtain ⟨⟨sf, af, nf, kf, aP, nP, cP, aR, nR, cR, bf⟩, ⟨d0, d1, d2, d3, d4⟩, hfx, -, hP6, -, e2, -, eb⟩ := HF6.out.cells
  obtain ⟨⟨sg, ag, ng, kg, gaP, gnP, gcP, gaR, gnR, gcR, bg⟩, ⟨g0, g1, g2, g3, g4⟩, hgx, -, hP8, hR8, h2, h3, gb⟩ := HG8.out.cells
  dsimp only at d0 d1 d2 d3 d4 hfx hP6 e2 eb g0 g1 g2 g3 g4 hgx hP8 hR8 h2 h3 gb
  obtain ⟨o1, o2, o3, o4, e0, e1, -, -, hdv⟩ := HD7.out.cells
  obtain rfl : bg = bf := by rw [gb, eb]; show (g.B : Int) = (f.B : Int); rw [HBD.out]
  obtain rfl : nP = f.P.length := e2.trans (zP_len _)
  obtain rfl : gnR = g.R.length := h3.trans (zP_len _)
  have HP6 := Lib.hid (show Sr eP w7 (.slice aP f.P.length cP) (zP f.P) from hP6)
  have HP8 := Lib.hid (show Sr eP w7 (.slice gaP gnP gcP) (zP g.P) from hP8)
  have HR8 := Lib.hid (show Sr eP w7 (.slice gaR g.R.length gcR) (zP g.R) from hR8)
  have HFX := Lib.hid hfx
  have HGX := Lib.hid hgx
  have HDV := Lib.hid hdv
  have HGL := Lib.hid (HGR.out.len HGM.out)
  have HFL := Lib.hid (HG.out.1.len HG.out.2.1)
  clear hfx hgx hdv e2 eb h2 h3 gb hP6 hP8 hR8
  go_wp2_with fail
  refine (rright_any _ (zF g) w7 HGX.out (HGR.out.szf HGM.out) (by have := HGL.out; show (zP g.P).length ≤ _; rw [zP_len]; omega) (by have := HGL.out; show (zP g.R).length ≤ _; rw [zP_len]; omega)).mono ?_
  rintro e w8 ⟨rfl, hb⟩
  rw [show rightB (zF g) = true from rightB_of (right_nat.2 HGR.out)]
  replace d0 := keepc hb (d0)
  replace d1 := keepc hb (d1)
  replace d2 := keepc hb (d2)
  replace d3 := keepc hb (d3)
  replace d4 := keepc hb (d4)
  replace g0 := keepc hb (g0)
  replace g1 := keepc hb (g1)
  replace g2 := keepc hb (g2)
  replace g3 := keepc hb (g3)
  replace g4 := keepc hb (g4)
  replace e0 := keepc hb (e0)
  replace e1 := keepc hb (e1)
  replace HFX := Lib.hid (HFX.out.up hb)
  replace HGX := Lib.hid (HGX.out.up hb)
  replace HDV := Lib.hid (HDV.out.up hb)
  replace HP6 := Lib.hid (HP6.out.up hb)
  replace HP8 := Lib.hid (HP8.out.up hb)
  replace HR8 := Lib.hid (HR8.out.up hb)
  replace HL := Lib.hid (Bl.up HL.out hb)
  clear hb
  go_wp2_with fail
  refine (rrefines_any _ _ g f w8 HGX.out HFX.out HGR.out HG.out.1 HGM.out HRF.out).mono ?_
  rintro e w9 ⟨rfl, hb⟩
  replace d0 := keepc hb (d0)
  replace d1 := keepc hb (d1)
  replace d2 := keepc hb (d2)
  replace d3 := keepc hb (d3)
  replace d4 := keepc hb (d4)
  replace g0 := keepc hb (g0)
  replace g1 := keepc hb (g1)
  replace g2 := keepc hb (g2)
  replace g3 := keepc hb (g3)
  replace g4 := keepc hb (g4)
  replace e0 := keepc hb (e0)
  replace e1 := keepc hb (e1)
  replace HFX := Lib.hid (HFX.out.up hb)
  replace HDV := Lib.hid (HDV.out.up hb)
  replace HP6 := Lib.hid (HP6.out.up hb)
  replace HP8 := Lib.hid (HP8.out.up hb)
  replace HR8 := Lib.hid (HR8.out.up hb)
  replace HL := Lib.hid (Bl.up HL.out hb)
  clear hb HGX
  go_wp2_with fail
  refine (splits_any _ _ f dN w9 HFX.out HDV.out HG.out.1 HG.out.2.1 HD1.out.1 HD1.out.2).mono ?_
  rintro e w10 ⟨⟨bo, rfl, hbo⟩, hb⟩
  obtain rfl : bo = true := hbo.2 HSPf.out
  replace d0 := keepc hb (d0)
  replace d1 := keepc hb (d1)
  replace d2 := keepc hb (d2)
  replace d3 := keepc hb (d3)
  replace d4 := keepc hb (d4)
  replace g0 := keepc hb (g0)
  replace g1 := keepc hb (g1)
  replace g2 := keepc hb (g2)
  replace g3 := keepc hb (g3)
  replace g4 := keepc hb (g4)
  replace e0 := keepc hb (e0)
  replace e1 := keepc hb (e1)
  replace HDV := Lib.hid (HDV.out.up hb)
  replace HP6 := Lib.hid (HP6.out.up hb)
  replace HP8 := Lib.hid (HP8.out.up hb)
  replace HR8 := Lib.hid (HR8.out.up hb)
  replace HL := Lib.hid (Bl.up HL.out hb)
  clear hb hbo HFX
  have hbs0 := HL.out.size
  have hgrl : g.R.length ≤ 65536 := by have := HGL.out; omega
  have hfpl : f.P.length ≤ 65536 := by have := HFL.out; omega
  have hB8lt := cell_lt g3
  have hB6lt := cell_lt d2
  go_upto_region 12 with fail
  have hV12 := Vx.new (w := w10) (T := 33) rfl HDV.out
  have hb := below_new w10 (.cells #[.bool o1, .slice o2 o3 o4] 33)
  replace d0 := keepc hb (d0)
  replace d1 := keepc hb (d1)
  replace d2 := keepc hb (d2)
  replace d3 := keepc hb (d3)
  replace d4 := keepc hb (d4)
  replace g0 := keepc hb (g0)
  replace g1 := keepc hb (g1)
  replace g2 := keepc hb (g2)
  replace g3 := keepc hb (g3)
  replace g4 := keepc hb (g4)
  replace HP6 := Lib.hid (HP6.out.up hb)
  replace HP8 := Lib.hid (HP8.out.up hb)
  replace HR8 := Lib.hid (HR8.out.up hb)
  replace HL := Lib.hid (Bl.up HL.out hb)
  have HT12 := Lib.hid (show Two (w10.alloc (.cells #[.bool o1, .slice o2 o3 o4] 33)) w10.heap.size from ⟨_, _, _, _, heap_alloc_new w10 (.cells #[.bool o1, .slice o2 o3 o4] 33)⟩)
  clear e0 e1 hb HDV HD7 HF6 HG8
  generalize w10.alloc (.cells #[.bool o1, .slice o2 o3 o4] 33) = w11 at *
  generalize w10.heap.size = B12 at *
  have HV12 := Lib.hid hV12
  clear hV12
  have hne8 : ¬ B8 = B12 := by omega
  have hne6 : ¬ B6 = B12 := by omega
  go_wp2_with fail
  go_loopw [13] (fun s13 wq => ∃ k : Nat, s13 = .int .i64 (k : Int) ∧ k ≤ g.R.length ∧ Vx wq B12 (strip dN ((ks g.R).take k) : Nat) ∧ ButS (fun g => g = B12) w11 wq)
    (fun s13 _ => g.R.length - (intOf s13).toNat)
  case atStart => exact ⟨0, rfl, Nat.zero_le _, by rw [List.take_zero]; exact HV12.out, ButS.refl _ _⟩
  case round =>
    obtain ⟨k, rfl, hk, hV, hbs⟩ := hrel
    have hnB : ∀ g, g = B12 → NoW w11 g := fun g e => by subst e; obtain ⟨_, _, _, _, _, _, h⟩ := HV12.out; exact h
    have q3 := cell_fr hbs (cell_lt g3) hne8 g3
    have hsl := strip_le (l := (ks g.R).take k) (fun y hy => HGR.out.incR.big (List.mem_of_mem_take hy)) HD1.out.1
    by_cases hkl : k < g.R.length
    · have hkz : k < (zP g.R).length := by rw [zP_len]; exact hkl
      have hkk : k < (ks g.R).length := by rw [ks_len]; exact hkl
      have hvl := HR8.out.fr hbs hnB (fun hl0 => by obtain ⟨_, _, _, _, h2⟩ := HT12.out; exact HR8.out.not_two h2 hl0)
      obtain ⟨bl, offl, rfl, hbl', hla⟩ := hvl.at hkz
      obtain ⟨sl, xl, nl, kl, y0, y1, -, hy⟩ := hla.pow hkz
      rw [zP_getD] at hy
      have hymem : (g.R.getD k (0, 0)).1 ∈ ks g.R := ks_mem (by rw [List.getD_eq_getElem?_getD, List.getElem?_eq_getElem hkl]; exact List.getElem_mem _)
      have hy2 := HGR.out.incR.big hymem
      have hyM := HGR.out.szk HGM.out (x := (g.R.getD k (0, 0)).1) (by rw [ks_append]; exact List.mem_append_right _ hymem)
      have hsn := strip_snoc dN hkk
      have hge : (ks g.R).getD k 0 = (g.R.getD k (0, 0)).1 := by simp [ks, List.getD_eq_getElem?_getD, hkl]
      rw [hge] at hsn
      obtain ⟨y, hy0⟩ : ∃ y, (g.R.getD k (0, 0)).1 = y := ⟨_, rfl⟩
      rw [hy0] at hy hy2 hyM hsn
      obtain ⟨n, hn⟩ : ∃ n, strip dN ((ks g.R).take k) = n := ⟨_, rfl⟩
      rw [hn] at hV hsl hsn
      have hsz1 := Nat.le_trans ((HD1.out.2.mono hsl.2).sz (Nat.le_refl _)) (show 4096 ≤ 1099511627776 by decide)
      have hsz2 := Nat.le_trans hyM (show 4096 ≤ 1099511627776 by decide)
      obtain ⟨r1, r2, r3, r4, z0, z1, -, -, hvn⟩ := hV.cells
      have HV2 := Lib.hid hV
      have HBS := Lib.hid hbs
      have HSN := Lib.hid hsn
      have HY := Lib.hid hy
      have HVN := Lib.hid hvn
      clear hge hy0 hn hV hbs hsn hy hvn hyM hymem hla hvl hkk hkz hnB
      have j0 : (0 : Int) ≤ (k : Int) := by omega
      have j1 : (k : Int) < (g.R.length : Int) := by omega
      go_upto_region 15 with fail
      refine wp_region_T (by kernel_rfl) [11] (S := fun w' => w'.cell? ⟨B12, 0, none⟩ = some (.bool r1) ∧ w'.cell? ⟨B12, 1, none⟩ = some (.slice r2 r3 r4) ∧ w'.cell? ⟨B8, 3, none⟩ = some (.slice (some ⟨bl, offl, none⟩) g.R.length gcR) ∧ w'.cell? ⟨bl, offl + k * 3, none⟩ = some (.bool sl) ∧ w'.cell? ⟨bl, offl + k * 3 + 1, none⟩ = some (.slice xl nl kl)) ⟨z0, z1, q3, y0, y1⟩ (fun hHeld => ?_)
      (refine kL 0 rfl ?_; refine kL 1 rfl ?_; refine kL 2 rfl ?_; refine kL 3 rfl ?_; refine kL 4 rfl ?_; refine kL 5 rfl ?_; refine kL 6 rfl ?_)
      (refine oL 7 rfl fun K hK => tL ?_; go_simp)
      refine (rtimes2_any _ _ n y _ (HVN.out.up (Below.refl _ _).drew) (HY.out.up (Below.refl _ _).drew) hsl.1 hy2 hsz1 hsz2).mono ?_
      rintro e w16 ⟨v, rfl, hv, hb6⟩
      obtain ⟨s6, a6, n6, c6, rfl⟩ := hv.shape
      replace z0 := keepc hb6 (cellD z0)
      replace z1 := keepc hb6 (cellD z1)
      replace y0 := keepc hb6 (cellD y0)
      replace y1 := keepc hb6 (cellD y1)
      replace q3 := keepc hb6 (cellD q3)
      have hV6 := (HV2.out.up (Below.refl _ _).drew).up hb6
      have hB6 := HBS.out.dr.up hb6
      obtain ⟨o1, o2, o3, o4, x0, x1, x2, x3, -⟩ := hV6.cells
      have HV6 := Lib.hid hV6
      have HB6 := Lib.hid hB6
      have Hv := Lib.hid hv
      clear hV6 hB6 hv hb6 HY HVN HV2 HBS
      (go_wp2_with fail; clear hHeld; have hHeld : (fun w' : World => w'.cell? ⟨B12, 0, none⟩ = some (.bool r1) ∧ w'.cell? ⟨B12, 1, none⟩ = some (.slice r2 r3 r4) ∧ w'.cell? ⟨B8, 3, none⟩ = some (.slice (some ⟨bl, offl, none⟩) g.R.length gcR) ∧ w'.cell? ⟨bl, offl + k * 3, none⟩ = some (.bool sl) ∧ w'.cell? ⟨bl, offl + k * 3 + 1, none⟩ = some (.slice xl nl kl)) (w16) := ⟨z0, z1, q3, y0, y1⟩; refine hK.out _ _ (fun _ => hHeld) ?_; clear hK; refine tL ?_)
      (refine pL 8 rfl ?_; refine pL 9 rfl ?_; refine pL 10 rfl ?_)
      (refine oL 11 rfl fun K hK => tL ?_; go_simp)
      (go_wp2_with fail; refine hK.out _ _ (fun h => absurd h (by decide)) ?_; clear hK; refine tL ?_)
      refine wpAnyT_done (by kernel_rfl) ?_ _
      clear z0 z1 y0 y1 x0 x1 x2 x3 q3
      go_wp2_with fail
      refine ⟨⟨k + 1, by go_num, by omega, by rw [HSN.out]; exact Vx.put HV6.out.va Hv.out, HB6.out.trans ((ButS.set w16 B12 0 (.bool s6)).trans (ButS.set _ B12 1 (.slice a6 n6 c6)))⟩, by simp [intOf]; omega⟩
    · obtain rfl : k = g.R.length := by omega
      rw [show g.R.length = (ks g.R).length from (ks_len g.R).symm, List.take_length] at hV
      have hlfl := HLF.out
      obtain ⟨lf, hlf⟩ : ∃ lf, strip dN (ks g.R) = lf := ⟨_, rfl⟩
      rw [hlf] at hV hlfl
      have hlle : lf ≤ dN := by rw [← hlf]; exact (strip_le (l := ks g.R) (fun y hy => HGR.out.incR.big hy) HD1.out.1).2
      have hszl := Nat.le_trans ((HD1.out.2.mono hlle).sz (Nat.le_refl _)) (show 4096 ≤ 1099511627776 by decide)
      have p2 := cell_fr hbs (cell_lt g2) hne8 g2
      have d2' := cell_fr hbs (cell_lt d2) hne6 d2
      have hR := HR8.out.fr hbs hnB (fun hl0 => by obtain ⟨_, _, _, _, h2⟩ := HT12.out; exact HR8.out.not_two h2 hl0)
      have hP := HP8.out.fr hbs hnB (fun hl0 => by obtain ⟨_, _, _, _, h2⟩ := HT12.out; exact HP8.out.not_two h2 hl0)
      have hF := HP6.out.fr hbs hnB (fun hl0 => by obtain ⟨_, _, _, _, h2⟩ := HT12.out; exact HP6.out.not_two h2 hl0)
      have hLw := ButS.below HL.out hbs HL.out.size (fun g e => by omega)
      have HR := Lib.hid hR
      have HP := Lib.hid hP
      have HF := Lib.hid hF
      have HLw := Lib.hid hLw
      have HLC := Lib.hid hlfl.2
      have HVl := Lib.hid hV
      clear hR hP hF hLw hlfl hV hbs hsl hlf hlle hnB g0 g1 g2 g3 g4 d0 d1 d2 d3 d4 HR8 HP8 HP6 HV12 HT12 HL
      obtain ⟨wl, hwl⟩ : ∃ wl, wl = wr := ⟨wr, rfl⟩
      rw [← hwl] at q3 p2 d2' HR HP HF HLw HVl ⊢
      clear hwl
      go_wp2_with fail
      go_loopw [14] (fun s14 wq => ∃ j : Nat, s14 = .int .i64 (j : Int) ∧ j ≤ g.R.length ∧ Below wl.heap.size wl wq)
        (fun s14 _ => g.R.length - (intOf s14).toNat)
      case atStart => exact ⟨0, rfl, Nat.zero_le _, Below.refl _ _⟩
      case round =>
        obtain ⟨j, rfl, hj, hbq⟩ := hrel
        have q4 := keepc hbq q3
        by_cases hjl : j < g.R.length
        · have hkz : j < (zP g.R).length := by rw [zP_len]; exact hjl
          obtain ⟨bl, offl, rfl, hbl', hla⟩ := (HR.out.up hbq).at hkz
          obtain ⟨sl, xl, nl, kl, y0, y1, -, hy⟩ := hla.pow hkz
          rw [zP_getD] at hy
          have hymem : (g.R.getD j (0, 0)).1 ∈ ks g.R := ks_mem (by rw [List.getD_eq_getElem?_getD, List.getElem?_eq_getElem hjl]; exact List.getElem_mem _)
          have hyM := HGR.out.szk HGM.out (x := (g.R.getD j (0, 0)).1) (by rw [ks_append]; exact List.mem_append_right _ hymem)
          have hcop := HLC.out _ hymem
          obtain ⟨y, hy0⟩ : ∃ y, (g.R.getD j (0, 0)).1 = y := ⟨_, rfl⟩
          rw [hy0] at hy hyM hcop
          have hsz2 := Nat.le_trans hyM (show 4096 ≤ 1099511627776 by decide)
          have hgc : ((Int.gcd (lf : Int) (y : Int) : Nat) : Int) = 1 := by
            have h1 : Int.gcd (lf : Int) (y : Int) = Nat.gcd lf y := rfl
            rw [h1]
            have h2 : Nat.gcd lf y = 1 := hcop
            rw [h2]; rfl
          obtain ⟨r1, r2, r3, r4, z0, z1, -, -, hvn⟩ := (HVl.out.up hbq).cells
          have HBQ := Lib.hid hbq
          have HY := Lib.hid hy
          have HVN := Lib.hid hvn
          have HGC := Lib.hid hgc
          clear hy0 hbq hy hvn hyM hymem hla hkz hcop hgc
          have j0 : (0 : Int) ≤ (j : Int) := by omega
          have j1 : (j : Int) < (g.R.length : Int) := by omega
          go_upto_region 19 with fail
          refine wp_region_T (by kernel_rfl) [] (S := fun w' => w'.cell? ⟨B12, 0, none⟩ = some (.bool r1) ∧ w'.cell? ⟨B12, 1, none⟩ = some (.slice r2 r3 r4) ∧ w'.cell? ⟨B8, 3, none⟩ = some (.slice (some ⟨bl, offl, none⟩) g.R.length gcR) ∧ w'.cell? ⟨bl, offl + j * 3, none⟩ = some (.bool sl) ∧ w'.cell? ⟨bl, offl + j * 3 + 1, none⟩ = some (.slice xl nl kl)) ⟨z0, z1, q4, y0, y1⟩ (fun hHeld => ?_)
          (refine kL 0 rfl ?_; refine kL 1 rfl ?_; refine kL 2 rfl ?_; refine kL 3 rfl ?_; refine kL 4 rfl ?_; refine kL 5 rfl ?_; refine kL 6 rfl ?_)
          (refine oL 7 rfl fun K hK => tL ?_; go_simp)
          refine (rgcd_any _ _ (lf : Int) (y : Int) _ (HVN.out.up (Below.refl _ _).drew) (HY.out.up (Below.refl _ _).drew) hszl hsz2).mono ?_
          rintro e w16 ⟨v, rfl, hv, hb6⟩
          rw [HGC.out] at hv
          replace z0 := keepc hb6 (cellD z0)
          replace z1 := keepc hb6 (cellD z1)
          replace y0 := keepc hb6 (cellD y0)
          replace y1 := keepc hb6 (cellD y1)
          replace q4 := keepc hb6 (cellD q4)
          replace HBQ := Lib.hid (Bl.up (Bl.drew HBQ.out) hb6)
          have Hv := Lib.hid hv
          clear hv hb6 HY HVN
          (go_wp2_with fail; clear hHeld; have hHeld : (fun w' : World => w'.cell? ⟨B12, 0, none⟩ = some (.bool r1) ∧ w'.cell? ⟨B12, 1, none⟩ = some (.slice r2 r3 r4) ∧ w'.cell? ⟨B8, 3, none⟩ = some (.slice (some ⟨bl, offl, none⟩) g.R.length gcR) ∧ w'.cell? ⟨bl, offl + j * 3, none⟩ = some (.bool sl) ∧ w'.cell? ⟨bl, offl + j * 3 + 1, none⟩ = some (.slice xl nl kl)) (w16) := ⟨z0, z1, q4, y0, y1⟩; refine hK.out _ _ (fun _ => hHeld) ?_; clear hK; refine tL ?_)
          (refine oL 8 rfl fun K hK => tL ?_; go_simp)
          refine (rof_any 1 _ (by decide) (by decide)).mono ?_
          rintro e w17 ⟨v1, rfl, hv1, hb6⟩
          replace z0 := keepc hb6 z0
          replace z1 := keepc hb6 z1
          replace y0 := keepc hb6 y0
          replace y1 := keepc hb6 y1
          replace q4 := keepc hb6 q4
          replace HBQ := Lib.hid (Bl.up HBQ.out hb6)
          replace Hv := Lib.hid (Hv.out.up hb6)
          clear hb6
          (go_wp2_with fail; clear hHeld; have hHeld : (fun w' : World => w'.cell? ⟨B12, 0, none⟩ = some (.bool r1) ∧ w'.cell? ⟨B12, 1, none⟩ = some (.slice r2 r3 r4) ∧ w'.cell? ⟨B8, 3, none⟩ = some (.slice (some ⟨bl, offl, none⟩) g.R.length gcR) ∧ w'.cell? ⟨bl, offl + j * 3, none⟩ = some (.bool sl) ∧ w'.cell? ⟨bl, offl + j * 3 + 1, none⟩ = some (.slice xl nl kl)) (w17) := ⟨z0, z1, q4, y0, y1⟩; refine hK.out _ _ (fun _ => hHeld) ?_; clear hK; refine tL ?_)
          (refine oL 9 rfl fun K hK => tL ?_; go_simp)
          refine (rcmp_any _ _ 1 1 w17 Hv.out hv1 (by decide) (by decide)).mono ?_
          rintro e w18 ⟨rfl, hb6⟩
          rw [show cmpI 1 1 = 0 from rfl]
          replace z0 := keepc hb6 z0
          replace z1 := keepc hb6 z1
          replace y0 := keepc hb6 y0
          replace y1 := keepc hb6 y1
          replace q4 := keepc hb6 q4
          replace HBQ := Lib.hid (Bl.up HBQ.out hb6)
          clear hb6 hv1
          (go_wp2_with fail; clear hHeld; have hHeld : (fun w' : World => w'.cell? ⟨B12, 0, none⟩ = some (.bool r1) ∧ w'.cell? ⟨B12, 1, none⟩ = some (.slice r2 r3 r4) ∧ w'.cell? ⟨B8, 3, none⟩ = some (.slice (some ⟨bl, offl, none⟩) g.R.length gcR) ∧ w'.cell? ⟨bl, offl + j * 3, none⟩ = some (.bool sl) ∧ w'.cell? ⟨bl, offl + j * 3 + 1, none⟩ = some (.slice xl nl kl)) (w18) := ⟨z0, z1, q4, y0, y1⟩; refine hK.out _ _ (fun _ => hHeld) ?_; clear hK; refine tL ?_)
          (refine kL 10 rfl ?_)
          refine wpAnyT_done (by kernel_rfl) ?_ _
          clear hHeld z0 z1 y0 y1 q4
          go_wp2_with fail
          refine ⟨⟨j + 1, by go_num, by omega, HBQ.out⟩, by simp [intOf]; omega⟩
        · obtain rfl : j = g.R.length := by omega
          have p3 := keepc hbq p2
          have d3 := keepc hbq d2'
          have HBQ := Lib.hid hbq
          have HLq := Lib.hid (Bl.up HLw.out hbq)
          replace HP := Lib.hid (HP.out.up hbq)
          replace HF := Lib.hid (HF.out.up hbq)
          clear hbq q3 p2 d2' HLw HBQ
          obtain ⟨wl2, hwl⟩ : ∃ wl2, wl2 = wr := ⟨wr, rfl⟩
          rw [← hwl] at q4 p3 d3 HP HF HLq ⊢
          clear hwl
          go_wp2_with fail
          go_loopw [15] (fun s15 wq => ∃ m : Nat, s15 = .int .i64 (m : Int) ∧ m ≤ f.P.length ∧ Below wl2.heap.size wl2 wq)
            (fun s15 _ => f.P.length - (intOf s15).toNat)
          case atStart => exact ⟨0, rfl, Nat.zero_le _, Below.refl _ _⟩
          case round =>
            obtain ⟨m, rfl, hm, hbq⟩ := hrel
            have q5 := keepc hbq p3
            have q6 := keepc hbq d3
            by_cases hml : m < f.P.length
            · have hkz : m < (zP f.P).length := by rw [zP_len]; exact hml
              obtain ⟨bl, offl, rfl, hbl', hla⟩ := (HF.out.up hbq).at hkz
              obtain ⟨sl, xl, nl, kl, y0, y1, y2, hy⟩ := hla.pow hkz
              rw [zP_getD] at y2 hy
              have hxm : f.P.getD m (0, 0) ∈ f.P := by rw [List.getD_eq_getElem?_getD, List.getElem?_eq_getElem hml]; exact List.getElem_mem _
              have hxM := HG.out.1.szk HG.out.2.1 (ks_mem (List.mem_append_left f.R hxm))
              have hxg := HMB.out _ hxm
              obtain ⟨x, hx0⟩ : ∃ x, f.P.getD m (0, 0) = x := ⟨_, rfl⟩
              rw [hx0] at y2 hy hxM hxg
              have HX := Lib.hid hy
              have HXM := Lib.hid hxM
              have HXG := Lib.hid hxg
              have HBQ := Lib.hid hbq
              have HPq := Lib.hid (HP.out.up hbq)
              clear hx0 hy hxM hxg hxm hbq hla hkz
              have j0 : (0 : Int) ≤ (m : Int) := by omega
              have j1 : (m : Int) < (f.P.length : Int) := by omega
              go_upto_region 24 with fail
              refine wp_region_T (by kernel_rfl) [] (S := fun w' => w'.cell? ⟨B8, 2, none⟩ = some (.slice gaP gnP gcP) ∧ w'.cell? ⟨B6, 2, none⟩ = some (.slice (some ⟨bl, offl, none⟩) f.P.length cP) ∧ w'.cell? ⟨bl, offl + m * 3, none⟩ = some (.bool sl) ∧ w'.cell? ⟨bl, offl + m * 3 + 1, none⟩ = some (.slice xl nl kl) ∧ w'.cell? ⟨bl, offl + m * 3 + 2, none⟩ = some (.int .i64 (x.2 : Int))) ⟨q5, q6, y0, y1, y2⟩ (fun hHeld => ?_)
              (refine kL 0 rfl ?_; refine kL 1 rfl ?_; refine kL 2 rfl ?_; refine kL 3 rfl ?_; refine kL 4 rfl ?_; refine kL 5 rfl ?_; refine kL 6 rfl ?_)
              (refine oL 7 rfl fun K hK => tL ?_; go_simp)
              refine (member_any _ sl xl nl kl (zP g.P) ((x.1 : Int), (x.2 : Int)) _ (HPq.out.up (Below.refl _ _).drew) (HX.out.up (Below.refl _ _).drew) (HGR.out.szP HGM.out) (Nat.le_trans HXM.out (by decide))).mono ?_
              rintro e w16 ⟨rfl, hb6⟩
              rw [decide_eq_true (show ((x.1 : Int), (x.2 : Int)) ∈ zP g.P from List.mem_map.2 ⟨x, HXG.out, rfl⟩)]
              replace q5 := keepc hb6 (cellD q5)
              replace q6 := keepc hb6 (cellD q6)
              replace y0 := keepc hb6 (cellD y0)
              replace y1 := keepc hb6 (cellD y1)
              replace y2 := keepc hb6 (cellD y2)
              replace HBQ := Lib.hid (Bl.up (Bl.drew HBQ.out) hb6)
              clear hb6 HX HPq
              (go_wp2_with fail; clear hHeld; have hHeld : (fun w' : World => w'.cell? ⟨B8, 2, none⟩ = some (.slice gaP gnP gcP) ∧ w'.cell? ⟨B6, 2, none⟩ = some (.slice (some ⟨bl, offl, none⟩) f.P.length cP) ∧ w'.cell? ⟨bl, offl + m * 3, none⟩ = some (.bool sl) ∧ w'.cell? ⟨bl, offl + m * 3 + 1, none⟩ = some (.slice xl nl kl) ∧ w'.cell? ⟨bl, offl + m * 3 + 2, none⟩ = some (.int .i64 (x.2 : Int))) (w16) := ⟨q5, q6, y0, y1, y2⟩; refine hK.out _ _ (fun _ => hHeld) ?_; clear hK; refine tL ?_)
              (refine kL 8 rfl ?_)
              refine wpAnyT_done (by kernel_rfl) ?_ _
              clear hHeld q5 q6 y0 y1 y2
              go_wp2_with fail
              refine ⟨⟨m + 1, by go_num, by omega, HBQ.out⟩, by simp [intOf]; omega⟩
            · obtain rfl : m = f.P.length := by omega
              have HE := Lib.hid (Bl.up HLq.out hbq)
              clear hbq q5
              go_wp2_with fail
              go_ret
              exact ⟨rfl, HE.out⟩
end Go.Proofs.YtblebpmlkpobnaaGreat
