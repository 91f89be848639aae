/-
  algoristlaw05.whole.
  algoristlaw05.FactorAssociative: the walk.
-/
import Derived.Test.YtblebpmlkpobnaaGreatFP1
import Derived.Test.YtblebpmlkpobnaaGreatFS
import Derived.Test.YtblebpmlkpobnaaGreatFN
import Derived.Test.YtblebpmlkpobnaaGreatFF
import Derived.Test.YtblebpmlkpobnaaGreatFZI
import Derived.Test.YtblebpmlkpobnaaGreatFH1
set_option linter.unusedSimpArgs false
set_option linter.unusedVariables false
set_option maxHeartbeats 8000000
namespace Go.Proofs.YtblebpmlkpobnaaGreat
open Go.RowKit
attribute [local go_sem ↓] Go.wp_at_zero Go.wp_at_succ
def whl (n : Nat) : List (Nat × Nat) := if n = 1 then [] else [(n, 1)]
theorem whl_right {n : Nat} (h : 1 ≤ n) : RightN ⟨n, [], whl n, 0⟩ := by
  unfold whl
  split
  · rename_i e
    subst e
    exact RightN.of (f := ⟨1, [], [], 0⟩) (Nat.zero_le _) ⟨(fun p hp => (List.not_mem_nil hp).elim), List.Pairwise.nil⟩ ⟨(fun p hp => (List.not_mem_nil hp).elim), List.Pairwise.nil⟩ List.Pairwise.nil rfl (fun r hr => (List.not_mem_nil hr).elim)
  · refine RightN.of (f := ⟨n, [], [(n, 1)], 0⟩) (Nat.zero_le _) ⟨(fun p hp => (List.not_mem_nil hp).elim), List.Pairwise.nil⟩ ⟨fun p hp => ?_, List.pairwise_singleton _ _⟩ (List.pairwise_singleton _ _) (by simp [pk]) (fun r hr d h1 h2 => by have h2 : d ≤ 0 := h2; omega)
    obtain rfl : p = (n, 1) := by simpa using hp
    exact ⟨by show 2 ≤ n; omega, Nat.le_refl 1⟩
set_option maxRecDepth 100000 in
theorem whole_nat (va : Value) (n : Nat) (w : World) (hn : It w va n) (hs : sz (n : Int) ≤ 1099511627776) :
    Calls Tryz.prog 32 #[va] w fun e w' => ∃ a k, e = .returned (.slice a (whl n).length k) ∧ Sr eP w' (.slice a (whl n).length k) (zP (whl n)) ∧ Below w.heap.size w w' := by
  obtain ⟨W, s1, a1, n1, c1, rfl, hW, bl, vX, hs1, p0, p1, hx'⟩ := box1 w hn
  clear hn
  go_enter Tryz.func32, Tryz.ntmps32
  go_upto_region 1 with fail
  rw [← hW]
  clear hW p0 p1 hx'
  obtain ⟨r1, r2, r3, r4, q0, q1, -, -, hxl⟩ := vX.cells
  refine wp_region_T (by kernel_rfl) [] (S := fun w' => w'.cell? ⟨w.heap.size, 0, none⟩ = some (.bool r1) ∧ w'.cell? ⟨w.heap.size, 1, none⟩ = some (.slice r2 r3 r4)) ⟨q0, q1⟩ (fun hHeld => ?_)
  replace hxl := hxl.drew
  refine kL 0 rfl ?_
  (refine oL 1 rfl fun K hK => tL ?_; go_simp)
  refine (rof_any 1 _ (by decide) (by decide)).mono ?_
  rintro e w7 ⟨v1, rfl, hv1, hb6⟩
  replace bl := Bl.up (Bl.drew bl) hb6
  replace hxl := hxl.up hb6
  replace vX := vX.drew.up hb6
  replace q0 := keepc hb6 (cellD q0)
  replace q1 := keepc hb6 (cellD q1)
  clear hb6
  (go_wp2_with fail; clear hHeld; have hHeld : (fun w' : World => w'.cell? ⟨w.heap.size, 0, none⟩ = some (.bool r1) ∧ w'.cell? ⟨w.heap.size, 1, none⟩ = some (.slice r2 r3 r4)) (w7) := ⟨q0, q1⟩; refine hK.out _ _ (fun _ => hHeld) ?_; clear hK; refine tL ?_)
  (refine oL 2 rfl fun K hK => tL ?_; go_simp)
  refine (rcmp_any _ _ (n : Int) 1 w7 hxl hv1 (Nat.le_trans hs (by decide)) (by decide)).mono ?_
  rintro e w8 ⟨rfl, hb6⟩
  replace bl := Bl.up bl hb6
  replace vX := vX.up hb6
  replace q0 := keepc hb6 q0
  replace q1 := keepc hb6 q1
  clear hb6 hxl hv1
  by_cases h1 : n = 1
  · have hcm : (cmpI (n : Int) 1 == 0) = true := by rw [beq_iff_eq, cmpI_zero]; omega
    have H1 := Lib.hid h1
    generalize cmpI (n : Int) 1 = cc at *
    clear h1
    (go_wp2_with fail; clear hHeld; have hHeld : (fun w' : World => w'.cell? ⟨w.heap.size, 0, none⟩ = some (.bool r1) ∧ w'.cell? ⟨w.heap.size, 1, none⟩ = some (.slice r2 r3 r4)) (w8) := ⟨q0, q1⟩; refine hK.out _ _ (fun _ => hHeld) ?_; clear hK; refine tL ?_)
    (refine kL 3 rfl ?_)
    refine wpAnyT_done (by kernel_rfl) ?_ _
    clear hHeld q0 q1
    go_wp2_with fail
    go_ret
    have e : whl n = [] := by unfold whl; rw [if_pos H1.out]
    rw [e]
    exact ⟨none, 0, rfl, Sr.nil _ _, bl⟩
  · have hcm : (cmpI (n : Int) 1 == 0) = false := by rw [beq_eq_false_iff_ne, ne_eq, cmpI_zero]; omega
    have H1 := Lib.hid h1
    generalize cmpI (n : Int) 1 = cc at *
    clear h1
    (go_wp2_with fail; clear hHeld; have hHeld : (fun w' : World => w'.cell? ⟨w.heap.size, 0, none⟩ = some (.bool r1) ∧ w'.cell? ⟨w.heap.size, 1, none⟩ = some (.slice r2 r3 r4)) (w8) := ⟨q0, q1⟩; refine hK.out _ _ (fun _ => hHeld) ?_; clear hK; refine tL ?_)
    (refine kL 3 rfl ?_)
    refine wpAnyT_done (by kernel_rfl) ?_ _
    clear hHeld q0 q1
    obtain ⟨r1, r2, r3, r4, q0, q1, -, -, hxl⟩ := vX.cells
    have hD := heap_alloc_new w8 (.cells #[.bool r1, .slice r2 r3 r4, .int .i64 1] 49)
    have hb0 := Below.size (below_new w8 (.cells #[.bool r1, .slice r2 r3 r4, .int .i64 1] 49))
    have hsc : Sc eP (w8.alloc (.cells #[.bool r1, .slice r2 r3 r4, .int .i64 1] 49)) w8.heap.size 0 [((n : Int), 1)] := Sc.one (E := eP) (cs := [.bool r1, .slice r2 r3 r4, .int .i64 1]) hD ⟨r1, r2, r3, r4, rfl, hxl.alloc _⟩
    have hlt := (Array.getElem?_eq_some_iff.1 hD).1
    have hbl := Bl.alloc bl (.cells #[.bool r1, .slice r2 r3 r4, .int .i64 1] 49)
    clear hD hxl vX bl hb0
    go_wp2_with fail
    go_ret
    have e : whl n = [(n, 1)] := by unfold whl; rw [if_neg H1.out]
    rw [e]
    exact ⟨_, 1, rfl, ⟨_, 1, rfl, Nat.le_refl _, .inr ⟨_, 0, rfl, hlt, hsc⟩⟩, hbl⟩
end Go.Proofs.YtblebpmlkpobnaaGreat
namespace Go.Proofs.YtblebpmlkpobnaaGreat
open Go.RowKit
attribute [local go_sem ↓] Go.wp_at_zero Go.wp_at_succ
def ktW (N : Nat) (V : List Tri) (c : Nat) : Kt where
  A := fun i v w => (i = 4 → ∃ a k, v = .slice a (whl N).length k ∧ Sr eP w (.slice a (whl N).length k) (zP (whl N))) ∧ (i = 5 → Fx w v (zF ⟨N, [], whl N, 0⟩)) ∧ (i = 7 → (ktN 7 V c).A 7 v w) ∧ (i = 8 → It w v (pk (kwnN V ++ rstN V) : Nat))
  up := fun h hb => ⟨fun e => by obtain ⟨a, k, h1, h2⟩ := h.1 e; exact ⟨a, k, h1, h2.up hb⟩, fun e => (h.2.1 e).up hb, fun e => (ktN 7 V c).up (h.2.2.1 e) hb, fun e => (h.2.2.2 e).up hb⟩
  fr := fun h hb hB => ⟨fun e => by
      obtain ⟨a, k, h1, h2⟩ := h.1 e
      exact ⟨a, k, h1, h2.fr hb (fun g e => e ▸ hB.nw) (fun hl => Fx.not5 hB h2 hl)⟩, fun e => (h.2.1 e).fr hb (fun g e => e ▸ hB.nw) hB (fun g e => e), fun e => (ktN 7 V c).fr (h.2.2.1 e) hb hB, fun e => (h.2.2.2 e).fr hb (fun g e => e ▸ hB.nw)⟩
structure Gd (N : Nat) (f : Fn) : Prop where
  r : RightN f
  n : N = f.N
  p : ∀ p ∈ f.P, Pri p.1
theorem merge_pri (va vb : Value) (f g : Fn) (w : World) (ha : Fx w va (zF f)) (hb : Fx w vb (zF g)) (hf : RightN f) (hg : RightN g) (hm : Md f.N) (hN : f.N = g.N) (pf : ∀ p ∈ f.P, Pri p.1) (pg : ∀ p ∈ g.P, Pri p.1) :
    Calls Tryz.prog 27 #[va, vb] w fun e w' => ∃ v c o, e = .returned (.tuple #[v, .int .i64 0]) ∧ Fx w' v (zF c) ∧ CB (allN f g) o ∧ MergeTo f g o c ∧ (RightN c ∧ c.N = f.N ∧ ∀ p ∈ c.P, Pri p.1) ∧ Below w.heap.size w w' := by
  refine (merge_ok va vb f g w ha hb hf hg hm hN).mono ?_
  rintro e w' ⟨o, hcb, hb, h⟩
  have hpk : ∀ p ∈ knownN f g, Pri p := fun p hp => by
    unfold knownN at hp
    rcases List.mem_append.1 hp with hp | hp
    · obtain ⟨q, hq, rfl⟩ := mem_ks.1 hp; exact pf q hq
    · obtain ⟨q, hq, rfl⟩ := mem_ks.1 hp; exact pg q hq
  rcases h with ⟨hk, v, c, rfl, hv, hc⟩ | ⟨hk, -⟩
  · exact ⟨v, c, o, rfl, hv, hcb, hc, ⟨hc.right hf hcb hg hN hk, hc.1, hc.primes hf hcb hg hN hpk⟩, hb⟩
  · exact absurd (known_all hcb hpk) hk
set_option maxRecDepth 100000 in
theorem fassoc_any (va vb : Value) (L M : List Tri) (b c n : Nat) (w : World) (h : Dx w va L b) (h' : Dx w vb M c) (hn : n ≤ 65535) :
    Calls Tryz.prog 6 #[va, .int .u16 (n : Int), vb] w fun e w' => e = .returned (.bool true) ∧ Below w.heap.size w w' := by
  obtain ⟨W, a1, c1, rfl, hW, hbW, hsW, p0, p1, hX⟩ := boxD w h
  obtain ⟨W2, a2, c2, rfl, hW2, hbW2, hsW2, q0, q1, hY⟩ := boxD W (h'.up hbW)
  replace hX := hX.up hbW2
  replace p0 := keepc hbW2 p0
  replace p1 := keepc hbW2 p1
  rw [hsW] at q0 q1
  obtain ⟨bd, hbd⟩ : ∃ bd : Nat, bd = n % 200 := ⟨_, rfl⟩
  have e1 : ((n : Nat) : Int).tmod 200 = (bd : Int) := by rw [Int.tmod_eq_emod_of_nonneg (by omega)]; omega
  have hbd2 : bd ≤ 65536 := by omega
  have e2 : IntKind.i64.wrap (bd : Int) = (bd : Int) := by rw [IntKind.wrap_i64]; omega
  clear hbd
  go_enter Tryz.func6, Tryz.ntmps6
  go_upto_region 1 with fail
  rw [← hW, ← hW2]
  have hbl := Bl.up hbW hbW2
  clear hW hW2 hbW hbW2 hsW hsW2 h h'
  go_wp2_with fail
  refine (examples_any W2).mono ?_
  rintro e w1 ⟨rfl, hb1⟩
  replace hbl := Bl.up hbl hb1
  replace p0 := keepc hb1 p0
  replace p1 := keepc hb1 p1
  replace q0 := keepc hb1 q0
  replace q1 := keepc hb1 q1
  replace hX := hX.up hb1
  replace hY := hY.up hb1
  have HX := Lib.hid hX
  have HY := Lib.hid hY
  have HL := Lib.hid hbl
  clear hb1 hX hY hbl
  go_wp2_with fail
  refine (rmade_any _ L b w1 HX.out).mono ?_
  rintro e w2 ⟨v, f, rfl, hF, hM, hb2⟩
  obtain ⟨y, rfl, hFy⟩ := hF.shape
  have hB := Bf.new hFy
  have hb3 := Bl.up hb2 (below_new w2 (.cells #[.bool y.s, .slice y.a y.n y.c, .slice y.a2 y.n2 y.c2, .slice y.a3 y.n3 y.c3, .int .i64 y.b] 36))
  have HM := Lib.hid hM
  have HG := Lib.hid hM.good
  have H8 := Lib.hid hB
  replace HL := Lib.hid (Bl.up HL.out hb3)
  replace HY := Lib.hid (HY.out.up hb3)
  replace q0 := keepc hb3 q0
  replace q1 := keepc hb3 q1
  clear hM hB hb2 hb3 hF hFy p0 p1 HX
  go_upto_region 5 with fail
  generalize w2.alloc (.cells #[.bool y.s, .slice y.a y.n y.c, .slice y.a2 y.n2 y.c2, .slice y.a3 y.n3 y.c3, .int .i64 y.b] 36) = w3 at *
  generalize w2.heap.size = B8 at *
  obtain ⟨z, ⟨d0, d1, d2, d3, d4⟩, -, hN, -⟩ := H8.out.cells
  have hsz := Nat.le_trans (HG.out.2.1.sz (Nat.le_refl _)) (show 4096 ≤ 1099511627776 by decide)
  go_wp2_with fail
  refine (trial_ok _ f.N bd w3 hN HG.out.1.n1 hbd2 hsz).mono ?_
  rintro e w4 ⟨v, g, rfl, hF, hT, hb2⟩
  obtain ⟨hgr, hgp, -⟩ := hT.right HG.out.1.n1 hbd2
  have hgn := hT.1
  obtain ⟨y, rfl, hFy⟩ := hF.shape
  have hB := Bf.new hFy
  have hb3 := Bl.up hb2 (below_new w4 (.cells #[.bool y.s, .slice y.a y.n y.c, .slice y.a2 y.n2 y.c2, .slice y.a3 y.n3 y.c3, .int .i64 y.b] 36))
  have H9 := Lib.hid hB
  have HGR := Lib.hid hgr
  have HGP := Lib.hid hgp
  have HGN := Lib.hid (show f.N = g.N from hgn.symm)
  replace H8 := Lib.hid (H8.out.up hb3)
  replace HL := Lib.hid (Bl.up HL.out hb3)
  replace HY := Lib.hid (HY.out.up hb3)
  replace q0 := keepc hb3 q0
  replace q1 := keepc hb3 q1
  clear hB hb2 hb3 hF hFy hT hgr hgp hgn d0 d1 d2 d3 d4 hN e1 e2
  go_upto_region 6 with fail
  generalize w4.alloc (.cells #[.bool y.s, .slice y.a y.n y.c, .slice y.a2 y.n2 y.c2, .slice y.a3 y.n3 y.c3, .int .i64 y.b] 36) = w5 at *
  generalize w4.heap.size = B9 at *
  obtain ⟨z, ⟨d0, d1, d2, d3, d4⟩, -, hN, -⟩ := H8.out.cells
  have HN := Lib.hid (show It w5 (.agg #[.bool z.s, .slice z.a z.n z.c]) (f.N : Int) from hN)
  have HSZ := Lib.hid hsz
  clear hN hsz
  obtain ⟨V, hV⟩ : ∃ V, usedN M [] = V := ⟨_, rfl⟩
  obtain ⟨dN, hdN⟩ : ∃ d, pk (kwnN V ++ rstN V) = d := ⟨_, rfl⟩
  have hd1 : 1 ≤ dN ∧ Md dN := by
    obtain ⟨f', hf'⟩ := made_some V c
    have : MadeTo (usedN M []) c f' := by rw [hV]; exact hf'
    rw [← hdN, ← hf'.nn]
    exact ⟨this.good.1.n1, this.good.2.1⟩
  have HV := Lib.hid hV
  have HD := Lib.hid hdN
  have HD1 := Lib.hid hd1
  have HWR := Lib.hid (whl_right HG.out.1.n1)
  clear hV hdN hd1
  refine wp_region_T (by kernel_rfl) [14] (S := fun w' => w'.cell? ⟨B8, 0, none⟩ = some (.bool z.s) ∧ w'.cell? ⟨B8, 1, none⟩ = some (.slice z.a z.n z.c) ∧ w'.cell? ⟨w.heap.size + 1, 0, none⟩ = some (.slice a2 M.length c2) ∧ w'.cell? ⟨w.heap.size + 1, 1, none⟩ = some (.int .u16 (c : Int))) ⟨d0, d1, q0, q1⟩ (fun hHeld => ?_)
  (refine kL 0 rfl ?_; refine kL 1 rfl ?_; refine kL 2 rfl ?_; refine kL 3 rfl ?_; refine kL 6 rfl ?_)
  clear hHeld
  refine wpAnyT_all [(4, some 40), (5, some 41), (7, some 43), (8, some 44), (9, some 45), (10, some 35), (11, some 46), (12, some 47), (13, some 11), (14, none)] 1 (FlT (ktW f.N V c) (SpT ⟨f.N, [], whl f.N, 0⟩ dN) 9 w5) rfl (by kernel_rfl) (by decide) (by kernel_rfl) (by kernel_rfl) (by kernel_rfl) (fun bb xx wz h => (fun hb' => ⟨keepc hb' d0, keepc hb' d1, keepc hb' q0, keepc hb' q1⟩) h.bl) (fun xx => FlT.start _ _ _ _ _) ?_ ?_
  · intro i hi
    have hi' : i = 4 ∨ i = 5 ∨ i = 7 ∨ i = 8 ∨ i = 9 ∨ i = 10 ∨ i = 11 ∨ i = 12 ∨ i = 13 ∨ i = 14 := by simpa using hi
    clear hi
    rcases hi' with rfl | rfl | rfl | rfl | rfl | rfl | rfl | rfl | rfl | rfl
    · refine ⟨_, rfl, fun bb xx wz hJ hbf hw K hK => ?_⟩
      clear hbf hw
      simp only [actsD, List.foldl_cons, List.foldl_nil, Act.put, List.setIfInBounds_toArray, List.set_cons_zero, List.set_cons_succ] at hK ⊢
      go_simp
      refine (whole_nat _ f.N wz (HN.out.up hJ.bl) HSZ.out).mono ?_
      rintro e w8 ⟨a, k, rfl, hv, hb⟩
      exact hK.out _ _ (hJ.pre (i := 4) (by decide) ⟨fun _ => ⟨a, k, rfl, hv⟩, (fun e => absurd e (by decide)), (fun e => absurd e (by decide)), fun e => absurd e (by decide)⟩ hb)
    · refine ⟨_, rfl, fun bb xx wz hJ hbf hw K hK => ?_⟩
      have hp : ∃ q : Option Addr × Nat, xx 4 = .slice q.1 (whl f.N).length q.2 ∧ Sr eP wz (.slice q.1 (whl f.N).length q.2) (zP (whl f.N)) := by
        obtain ⟨a, k, h1, h2⟩ := (hJ.pr 4 (by decide) (hw 4 (by kernel_rfl))).1 rfl
        exact ⟨(a, k), h1, h2⟩
      have hh := Classical.choose_spec hp
      generalize Classical.choose hp = zz at hh
      have hxu := hh.1
      have hit := hh.2
      have hJb := hJ.bl
      have HIT := Lib.hid (show Fx wz (.agg #[.bool z.s, .slice z.a z.n z.c, .slice none 0 0, .slice zz.1 (whl f.N).length zz.2, .int .i64 0]) (zF ⟨f.N, [], whl f.N, 0⟩) from Fx.parts (f := zF ⟨f.N, [], whl f.N, 0⟩) (HN.out.up hJb) (Sr.nil _ _) hit rfl)
      clear hbf hw hp hh hit hJb
      simp only [actsD, List.foldl_cons, List.foldl_nil, Act.put, List.setIfInBounds_toArray, List.set_cons_zero, List.set_cons_succ, hxu] at hK ⊢
      go_simp
      exact hK.out _ _ (hJ.pre (i := 5) (by decide) ⟨(fun e => absurd e (by decide)), (fun _ => HIT.out), (fun e => absurd e (by decide)), fun e => absurd e (by decide)⟩ (Below.refl _ _))
    · refine ⟨_, rfl, fun bb xx wz hJ hbf hw K hK => ?_⟩
      clear hbf hw
      simp only [actsD, List.foldl_cons, List.foldl_nil, Act.put, List.setIfInBounds_toArray, List.set_cons_zero, List.set_cons_succ] at hK ⊢
      go_simp
      refine (rmade_any _ M c wz (HY.out.up hJ.bl)).mono ?_
      rintro e w8 ⟨v, f', rfl, hv, hm, hb⟩
      exact hK.out _ _ (hJ.pre (i := 7) (by decide) ⟨(fun e => absurd e (by decide)), (fun e => absurd e (by decide)), (fun _ => ⟨fun _ => ⟨f', hv, by rw [← HV.out]; exact hm⟩, fun e => absurd e (by decide)⟩), fun e => absurd e (by decide)⟩ hb)
    · refine ⟨_, rfl, fun bb xx wz hJ hbf hw K hK => ?_⟩
      have hp := ktN.num (i0 := 7) (V := V) (c := c) ((hJ.pr 7 (by decide) (hw 7 (by kernel_rfl))).2.2.1 rfl)
      have hh := Classical.choose_spec hp
      generalize Classical.choose hp = zz at hh
      have hxu := hh.1
      have hit := hh.2
      clear hbf hw hp hh
      simp only [actsD, List.foldl_cons, List.foldl_nil, Act.put, List.setIfInBounds_toArray, List.set_cons_zero, List.set_cons_succ, hxu] at hK ⊢
      go_simp
      exact hK.out _ _ (hJ.pre (i := 8) (by decide) ⟨(fun e => absurd e (by decide)), (fun e => absurd e (by decide)), (fun e => absurd e (by decide)), fun _ => hit⟩ (Below.refl _ _))
    · refine ⟨_, rfl, fun bb xx wz hJ hbf hw K hK => ?_⟩
      have h3 := (hJ.pr 8 (by decide) (hw 8 (by kernel_rfl))).2.2.2 rfl
      have h5 := (hJ.pr 5 (by decide) (hw 5 (by kernel_rfl))).2.1 rfl
      clear hw
      simp only [actsD, List.foldl_cons, List.foldl_nil, Act.put, List.setIfInBounds_toArray, List.set_cons_zero, List.set_cons_succ] at hK ⊢
      go_simp
      rw [HD.out] at h3
      refine (split_ok _ _ ⟨f.N, [], whl f.N, 0⟩ dN wz h5 h3 HWR.out HG.out.2.1 HD1.out.1 HD1.out.2).mono ?_
      rintro e w8 ⟨o, hcb, hb, ⟨hfr, v, g, rfl, hv, hsp⟩ | ⟨hfr, v, rfl, hv⟩⟩
      · exact hK.out _ _ (hJ.call hbf hv (.inl ⟨g, o, rfl, rfl, hcb, hfr, hsp⟩) hb)
      · exact hK.out _ _ (hJ.call hbf hv (.inr ⟨o, rfl, rfl, hcb, hfr⟩) hb)
    · refine ⟨_, rfl, fun bb xx wz hJ hbf hw K hK => ?_⟩
      have hq := hw 9 (by kernel_rfl)
      clear hw
      simp only [actsD, List.foldl_cons, List.foldl_nil, Act.put, List.setIfInBounds_toArray, List.set_cons_zero, List.set_cons_succ] at hK ⊢
      go_simp
      exact hK.out _ _ (hJ.mv1 hq)
    · refine ⟨_, rfl, fun bb xx wz hJ hbf hw K hK => ?_⟩
      have h1 := hw 10 (by kernel_rfl)
      have hh := Classical.choose_spec (hJ.tup h1)
      generalize Classical.choose (hJ.tup h1) = p at hh
      have hxu : xx 10 = .tuple #[p.1, .int .i64 p.2] := hh.1
      have HXQ := Lib.hid hh.2
      clear hw hh
      simp only [actsD, List.foldl_cons, List.foldl_nil, Act.put, List.setIfInBounds_toArray, List.set_cons_zero, List.set_cons_succ, hxu] at hK ⊢
      go_simp
      exact hK.out _ _ (hJ.ex0 h1 HXQ.out)
    · refine ⟨_, rfl, fun bb xx wz hJ hbf hw K hK => ?_⟩
      have h1 := hw 10 (by kernel_rfl)
      have hh := Classical.choose_spec (hJ.tup h1)
      generalize Classical.choose (hJ.tup h1) = p at hh
      have hxu : xx 10 = .tuple #[p.1, .int .i64 p.2] := hh.1
      have HXQ := Lib.hid hh.2
      clear hw hh
      simp only [actsD, List.foldl_cons, List.foldl_nil, Act.put, List.setIfInBounds_toArray, List.set_cons_zero, List.set_cons_succ, hxu] at hK ⊢
      go_simp
      exact hK.out _ _ (hJ.ex1 h1 HXQ.out)
    · refine ⟨_, rfl, fun bb xx wz hJ hbf hw K hK => ?_⟩
      clear hw
      simp only [actsD, List.foldl_cons, List.foldl_nil, Act.put, List.setIfInBounds_toArray, List.set_cons_zero, List.set_cons_succ] at hK ⊢
      go_simp
      exact hK.out _ _ (hJ.var (W' := wz.alloc (.cells #[.bool false, .slice none 0 0, .slice none 0 0, .slice none 0 0, .int .i64 0] 36)) hbf (Fv.new wz) (below_new _ _))
    · refine ⟨_, rfl, fun bb xx wz hJ hbf hw K hK => ?_⟩
      have h2 := hw 11 (by kernel_rfl)
      have h4 := hw 13 (by kernel_rfl)
      have hh := Classical.choose_spec (hJ.sto h2 h4)
      generalize Classical.choose (hJ.sto h2 h4) = p at hh
      have hxu : xx 11 = _ := hh.v
      have hxv : xx 13 = _ := hh.b
      have d0 := hh.d0
      have d1 := hh.d1
      have d2 := hh.d2
      have d3 := hh.d3
      have d4 := hh.d4
      have f0 := hh.f0
      have f1 := hh.f1
      have f2 := hh.f2
      have f3 := hh.f3
      have f4 := hh.f4
      have HJ := Lib.hid hJ
      have HH := Lib.hid hh
      clear hw hh hJ
      simp only [actsD, List.foldl_cons, List.foldl_nil, Act.put, List.setIfInBounds_toArray, List.set_cons_zero, List.set_cons_succ, hxu, hxv] at hK ⊢
      clear hxu hxv
      go_simp
      go_wp2_with fail
      exact hK.out _ _ (HJ.out.st' h2 h4 HH.out (v := undef))
  intro bb xx wz hbb hJ
  have hpre : ∀ i, i < 9 → bb i = true → _ := hJ.pr
  obtain ⟨uu, fz, code, BB, e0, e1, e2, e3, e4, hT, hBf, hBs, hbz⟩ := hJ.out (fun i h1 h2 => hbb i (by simp; omega))
  have hA4 := hpre 4 (by decide) (hbb 4 (by decide))
  have hA5 := hpre 5 (by decide) (hbb 5 (by decide))
  have hA7 := hpre 7 (by decide) (hbb 7 (by decide))
  have hA8 := hpre 8 (by decide) (hbb 8 (by decide))
  clear hbb hJ hpre
  obtain ⟨u4, hu4⟩ : ∃ u4, u4 = xx 4 := ⟨_, rfl⟩
  rw [← hu4] at hA4
  obtain ⟨u5, hu5⟩ : ∃ u5, u5 = xx 5 := ⟨_, rfl⟩
  rw [← hu5] at hA5
  obtain ⟨u7, hu7⟩ : ∃ u7, u7 = xx 7 := ⟨_, rfl⟩
  rw [← hu7] at hA7
  obtain ⟨u8, hu8⟩ : ∃ u8, u8 = xx 8 := ⟨_, rfl⟩
  rw [← hu8] at hA8
  simp only [actsD, markOf, List.map_cons, List.map_nil, List.foldl_cons, List.foldl_nil, Act.put, List.setIfInBounds_toArray, List.set_cons_zero, List.set_cons_succ, show xx 9 = _ from e0, show xx 10 = _ from e1, show xx 11 = _ from e2, show xx 12 = _ from e3, show xx 13 = _ from e4, ← hu4, ← hu5, ← hu7, ← hu8]
  clear e0 e1 e2 e3 e4 hu4 hu5 hu7 hu8
  (refine oL 15 rfl fun K hK => tL ?_; go_simp)
  (go_wp2_with fail; refine hK.out _ _ (fun h => absurd h (by decide)) ?_; clear hK; refine tL ?_)
  refine wpAnyT_done (by kernel_rfl) ?_ _
  replace HL := Lib.hid (Bl.up HL.out hbz)
  replace H8 := Lib.hid (H8.out.up hbz)
  replace H9 := Lib.hid (H9.out.up hbz)
  have H11 := Lib.hid hBf
  clear hA4 hA5 hA7 hA8 hBs hbz d0 d1 d2 d3 d4 q0 q1 hBf HY HN
  rcases hT with ⟨h, o, rfl, rfl, hcb, hfr, hsp⟩ | ⟨o, rfl, rfl, hcb, hfr⟩
  case' inr =>
    go_wp2_with fail
    go_ret
    exact ⟨rfl, HL.out⟩
  case' inl =>
    have HHR := Lib.hid (hsp.right HWR.out hcb)
    have HHN := Lib.hid (show f.N = h.N from hsp.1.symm)
    have HHP := Lib.hid (hsp.primes HWR.out hcb (fun p hp => (List.not_mem_nil hp).elim))
    have HGG := Lib.hid (show Gd f.N g from ⟨HGR.out, HGN.out, HGP.out⟩)
    have HHH := Lib.hid (show Gd f.N h from ⟨HHR.out, HHN.out, HHP.out⟩)
    have HFF := Lib.hid (show Gd f.N f from ⟨HG.out.1, rfl, HG.out.2.2⟩)
    have HMD := Lib.hid HG.out.2.1
    clear HHR HHN HHP HGR HGN HGP HG hcb hfr hsp
    obtain ⟨z1, ⟨d0, d1, d2, d3, d4⟩, hfx, -⟩ := H8.out.cells
    obtain ⟨z2, ⟨g0, g1, g2, g3, g4⟩, hgx, -⟩ := H9.out.cells
    have HFX := Lib.hid hfx
    have HGX := Lib.hid hgx
    clear hfx hgx
    go_wp2_with fail
    refine (merge_pri _ _ f g _ HFX.out HGX.out HFF.out.r HGG.out.r (by rw [← HFF.out.n]; exact HMD.out) (HFF.out.n.symm.trans HGG.out.n) HFF.out.p HGG.out.p).mono ?_
    rintro e w9 ⟨v, a, o0, rfl, hF, hcb, hmt, hgood, hb2⟩
    have HAA := Lib.hid (show Gd f.N a from ⟨hgood.1, HFF.out.n.trans hgood.2.1.symm, hgood.2.2⟩)
    have HC0 := Lib.hid hcb
    have HT0 := Lib.hid hmt
    obtain ⟨y, rfl, hFy⟩ := hF.shape
    have hB := Bf.new hFy
    have hb3 := Bl.up hb2 (below_new w9 (.cells #[.bool y.s, .slice y.a y.n y.c, .slice y.a2 y.n2 y.c2, .slice y.a3 y.n3 y.c3, .int .i64 y.b] 36))
    have H13 := Lib.hid hB
    replace HL := Lib.hid (Bl.up HL.out hb3)
    replace H8 := Lib.hid (H8.out.up hb3)
    replace H9 := Lib.hid (H9.out.up hb3)
    replace H11 := Lib.hid (H11.out.up hb3)
    clear hB hb2 hb3 hF hFy hcb hmt hgood d0 d1 d2 d3 d4 g0 g1 g2 g3 g4 HFX HGX
    go_upto_region 12 with fail
    generalize w9.alloc (.cells #[.bool y.s, .slice y.a y.n y.c, .slice y.a2 y.n2 y.c2, .slice y.a3 y.n3 y.c3, .int .i64 y.b] 36) = wm0 at *
    generalize w9.heap.size = B13 at *
    obtain ⟨z1, ⟨d0, d1, d2, d3, d4⟩, hfx, -⟩ := H13.out.cells
    obtain ⟨z2, ⟨g0, g1, g2, g3, g4⟩, hgx, -⟩ := H11.out.cells
    have HFX := Lib.hid hfx
    have HGX := Lib.hid hgx
    clear hfx hgx
    go_wp2_with fail
    refine (merge_pri _ _ a h _ HFX.out HGX.out HAA.out.r HHH.out.r (by rw [← HAA.out.n]; exact HMD.out) (HAA.out.n.symm.trans HHH.out.n) HAA.out.p HHH.out.p).mono ?_
    rintro e w9 ⟨v, bb0, o1, rfl, hF, hcb, hmt, hgood, hb2⟩
    have HBBB := Lib.hid (show Gd f.N bb0 from ⟨hgood.1, HAA.out.n.trans hgood.2.1.symm, hgood.2.2⟩)
    have HC1 := Lib.hid hcb
    have HT1 := Lib.hid hmt
    obtain ⟨y, rfl, hFy⟩ := hF.shape
    have hB := Bf.new hFy
    have hb3 := Bl.up hb2 (below_new w9 (.cells #[.bool y.s, .slice y.a y.n y.c, .slice y.a2 y.n2 y.c2, .slice y.a3 y.n3 y.c3, .int .i64 y.b] 36))
    have H15 := Lib.hid hB
    replace HL := Lib.hid (Bl.up HL.out hb3)
    replace H8 := Lib.hid (H8.out.up hb3)
    replace H9 := Lib.hid (H9.out.up hb3)
    replace H11 := Lib.hid (H11.out.up hb3)
    replace H13 := Lib.hid (H13.out.up hb3)
    clear hB hb2 hb3 hF hFy hcb hmt hgood d0 d1 d2 d3 d4 g0 g1 g2 g3 g4 HFX HGX
    go_upto_region 13 with fail
    generalize w9.alloc (.cells #[.bool y.s, .slice y.a y.n y.c, .slice y.a2 y.n2 y.c2, .slice y.a3 y.n3 y.c3, .int .i64 y.b] 36) = wm1 at *
    generalize w9.heap.size = B15 at *
    obtain ⟨z1, ⟨d0, d1, d2, d3, d4⟩, hfx, -⟩ := H9.out.cells
    obtain ⟨z2, ⟨g0, g1, g2, g3, g4⟩, hgx, -⟩ := H11.out.cells
    have HFX := Lib.hid hfx
    have HGX := Lib.hid hgx
    clear hfx hgx
    go_wp2_with fail
    refine (merge_pri _ _ g h _ HFX.out HGX.out HGG.out.r HHH.out.r (by rw [← HGG.out.n]; exact HMD.out) (HGG.out.n.symm.trans HHH.out.n) HGG.out.p HHH.out.p).mono ?_
    rintro e w9 ⟨v, cc0, o2, rfl, hF, hcb, hmt, hgood, hb2⟩
    have HCC := Lib.hid (show Gd f.N cc0 from ⟨hgood.1, HGG.out.n.trans hgood.2.1.symm, hgood.2.2⟩)
    have HC2 := Lib.hid hcb
    have HT2 := Lib.hid hmt
    obtain ⟨y, rfl, hFy⟩ := hF.shape
    have hB := Bf.new hFy
    have hb3 := Bl.up hb2 (below_new w9 (.cells #[.bool y.s, .slice y.a y.n y.c, .slice y.a2 y.n2 y.c2, .slice y.a3 y.n3 y.c3, .int .i64 y.b] 36))
    have H17 := Lib.hid hB
    replace HL := Lib.hid (Bl.up HL.out hb3)
    replace H8 := Lib.hid (H8.out.up hb3)
    replace H9 := Lib.hid (H9.out.up hb3)
    replace H11 := Lib.hid (H11.out.up hb3)
    replace H13 := Lib.hid (H13.out.up hb3)
    replace H15 := Lib.hid (H15.out.up hb3)
    clear hB hb2 hb3 hF hFy hcb hmt hgood d0 d1 d2 d3 d4 g0 g1 g2 g3 g4 HFX HGX
    go_upto_region 14 with fail
    generalize w9.alloc (.cells #[.bool y.s, .slice y.a y.n y.c, .slice y.a2 y.n2 y.c2, .slice y.a3 y.n3 y.c3, .int .i64 y.b] 36) = wm2 at *
    generalize w9.heap.size = B17 at *
    obtain ⟨z1, ⟨d0, d1, d2, d3, d4⟩, hfx, -⟩ := H8.out.cells
    obtain ⟨z2, ⟨g0, g1, g2, g3, g4⟩, hgx, -⟩ := H17.out.cells
    have HFX := Lib.hid hfx
    have HGX := Lib.hid hgx
    clear hfx hgx
    go_wp2_with fail
    refine (merge_pri _ _ f cc0 _ HFX.out HGX.out HFF.out.r HCC.out.r (by rw [← HFF.out.n]; exact HMD.out) (HFF.out.n.symm.trans HCC.out.n) HFF.out.p HCC.out.p).mono ?_
    rintro e w9 ⟨v, m, o3, rfl, hF, hcb, hmt, hgood, hb2⟩
    have HMM := Lib.hid (show Gd f.N m from ⟨hgood.1, HFF.out.n.trans hgood.2.1.symm, hgood.2.2⟩)
    have HC3 := Lib.hid hcb
    have HT3 := Lib.hid hmt
    obtain ⟨y, rfl, hFy⟩ := hF.shape
    have hB := Bf.new hFy
    have hb3 := Bl.up hb2 (below_new w9 (.cells #[.bool y.s, .slice y.a y.n y.c, .slice y.a2 y.n2 y.c2, .slice y.a3 y.n3 y.c3, .int .i64 y.b] 36))
    have H19 := Lib.hid hB
    replace HL := Lib.hid (Bl.up HL.out hb3)
    replace H8 := Lib.hid (H8.out.up hb3)
    replace H9 := Lib.hid (H9.out.up hb3)
    replace H11 := Lib.hid (H11.out.up hb3)
    replace H13 := Lib.hid (H13.out.up hb3)
    replace H15 := Lib.hid (H15.out.up hb3)
    replace H17 := Lib.hid (H17.out.up hb3)
    clear hB hb2 hb3 hF hFy hcb hmt hgood d0 d1 d2 d3 d4 g0 g1 g2 g3 g4 HFX HGX
    go_upto_region 15 with fail
    generalize w9.alloc (.cells #[.bool y.s, .slice y.a y.n y.c, .slice y.a2 y.n2 y.c2, .slice y.a3 y.n3 y.c3, .int .i64 y.b] 36) = wm3 at *
    generalize w9.heap.size = B19 at *
    have heq := merge_assoc HFF.out.r HGG.out.r HHH.out.r HGG.out.n HHH.out.n (fun p hp => by obtain ⟨q, hq, rfl⟩ := mem_ks.1 hp; exact HFF.out.p q hq) (fun p hp => by obtain ⟨q, hq, rfl⟩ := mem_ks.1 hp; exact HGG.out.p q hq) (fun p hp => by obtain ⟨q, hq, rfl⟩ := mem_ks.1 hp; exact HHH.out.p q hq) HC0.out HT0.out HC1.out HT1.out HC2.out HT2.out HC3.out HT3.out
    obtain ⟨z1, ⟨d0, d1, d2, d3, d4⟩, hfx, -⟩ := H15.out.cells
    obtain ⟨z2, ⟨g0, g1, g2, g3, g4⟩, hgx, -⟩ := H19.out.cells
    have HFX := Lib.hid hfx
    have HGX := Lib.hid hgx
    have HEQ := Lib.hid heq
    have hszb := HBBB.out.1.szf (by rw [← HBBB.out.n]; exact HMD.out)
    have hszm := HMM.out.1.szf (by rw [← HMM.out.n]; exact HMD.out)
    have HS1 := Lib.hid hszb
    have HS2 := Lib.hid hszm
    clear hfx hgx heq hszb hszm
    go_wp2_with fail
    refine (rsamef_any _ _ (zF bb0) (zF m) _ HFX.out HGX.out HS1.out HS2.out).mono ?_
    rintro e w9 ⟨rfl, hb2⟩
    rw [show sameF (zF bb0) (zF m) = true from sameF_iff.2 (by rw [HEQ.out])]
    replace HL := Lib.hid (Bl.up HL.out hb2)
    clear hb2 d0 d1 d2 d3 d4 g0 g1 g2 g3 g4
    go_wp2_with fail
    go_ret
    exact ⟨rfl, HL.out⟩
end Go.Proofs.YtblebpmlkpobnaaGreat
