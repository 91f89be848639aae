/-
  The examples of algoristlaw05 are answered true.
-/
import Derived.Test.YtblebpmlkpobnaaGreatFV
import Derived.Test.YtblebpmlkpobnaaGreatFU
import Derived.Test.YtblebpmlkpobnaaGreatFS
set_option linter.unusedSimpArgs false
set_option linter.unusedVariables false
set_option maxHeartbeats 8000000
namespace Go.Proofs.YtblebpmlkpobnaaGreat
open Go.RowKit
attribute [local go_sem ↓] Go.wp_at_zero Go.wp_at_succ
theorem Sr.one {α : Type} {E : Elt α} {w : World} {B T : Nat} {fr : Nat × Nat} {cs : List Value} {x : α} (hB : w.heap[B]? = some (.cells cs.toArray T fr)) (hx : E.ok w cs x) : Sr E w (.slice (some ⟨B, 0, none⟩) 1 1) [x] :=
 ⟨_, _, rfl, Nat.le_refl _, .inr ⟨B, 0, rfl, (Array.getElem?_eq_some_iff.1 hB).1, Sc.one hB hx⟩⟩
theorem Sr.three2 {w : World} {B T : Nat} {fr : Nat × Nat} {x1 y1 x2 y2 x3 y3 : Int} (hB : w.heap[B]? = some (.cells #[.int .i64 x1, .int .i64 y1, .int .i64 x2, .int .i64 y2, .int .i64 x3, .int .i64 y3] T fr)) : Sr e2 w (.slice (some ⟨B, 0, none⟩) 3 3) [(x1, y1), (x2, y2), (x3, y3)] := by
 refine ⟨_, _, rfl, Nat.le_refl _, .inr ⟨B, 0, rfl, (Array.getElem?_eq_some_iff.1 hB).1, fun i hi => ?_⟩⟩
 have e : e2.k = 2 := rfl
 have hi' : i = 0 ∨ i = 1 ∨ i = 2 := by simp at hi; omega
 rcases hi' with rfl | rfl | rfl <;> refine ⟨_, rfl, fun j u hu => ?_⟩ <;> rcases j with _ | _ | j <;> simp at hu <;> subst hu <;> simp [World.cell?, hB, e]
theorem Fx.parts {w : World} {s : Bool} {a : Option Addr} {n c : Nat} {a2 : Option Addr} {n2 c2 : Nat} {a3 : Option Addr} {n3 c3 : Nat} {b : Int} {f : Fz} (h1 : It w (.agg #[.bool s, .slice a n c]) f.N) (h2 : Sr eP w (.slice a2 n2 c2) f.P) (h3 : Sr eP w (.slice a3 n3 c3) f.R) (hb : b = f.B) :
  Fx w (.agg #[.bool s, .slice a n c, .slice a2 n2 c2, .slice a3 n3 c3, .int .i64 b]) f := ⟨s, a, n, c, _, _, by rw [hb], h1, h2, h3⟩
theorem trial_is (vn : Value) (n b : Nat) (t : Fn) (w : World) (hn : It w vn n) (h1 : 1 ≤ n) (hb : b ≤ 65536) (hsz : sz n ≤ 1099511627776) (ht : TrialTo n b t) :
  Calls Tryz.prog 31 #[vn, .int .i64 b] w fun e w' => ∃ v, e = .returned (.tuple #[v, .int .i64 0]) ∧ Fx w' v (zF t) ∧ Below w.heap.size w w' := by
 refine (trial_ok vn n b w hn h1 hb hsz).mono ?_
 rintro e w' ⟨v, t', rfl, hF, hT, hbl⟩
 rw [TrialTo.uniq h1 hT ht] at hF
 exact ⟨v, rfl, hF, hbl⟩
theorem split_is (va vd : Value) (w : World) (ha : Fx w va (zF aE)) (hd : It w vd 15) :
  Calls Tryz.prog 18 #[va, vd] w fun e w' => ∃ v, e = .returned (.tuple #[v, .int .i64 0]) ∧ Fx w' v (zF cE) ∧ Below w.heap.size w w' := by
 refine (split_ok va vd aE 15 w ha hd a_right (Md.small (by decide)) (by decide) (Md.small (by decide))).mono ?_
 rintro e w' ⟨o, hcb, hbl, h⟩
 obtain ⟨h1, h2⟩ := split_a hcb
 rcases h with ⟨-, v, g, rfl, hF, hS⟩ | ⟨hn, -⟩
 ·rw [h2 g hS] at hF
  exact ⟨v, rfl, hF, hbl⟩
 ·exact absurd h1 hn
theorem merge_is (va vb : Value) (w : World) (ha : Fx w va (zF wE)) (hb : Fx w vb (zF pE)) :
  Calls Tryz.prog 27 #[va, vb] w fun e w' => ∃ v, e = .returned (.tuple #[v, .int .i64 0]) ∧ Fx w' v (zF pE) ∧ Below w.heap.size w w' := by
 refine (merge_ok va vb wE pE w ha hb w_right p_right (Md.small (by decide)) rfl).mono ?_
 rintro e w' ⟨o, hcb, hbl, h⟩
 obtain ⟨h1, h2⟩ := merge_w hcb
 rcases h with ⟨-, v, g, rfl, hF, hS⟩ | ⟨hn, -⟩
 ·rw [h2 g hS] at hF
  exact ⟨v, rfl, hF, hbl⟩
 ·exact absurd h1 hn
def knX (d : Int) (f : Fz) : Kn where
 R := fun i v _ w => (i = 1 → It w v d) ∧ ((i = 2 ∨ i = 3) → ∃ u, v = .tuple #[u, .int .i64 0] ∧ Fx w u f) ∧ (i = 4 → Fx w v f) ∧ (i = 5 → v = .int .i64 0)
 V := fun w B => Fv w B
 up := fun h hb => ⟨fun e => (h.1 e).up hb, fun e => by obtain ⟨u, h1, h2⟩ := h.2.1 e; exact ⟨u, h1, h2.up hb⟩, fun e => (h.2.2.1 e).up hb, h.2.2.2⟩
 vup := fun h hb => h.up hb
 vlt := fun h => h.lt
theorem knX.fr {d : Int} {f : Fz} {w w' : World} {S : Nat → Prop} (hb : ButS S w w') (hS : ∀ g, S g → NoW w g) {B : Nat} (hB : Fv w B) (hSB : ∀ g, S g → g = B) {i : Nat} {v : Value} {Z : Nat → Prop} (h : (knX d f).R i v Z w) : (knX d f).R i v Z w' :=
 ⟨fun e => (h.1 e).fr hb hS, fun e => by obtain ⟨u, h1, h2⟩ := h.2.1 e; exact ⟨u, h1, h2.fr hb hS hB hSB⟩, fun e => (h.2.2.1 e).fr hb hS hB hSB, h.2.2.2⟩
section
variable {d : Int} {f : Fz} {v u : Value} {Z : Nat → Prop} {w : World}
theorem knx1 (h : It w v d) : (knX d f).R 1 v Z w := ⟨fun _ => h, (fun e => absurd e (by decide)), (fun e => absurd e (by decide)), (fun e => absurd e (by decide))⟩
theorem knx2 (h : Fx w u f) : (knX d f).R 2 (.tuple #[u, .int .i64 0]) Z w := ⟨(fun e => absurd e (by decide)), fun _ => ⟨u, rfl, h⟩, (fun e => absurd e (by decide)), (fun e => absurd e (by decide))⟩
theorem knx3 (h : Fx w u f) : (knX d f).R 3 (.tuple #[u, .int .i64 0]) Z w := ⟨(fun e => absurd e (by decide)), fun _ => ⟨u, rfl, h⟩, (fun e => absurd e (by decide)), (fun e => absurd e (by decide))⟩
theorem knx4 (h : Fx w v f) : (knX d f).R 4 v Z w := ⟨(fun e => absurd e (by decide)), (fun e => absurd e (by decide)), fun _ => h, (fun e => absurd e (by decide))⟩
theorem knx5 : (knX d f).R 5 (.int .i64 0) Z w := ⟨(fun e => absurd e (by decide)), (fun e => absurd e (by decide)), (fun e => absurd e (by decide)), fun _ => rfl⟩
theorem knx7 : (knX d f).R 7 v Z w := ⟨(fun e => absurd e (by decide)), (fun e => absurd e (by decide)), (fun e => absurd e (by decide)), (fun e => absurd e (by decide))⟩
end
set_option maxRecDepth 100000 in
theorem examples_any (w : World) : Calls Tryz.prog 13 #[] w fun e w' => e = .returned (.bool true) ∧ Below w.heap.size w w' := by
 go_enter Tryz.func13, Tryz.ntmps13
 go_wp2_with fail
 refine (rof_any 360 w (by decide) (by decide)).mono ?_
 rintro e w1 ⟨v, rfl, hv, hb1⟩
 obtain ⟨s1, a1, n1, c1, rfl⟩ := hv.shape
 go_upto_region 2 with fail
 have hV1 := Vx.new (w := w1) (T := 33) rfl hv
 have hbl := Bl.alloc hb1 (.cells #[.bool s1, .slice a1 n1 c1] 33)
 clear hv hb1
 generalize w1.heap.size = B1 at *
 generalize w1.alloc (.cells #[.bool s1, .slice a1 n1 c1] 33) = w2 at *
 obtain ⟨r1, r2, r3, r4, x0, x1, -, -, ix⟩ := hV1.cells
 go_wp2_with fail
 refine (trial_is _ 360 2 aE w2 ix (by decide) (by decide) (Nat.le_trans ((Md.small (n := 360) (by decide)).sz (Nat.le_refl _)) (by decide)) a_trial).mono ?_
 rintro e w3 ⟨v, rfl, hF, hb⟩
 obtain ⟨y, rfl, hF⟩ := hF.shape
 replace hV1 := hV1.up hb
 replace hbl := Bl.up hbl hb
 clear hb x0 x1 ix
 go_upto_region 3 with fail
 have HB2 := Bf.new hF
 replace hV1 := hV1.alloc (.cells #[.bool y.s, .slice y.a y.n y.c, .slice y.a2 y.n2 y.c2, .slice y.a3 y.n3 y.c3, .int .i64 y.b] 36)
 replace hbl := Bl.alloc hbl (.cells #[.bool y.s, .slice y.a y.n y.c, .slice y.a2 y.n2 y.c2, .slice y.a3 y.n3 y.c3, .int .i64 y.b] 36)
 clear hF
 generalize w3.heap.size = B2 at *
 generalize w3.alloc (.cells #[.bool y.s, .slice y.a y.n y.c, .slice y.a2 y.n2 y.c2, .slice y.a3 y.n3 y.c3, .int .i64 y.b] 36) = w2 at *
 obtain ⟨r1, r2, r3, r4, x0, x1, -, -, ix⟩ := hV1.cells
 go_wp2_with fail
 refine (trial_is _ 360 4 bE w2 ix (by decide) (by decide) (Nat.le_trans ((Md.small (n := 360) (by decide)).sz (Nat.le_refl _)) (by decide)) b_trial).mono ?_
 rintro e w3 ⟨v, rfl, hF, hb⟩
 obtain ⟨y, rfl, hF⟩ := hF.shape
 replace hV1 := hV1.up hb
 replace hbl := Bl.up hbl hb
 replace HB2 := HB2.up hb
 clear hb x0 x1 ix
 go_upto_region 4 with fail
 have HB4 := Bf.new hF
 replace hV1 := hV1.alloc (.cells #[.bool y.s, .slice y.a y.n y.c, .slice y.a2 y.n2 y.c2, .slice y.a3 y.n3 y.c3, .int .i64 y.b] 36)
 replace hbl := Bl.alloc hbl (.cells #[.bool y.s, .slice y.a y.n y.c, .slice y.a2 y.n2 y.c2, .slice y.a3 y.n3 y.c3, .int .i64 y.b] 36)
 replace HB2 := HB2.up (below_new _ (.cells #[.bool y.s, .slice y.a y.n y.c, .slice y.a2 y.n2 y.c2, .slice y.a3 y.n3 y.c3, .int .i64 y.b] 36))
 clear hF
 generalize w3.heap.size = B4 at *
 generalize w3.alloc (.cells #[.bool y.s, .slice y.a y.n y.c, .slice y.a2 y.n2 y.c2, .slice y.a3 y.n3 y.c3, .int .i64 y.b] 36) = w2 at *
 clear hV1
 go_wp2_with fail
 refine (rof_any 0 w2 (by decide) (by decide)).mono ?_
 rintro e w3 ⟨v, rfl, hv, hb⟩
 replace HB2 := HB2.up hb
 replace HB4 := HB4.up hb
 replace hbl := Bl.up hbl hb
 clear hb
 go_wp2_with fail
 refine (trial_bad _ 0 2 w3 hv (by decide)).mono ?_
 rintro e w4 ⟨v, rfl, hF, hb⟩
 obtain ⟨y, rfl, hF⟩ := hF.shape
 replace HB2 := HB2.up hb
 replace HB4 := HB4.up hb
 replace hbl := Bl.up hbl hb
 clear hb hv
 go_upto_region 5 with fail
 have HB6 := Bf.new hF
 replace hbl := Bl.alloc hbl (.cells #[.bool y.s, .slice y.a y.n y.c, .slice y.a2 y.n2 y.c2, .slice y.a3 y.n3 y.c3, .int .i64 y.b] 36)
 replace HB2 := HB2.up (below_new _ (.cells #[.bool y.s, .slice y.a y.n y.c, .slice y.a2 y.n2 y.c2, .slice y.a3 y.n3 y.c3, .int .i64 y.b] 36))
 replace HB4 := HB4.up (below_new _ (.cells #[.bool y.s, .slice y.a y.n y.c, .slice y.a2 y.n2 y.c2, .slice y.a3 y.n3 y.c3, .int .i64 y.b] 36))
 clear hF
 generalize w4.heap.size = B6 at *
 generalize w4.alloc (.cells #[.bool y.s, .slice y.a y.n y.c, .slice y.a2 y.n2 y.c2, .slice y.a3 y.n3 y.c3, .int .i64 y.b] 36) = w2 at *
 clear HB6
 obtain ⟨y, ⟨p0, p1, p2, p3, p4⟩, hFa, -⟩ := HB2.cells
 have HFa := Lib.hid hFa
 have HHB2 := Lib.hid HB2
 have HHB4 := Lib.hid HB4
 have HBL := Lib.hid hbl
 clear hFa HB2 HB4 hbl
 refine wp_region_T (by kernel_rfl) [7] (S := fun w' => w'.cell? ⟨B2, 0, none⟩ = some (.bool y.s) ∧ w'.cell? ⟨B2, 1, none⟩ = some (.slice y.a y.n y.c) ∧ w'.cell? ⟨B2, 2, none⟩ = some (.slice y.a2 y.n2 y.c2) ∧ w'.cell? ⟨B2, 3, none⟩ = some (.slice y.a3 y.n3 y.c3) ∧ w'.cell? ⟨B2, 4, none⟩ = some (.int .i64 y.b)) ⟨p0, p1, p2, p3, p4⟩ (fun hHeld => ?_)
 refine kL 0 rfl ?_
 clear hHeld
 refine wpAnyT_all [(1, some 36), (2, some 37), (3, some 34), (4, some 38), (5, some 39), (6, some 8), (7, none)] 1 (Fl3 (knX 15 (zF cE)) (fun w B => Bf w B (zF cE)) 6 7 w2) rfl (by kernel_rfl) (by decide) (by kernel_rfl) (by kernel_rfl) (by kernel_rfl)
  (fun bb xx wz h => ⟨keepc h.fl.bl p0, keepc h.fl.bl p1, keepc h.fl.bl p2, keepc h.fl.bl p3, keepc h.fl.bl p4⟩) (fun xx => Fl3.start _ _ _ _ _ _) ?_ ?_
 ·intro i hi
  have hi' : i = 1 ∨ i = 2 ∨ i = 3 ∨ i = 4 ∨ i = 5 ∨ i = 6 ∨ i = 7 := by simpa using hi
  clear hi
  rcases hi' with rfl | rfl | rfl | rfl | rfl | rfl | rfl
  ·refine ⟨_, rfl, fun bb xx wz hJ hbb hw K hK => ?_⟩
   clear hbb hw
   simp only [actsD, List.foldl_cons, List.foldl_nil, Act.put, List.setIfInBounds_toArray, List.set_cons_zero, List.set_cons_succ] at hK ⊢
   go_simp
   refine (rof_any 15 wz (by decide) (by decide)).mono ?_
   rintro e w8 ⟨v, rfl, hv, hb⟩
   exact hK.out _ _ (hJ.call (fun _ _ _ h hb => h.up hb) (i := 1) (by decide) (by decide) (Z := fun _ => False) (knx1 hv) (fun k hk => hk.elim) hb)
  ·refine ⟨_, rfl, fun bb xx wz hJ hbb hw K hK => ?_⟩
   obtain ⟨Z, hRR, -, -⟩ := hJ.fl.pr 1 (by decide) (hw 1 (by kernel_rfl))
   have hv1 := hRR.1 rfl
   clear hbb hw hRR
   simp only [actsD, List.foldl_cons, List.foldl_nil, Act.put, List.setIfInBounds_toArray, List.set_cons_zero, List.set_cons_succ] at hK ⊢
   go_simp
   refine (split_is _ _ wz (HFa.out.up hJ.fl.bl) hv1).mono ?_
   rintro e w8 ⟨v, rfl, hv, hb⟩
   exact hK.out _ _ (hJ.call (fun _ _ _ h hb => h.up hb) (i := 2) (by decide) (by decide) (Z := fun _ => False) (knx2 hv) (fun k hk => hk.elim) hb)
  ·refine ⟨_, rfl, fun bb xx wz hJ hbb hw K hK => ?_⟩
   have hp : ∃ u, xx 2 = .tuple #[u, .int .i64 0] ∧ Fx wz u (zF cE) := by
    obtain ⟨Z, hRR, -, -⟩ := hJ.fl.pr 2 (by decide) (hw 2 (by kernel_rfl))
    exact hRR.2.1 (.inl rfl)
   have hh := Classical.choose_spec hp
   generalize Classical.choose hp = u at hh
   have hxu := hh.1
   have hu := hh.2
   clear hbb hw hp hh
   simp only [actsD, List.foldl_cons, List.foldl_nil, Act.put, List.setIfInBounds_toArray, List.set_cons_zero, List.set_cons_succ, hxu] at hK ⊢
   go_simp
   exact hK.out _ _ (hJ.call (fun _ _ _ h hb => h.up hb) (i := 3) (by decide) (by decide) (Z := fun _ => False) (knx3 hu) (fun k hk => hk.elim) (Below.refl _ _))
  ·refine ⟨_, rfl, fun bb xx wz hJ hbb hw K hK => ?_⟩
   have hp : ∃ u, xx 3 = .tuple #[u, .int .i64 0] ∧ Fx wz u (zF cE) := by
    obtain ⟨Z, hRR, -, -⟩ := hJ.fl.pr 3 (by decide) (hw 3 (by kernel_rfl))
    exact hRR.2.1 (.inr rfl)
   have hh := Classical.choose_spec hp
   generalize Classical.choose hp = u at hh
   have hxu := hh.1
   have hu := hh.2
   clear hbb hw hp hh
   simp only [actsD, List.foldl_cons, List.foldl_nil, Act.put, List.setIfInBounds_toArray, List.set_cons_zero, List.set_cons_succ, hxu] at hK ⊢
   go_simp
   exact hK.out _ _ (hJ.call (fun _ _ _ h hb => h.up hb) (i := 4) (by decide) (by decide) (Z := fun _ => False) (knx4 hu) (fun k hk => hk.elim) (Below.refl _ _))
  ·refine ⟨_, rfl, fun bb xx wz hJ hbb hw K hK => ?_⟩
   have hp : ∃ u, xx 3 = .tuple #[u, .int .i64 0] ∧ Fx wz u (zF cE) := by
    obtain ⟨Z, hRR, -, -⟩ := hJ.fl.pr 3 (by decide) (hw 3 (by kernel_rfl))
    exact hRR.2.1 (.inr rfl)
   have hh := Classical.choose_spec hp
   generalize Classical.choose hp = u at hh
   have hxu := hh.1
   have hu := hh.2
   clear hbb hw hp hh
   simp only [actsD, List.foldl_cons, List.foldl_nil, Act.put, List.setIfInBounds_toArray, List.set_cons_zero, List.set_cons_succ, hxu] at hK ⊢
   go_simp
   exact hK.out _ _ (hJ.call (fun _ _ _ h hb => h.up hb) (i := 5) (by decide) (by decide) (Z := fun _ => False) (knx5) (fun k hk => hk.elim) (Below.refl _ _))
  ·refine ⟨_, rfl, fun bb xx wz hJ hbb hw K hK => ?_⟩
   clear hw
   simp only [actsD, List.foldl_cons, List.foldl_nil, Act.put, List.setIfInBounds_toArray, List.set_cons_zero, List.set_cons_succ] at hK ⊢
   go_simp
   exact hK.out _ _ (hJ.var (W' := wz.alloc (.cells #[.bool false, .slice none 0 0, .slice none 0 0, .slice none 0 0, .int .i64 0] 36)) (by decide) hbb (Fv.new wz) (below_new _ _))
  ·refine ⟨_, rfl, fun bb xx wz hJ hbb hw K hK => ?_⟩
   have hp := (show Fx wz (xx 4) (zF cE) by
    obtain ⟨Z, hRR, -, -⟩ := hJ.fl.pr 4 (by decide) (hw 4 (by kernel_rfl))
    exact hRR.2.2.1 rfl).shape
   have hq := hJ.fl.pj (hw 6 (by kernel_rfl))
   have hh := Classical.choose_spec hp
   have hg := Classical.choose_spec hq
   generalize Classical.choose hp = z at hh
   generalize Classical.choose hq = B8 at hg
   have hxu := hh.1
   have hxv := hg.1
   have hu := hh.2
   have hB8 := hg.2.1
   have hVa : Fv wz B8 := hg.2.2
   have hcc := hVa.cells
   have hcs := Classical.choose_spec hcc
   generalize Classical.choose hcc = yy at hcs
   have d0 := hcs.1
   have d1 := hcs.2.1
   have d2 := hcs.2.2.1
   have d3 := hcs.2.2.2.1
   have d4 := hcs.2.2.2.2.1
   have g0 := hcs.2.2.2.2.2.1
   have g1 := hcs.2.2.2.2.2.2.1
   have g2 := hcs.2.2.2.2.2.2.2.1
   have g3 := hcs.2.2.2.2.2.2.2.2.1
   have g4 := hcs.2.2.2.2.2.2.2.2.2
   have h6 := hw 6 (by kernel_rfl)
   have HJ := Lib.hid hJ
   have HXV := Lib.hid hxv
   have HVa := Lib.hid hVa
   have HU := Lib.hid hu
   clear hbb hw hp hh hq hg hcc hcs hJ hVa hu p0 p1 p2 p3 p4
   simp only [actsD, List.foldl_cons, List.foldl_nil, Act.put, List.setIfInBounds_toArray, List.set_cons_zero, List.set_cons_succ, hxu, hxv] at hK ⊢
   clear hxu hxv
   go_simp
   go_wp2_with fail
   have hb2 := fput_but wz B8 z
   exact hK.out _ _ (HJ.out.st (v := undef) (by decide) HXV.out h6 (fun i' v Z h => knX.fr hb2 (fun g e => e ▸ HVa.out.nw) HVa.out (fun g e => e) h) (by simp [fput]) (ButS.below HJ.out.fl.bl hb2 HJ.out.fl.bl.size (fun g e => e ▸ hB8)) ⟨z, fput_heap HVa.out z⟩ (Bf.put HVa.out HU.out) knx7)
 intro bb xx wz hbb hJ
 obtain ⟨Z, hRR, -, -⟩ := hJ.fl.pr 5 (by decide) (hbb 5 (by decide))
 have h5 := hRR.2.2.2 rfl
 obtain ⟨B8, hx8, hB8, -⟩ := hJ.fl.pj (hbb 6 (by decide))
 have HB8 := (hJ.ct (hbb 7 (by decide))).2 B8 hx8
 have hbz := hJ.fl.bl
 clear hbb hJ hRR
 obtain ⟨u1, hu1⟩ : ∃ u1, u1 = xx 1 := ⟨_, rfl⟩
 obtain ⟨u2, hu2⟩ : ∃ u2, u2 = xx 2 := ⟨_, rfl⟩
 obtain ⟨u3, hu3⟩ : ∃ u3, u3 = xx 3 := ⟨_, rfl⟩
 obtain ⟨u4, hu4⟩ : ∃ u4, u4 = xx 4 := ⟨_, rfl⟩
 simp only [actsD, markOf, List.map_cons, List.map_nil, List.foldl_cons, List.foldl_nil, Act.put, List.setIfInBounds_toArray, List.set_cons_zero, List.set_cons_succ, hx8, h5, ← hu1, ← hu2, ← hu3, ← hu4]
 clear hx8 h5 hu1 hu2 hu3 hu4
 (refine oL 8 rfl fun K hK => tL ?_; go_simp)
 (go_wp2_with fail; refine hK.out _ _ (fun h => absurd h (by decide)) ?_; clear hK; refine tL ?_)
 refine wpAnyT_done (by kernel_rfl) ?_ _
 have HB2 := HHB2.out.up hbz
 have HB4 := HHB4.out.up hbz
 have hbl := Bl.up HBL.out hbz
 clear p0 p1 p2 p3 p4 hbz HHB2 HHB4 HBL HFa hB8
 have H2 := Lib.hid HB2
 have H4 := Lib.hid HB4
 have H8 := Lib.hid HB8
 have HL := Lib.hid hbl
 clear HB2 HB4 HB8 hbl
 go_wp2_with fail
 refine (rof_any 60 wz (by decide) (by decide)).mono ?_
 rintro e w3 ⟨v, rfl, hv, hb⟩
 obtain ⟨sv, av, nv, cv, rfl⟩ := hv.shape
 replace H2 := Lib.hid (H2.out.up hb)
 replace H4 := Lib.hid (H4.out.up hb)
 replace H8 := Lib.hid (H8.out.up hb)
 replace HL := Lib.hid (Bl.up HL.out hb)
 clear hb
 have hD := heap_alloc_new w3 (.cells #[.int .i64 60, .int .i64 1] 87)
 have hsr : Sr e2 (w3.alloc (.cells #[.int .i64 60, .int .i64 1] 87)) (.slice (some ⟨w3.heap.size, 0, none⟩) 1 1) [((60 : Int), (1 : Int))] := Sr.one (E := e2) (cs := [.int .i64 60, .int .i64 1]) hD rfl
 replace H2 := Lib.hid (H2.out.up (below_new _ (.cells #[.int .i64 60, .int .i64 1] 87)))
 replace H4 := Lib.hid (H4.out.up (below_new _ (.cells #[.int .i64 60, .int .i64 1] 87)))
 replace H8 := Lib.hid (H8.out.up (below_new _ (.cells #[.int .i64 60, .int .i64 1] 87)))
 replace HL := Lib.hid (Bl.alloc HL.out (.cells #[.int .i64 60, .int .i64 1] 87))
 replace hv := hv.up (below_new _ (.cells #[.int .i64 60, .int .i64 1] 87))
 go_wp2_with fail
 refine (powers_any _ [((60 : Int), (1 : Int))] _ hsr (by decide) (by decide)).mono ?_
 rintro e w4 ⟨u, rfl, hu, hb⟩
 replace H2 := Lib.hid (H2.out.up hb)
 replace H4 := Lib.hid (H4.out.up hb)
 replace H8 := Lib.hid (H8.out.up hb)
 replace HL := Lib.hid (Bl.up HL.out hb)
 replace hv := hv.up hb
 obtain ⟨au, cu, rfl, -⟩ := hu.slice
 replace hu := hu.sr
 clear hb hsr hD
 have hF : Fx w4 (.agg #[.bool sv, .slice av nv cv, .slice none 0 0, .slice au 1 cu, .int .i64 0]) (zF wE) := Fx.parts hv (Sr.nil _ _) hu rfl
 go_upto_region 7 with fail
 have H10 := Lib.hid (Bf.new (y := ⟨sv, av, nv, cv, none, 0, 0, au, 1, cu, 0⟩) hF)
 replace H2 := Lib.hid (H2.out.up (below_new _ (.cells #[.bool sv, .slice av nv cv, .slice none 0 0, .slice au 1 cu, .int .i64 0] 36)))
 replace H4 := Lib.hid (H4.out.up (below_new _ (.cells #[.bool sv, .slice av nv cv, .slice none 0 0, .slice au 1 cu, .int .i64 0] 36)))
 replace H8 := Lib.hid (H8.out.up (below_new _ (.cells #[.bool sv, .slice av nv cv, .slice none 0 0, .slice au 1 cu, .int .i64 0] 36)))
 replace HL := Lib.hid (Bl.alloc HL.out (.cells #[.bool sv, .slice av nv cv, .slice none 0 0, .slice au 1 cu, .int .i64 0] 36))
 clear hF hv hu
 generalize w4.heap.size = B10 at *
 generalize w4.alloc (.cells #[.bool sv, .slice av nv cv, .slice none 0 0, .slice au 1 cu, .int .i64 0] 36) = w2 at *
 go_wp2_with fail
 refine (rof_any 60 w2 (by decide) (by decide)).mono ?_
 rintro e w3 ⟨v, rfl, hv, hb⟩
 obtain ⟨sv, av, nv, cv, rfl⟩ := hv.shape
 replace H2 := Lib.hid (H2.out.up hb)
 replace H4 := Lib.hid (H4.out.up hb)
 replace H8 := Lib.hid (H8.out.up hb)
 replace H10 := Lib.hid (H10.out.up hb)
 replace HL := Lib.hid (Bl.up HL.out hb)
 clear hb
 have hD := heap_alloc_new w3 (.cells #[.int .i64 2, .int .i64 2] 87)
 have hsr : Sr e2 (w3.alloc (.cells #[.int .i64 2, .int .i64 2] 87)) (.slice (some ⟨w3.heap.size, 0, none⟩) 1 1) [((2 : Int), (2 : Int))] := Sr.one (E := e2) (cs := [.int .i64 2, .int .i64 2]) hD rfl
 replace H2 := Lib.hid (H2.out.up (below_new _ (.cells #[.int .i64 2, .int .i64 2] 87)))
 replace H4 := Lib.hid (H4.out.up (below_new _ (.cells #[.int .i64 2, .int .i64 2] 87)))
 replace H8 := Lib.hid (H8.out.up (below_new _ (.cells #[.int .i64 2, .int .i64 2] 87)))
 replace H10 := Lib.hid (H10.out.up (below_new _ (.cells #[.int .i64 2, .int .i64 2] 87)))
 replace HL := Lib.hid (Bl.alloc HL.out (.cells #[.int .i64 2, .int .i64 2] 87))
 replace hv := hv.up (below_new _ (.cells #[.int .i64 2, .int .i64 2] 87))
 go_wp2_with fail
 refine (powers_any _ [((2 : Int), (2 : Int))] _ hsr (by decide) (by decide)).mono ?_
 rintro e w4 ⟨u, rfl, hu, hb⟩
 replace H2 := Lib.hid (H2.out.up hb)
 replace H4 := Lib.hid (H4.out.up hb)
 replace H8 := Lib.hid (H8.out.up hb)
 replace H10 := Lib.hid (H10.out.up hb)
 replace HL := Lib.hid (Bl.up HL.out hb)
 replace hv := hv.up hb
 obtain ⟨au, cu, rfl, -⟩ := hu.slice
 replace hu := hu.sr
 clear hb hsr hD
 have hD := heap_alloc_new w4 (.cells #[.int .i64 15, .int .i64 1] 87)
 have hsr : Sr e2 (w4.alloc (.cells #[.int .i64 15, .int .i64 1] 87)) (.slice (some ⟨w4.heap.size, 0, none⟩) 1 1) [((15 : Int), (1 : Int))] := Sr.one (E := e2) (cs := [.int .i64 15, .int .i64 1]) hD rfl
 replace H2 := Lib.hid (H2.out.up (below_new _ (.cells #[.int .i64 15, .int .i64 1] 87)))
 replace H4 := Lib.hid (H4.out.up (below_new _ (.cells #[.int .i64 15, .int .i64 1] 87)))
 replace H8 := Lib.hid (H8.out.up (below_new _ (.cells #[.int .i64 15, .int .i64 1] 87)))
 replace H10 := Lib.hid (H10.out.up (below_new _ (.cells #[.int .i64 15, .int .i64 1] 87)))
 replace HL := Lib.hid (Bl.alloc HL.out (.cells #[.int .i64 15, .int .i64 1] 87))
 replace hv := hv.up (below_new _ (.cells #[.int .i64 15, .int .i64 1] 87))
 replace hu := hu.up (below_new _ (.cells #[.int .i64 15, .int .i64 1] 87))
 go_wp2_with fail
 refine (powers_any _ [((15 : Int), (1 : Int))] _ hsr (by decide) (by decide)).mono ?_
 rintro e w5 ⟨q, rfl, hq, hb⟩
 replace H2 := Lib.hid (H2.out.up hb)
 replace H4 := Lib.hid (H4.out.up hb)
 replace H8 := Lib.hid (H8.out.up hb)
 replace H10 := Lib.hid (H10.out.up hb)
 replace HL := Lib.hid (Bl.up HL.out hb)
 replace hv := hv.up hb
 replace hu := hu.up hb
 obtain ⟨aq, cq, rfl, -⟩ := hq.slice
 replace hq := hq.sr
 clear hb hsr hD
 have hF : Fx w5 (.agg #[.bool sv, .slice av nv cv, .slice au 1 cu, .slice aq 1 cq, .int .i64 0]) (zF pE) := Fx.parts hv hu hq rfl
 go_upto_region 8 with fail
 have H11 := Lib.hid (Bf.new (y := ⟨sv, av, nv, cv, au, 1, cu, aq, 1, cq, 0⟩) hF)
 replace H2 := Lib.hid (H2.out.up (below_new _ (.cells #[.bool sv, .slice av nv cv, .slice au 1 cu, .slice aq 1 cq, .int .i64 0] 36)))
 replace H4 := Lib.hid (H4.out.up (below_new _ (.cells #[.bool sv, .slice av nv cv, .slice au 1 cu, .slice aq 1 cq, .int .i64 0] 36)))
 replace H8 := Lib.hid (H8.out.up (below_new _ (.cells #[.bool sv, .slice av nv cv, .slice au 1 cu, .slice aq 1 cq, .int .i64 0] 36)))
 replace H10 := Lib.hid (H10.out.up (below_new _ (.cells #[.bool sv, .slice av nv cv, .slice au 1 cu, .slice aq 1 cq, .int .i64 0] 36)))
 replace HL := Lib.hid (Bl.alloc HL.out (.cells #[.bool sv, .slice av nv cv, .slice au 1 cu, .slice aq 1 cq, .int .i64 0] 36))
 clear hF hv hu hq
 generalize w5.heap.size = B11 at *
 generalize w5.alloc (.cells #[.bool sv, .slice av nv cv, .slice au 1 cu, .slice aq 1 cq, .int .i64 0] 36) = w2 at *
 obtain ⟨y1, ⟨p0, p1, p2, p3, p4⟩, hFp, hNp, hPp, hRp, -⟩ := H10.out.cells
 obtain ⟨y2, ⟨q0, q1, q2, q3, q4⟩, hFq, hNq, hPq, hRq, -⟩ := H11.out.cells
 go_wp2_with fail
 refine (merge_is _ _ w2 hFp hFq).mono ?_
 rintro e w3 ⟨v, rfl, hF, hb⟩
 obtain ⟨z, rfl, hF⟩ := hF.shape
 replace H2 := Lib.hid (H2.out.up hb)
 replace H4 := Lib.hid (H4.out.up hb)
 replace H8 := Lib.hid (H8.out.up hb)
 replace H10 := Lib.hid (H10.out.up hb)
 replace H11 := Lib.hid (H11.out.up hb)
 replace HL := Lib.hid (Bl.up HL.out hb)
 clear hb
 clear p0 p1 p2 p3 p4 hFp hNp hPp hRp q0 q1 q2 q3 q4 hFq hNq hPq hRq
 go_upto_region 9 with fail
 have H12 := Lib.hid (Bf.new hF)
 replace H2 := Lib.hid (H2.out.up (below_new _ (.cells #[.bool z.s, .slice z.a z.n z.c, .slice z.a2 z.n2 z.c2, .slice z.a3 z.n3 z.c3, .int .i64 z.b] 36)))
 replace H4 := Lib.hid (H4.out.up (below_new _ (.cells #[.bool z.s, .slice z.a z.n z.c, .slice z.a2 z.n2 z.c2, .slice z.a3 z.n3 z.c3, .int .i64 z.b] 36)))
 replace H8 := Lib.hid (H8.out.up (below_new _ (.cells #[.bool z.s, .slice z.a z.n z.c, .slice z.a2 z.n2 z.c2, .slice z.a3 z.n3 z.c3, .int .i64 z.b] 36)))
 replace H10 := Lib.hid (H10.out.up (below_new _ (.cells #[.bool z.s, .slice z.a z.n z.c, .slice z.a2 z.n2 z.c2, .slice z.a3 z.n3 z.c3, .int .i64 z.b] 36)))
 replace H11 := Lib.hid (H11.out.up (below_new _ (.cells #[.bool z.s, .slice z.a z.n z.c, .slice z.a2 z.n2 z.c2, .slice z.a3 z.n3 z.c3, .int .i64 z.b] 36)))
 replace HL := Lib.hid (Bl.alloc HL.out (.cells #[.bool z.s, .slice z.a z.n z.c, .slice z.a2 z.n2 z.c2, .slice z.a3 z.n3 z.c3, .int .i64 z.b] 36))
 clear hF
 generalize w3.heap.size = B12 at *
 generalize w3.alloc (.cells #[.bool z.s, .slice z.a z.n z.c, .slice z.a2 z.n2 z.c2, .slice z.a3 z.n3 z.c3, .int .i64 z.b] 36) = w2 at *
 obtain ⟨y3, ⟨p0, p1, p2, p3, p4⟩, hFp, hNp, hPp, hRp, -⟩ := H10.out.cells
 obtain ⟨y4, ⟨q0, q1, q2, q3, q4⟩, hFq, hNq, hPq, hRq, -⟩ := H2.out.cells
 go_wp2_with fail
 refine (merge_arg _ _ (zF wE) (zF aE) w2 hFp hFq (Nat.le_trans ((Md.small (n := 60) (by decide)).sz (Nat.le_refl _)) (by decide)) (Nat.le_trans ((Md.small (n := 360) (by decide)).sz (Nat.le_refl _)) (by decide)) (by decide)).mono ?_
 rintro e w3 ⟨v, rfl, hF, hb⟩
 obtain ⟨z, rfl, hF⟩ := hF.shape
 replace H2 := Lib.hid (H2.out.up hb)
 replace H4 := Lib.hid (H4.out.up hb)
 replace H8 := Lib.hid (H8.out.up hb)
 replace H10 := Lib.hid (H10.out.up hb)
 replace H11 := Lib.hid (H11.out.up hb)
 replace H12 := Lib.hid (H12.out.up hb)
 replace HL := Lib.hid (Bl.up HL.out hb)
 clear hb
 clear p0 p1 p2 p3 p4 hFp hNp hPp hRp q0 q1 q2 q3 q4 hFq hNq hPq hRq
 go_upto_region 10 with fail
 have H14 := Lib.hid (Bf.new hF)
 replace H2 := Lib.hid (H2.out.up (below_new _ (.cells #[.bool z.s, .slice z.a z.n z.c, .slice z.a2 z.n2 z.c2, .slice z.a3 z.n3 z.c3, .int .i64 z.b] 36)))
 replace H4 := Lib.hid (H4.out.up (below_new _ (.cells #[.bool z.s, .slice z.a z.n z.c, .slice z.a2 z.n2 z.c2, .slice z.a3 z.n3 z.c3, .int .i64 z.b] 36)))
 replace H8 := Lib.hid (H8.out.up (below_new _ (.cells #[.bool z.s, .slice z.a z.n z.c, .slice z.a2 z.n2 z.c2, .slice z.a3 z.n3 z.c3, .int .i64 z.b] 36)))
 replace H10 := Lib.hid (H10.out.up (below_new _ (.cells #[.bool z.s, .slice z.a z.n z.c, .slice z.a2 z.n2 z.c2, .slice z.a3 z.n3 z.c3, .int .i64 z.b] 36)))
 replace H11 := Lib.hid (H11.out.up (below_new _ (.cells #[.bool z.s, .slice z.a z.n z.c, .slice z.a2 z.n2 z.c2, .slice z.a3 z.n3 z.c3, .int .i64 z.b] 36)))
 replace H12 := Lib.hid (H12.out.up (below_new _ (.cells #[.bool z.s, .slice z.a z.n z.c, .slice z.a2 z.n2 z.c2, .slice z.a3 z.n3 z.c3, .int .i64 z.b] 36)))
 replace HL := Lib.hid (Bl.alloc HL.out (.cells #[.bool z.s, .slice z.a z.n z.c, .slice z.a2 z.n2 z.c2, .slice z.a3 z.n3 z.c3, .int .i64 z.b] 36))
 clear hF
 generalize w3.heap.size = B14 at *
 generalize w3.alloc (.cells #[.bool z.s, .slice z.a z.n z.c, .slice z.a2 z.n2 z.c2, .slice z.a3 z.n3 z.c3, .int .i64 z.b] 36) = w2 at *
 clear H14 H10
 obtain ⟨y5, ⟨q0, q1, q2, q3, q4⟩, hFq, hNq, hPq, hRq, -⟩ := H2.out.cells
 go_wp2_with fail
 refine (divisors_none _ (zF aE) w2 hFq (by decide)).mono ?_
 rintro e w3 ⟨rfl, hb⟩
 replace H2 := Lib.hid (H2.out.up hb)
 replace H4 := Lib.hid (H4.out.up hb)
 replace H8 := Lib.hid (H8.out.up hb)
 replace H11 := Lib.hid (H11.out.up hb)
 replace H12 := Lib.hid (H12.out.up hb)
 replace HL := Lib.hid (Bl.up HL.out hb)
 clear hb
 clear q0 q1 q2 q3 q4 hFq hNq hPq hRq
 go_upto_region 13 with fail
 obtain ⟨y6, ⟨-, -, p2, p3, -⟩, -, -, hPp, hRp, -⟩ := H2.out.cells
 obtain ⟨y7, ⟨-, -, q2, -, -⟩, -, -, hPq, -⟩ := H8.out.cells
 refine wp_region_T (by kernel_rfl) [] (S := fun w' => w'.cell? ⟨B2, 2, none⟩ = some (.slice y6.a2 y6.n2 y6.c2) ∧ w'.cell? ⟨B2, 3, none⟩ = some (.slice y6.a3 y6.n3 y6.c3) ∧ w'.cell? ⟨B8, 2, none⟩ = some (.slice y7.a2 y7.n2 y7.c2)) ⟨p2, p3, q2⟩ (fun hHeld => ?_)
 (refine kL 0 rfl ?_; refine kL 1 rfl ?_; refine kL 2 rfl ?_)
 (refine oL 3 rfl fun K hK => tL ?_; go_simp)
 have hD := heap_alloc_new w3 (.cells #[.int .i64 2, .int .i64 3] 87)
 have hsr : Sr e2 ((w3.alloc (.cells #[.int .i64 2, .int .i64 3] 87)).drew) (.slice (some ⟨w3.heap.size, 0, none⟩) 1 1) [((2 : Int), (3 : Int))] := (show Sr e2 (w3.alloc (.cells #[.int .i64 2, .int .i64 3] 87)) (.slice (some ⟨w3.heap.size, 0, none⟩) 1 1) [((2 : Int), (3 : Int))] from Sr.one (E := e2) (cs := [.int .i64 2, .int .i64 3]) hD rfl).drew
 have hb : Below w3.heap.size w3 ((w3.alloc (.cells #[.int .i64 2, .int .i64 3] 87)).drew) := (below_new _ _).drew
 replace hPp := hPp.up hb
 replace hRp := hRp.up hb
 replace hPq := hPq.up hb
 replace p2 := keepc hb p2
 replace p3 := keepc hb p3
 replace q2 := keepc hb q2
 replace H2 := Lib.hid (H2.out.up hb)
 replace H4 := Lib.hid (H4.out.up hb)
 replace H8 := Lib.hid (H8.out.up hb)
 replace H11 := Lib.hid (H11.out.up hb)
 replace H12 := Lib.hid (H12.out.up hb)
 replace HL := Lib.hid (Bl.up HL.out hb)
 clear hb hD
 (go_wp2_with fail; clear hHeld; have hHeld : (fun w' : World => w'.cell? ⟨B2, 2, none⟩ = some (.slice y6.a2 y6.n2 y6.c2) ∧ w'.cell? ⟨B2, 3, none⟩ = some (.slice y6.a3 y6.n3 y6.c3) ∧ w'.cell? ⟨B8, 2, none⟩ = some (.slice y7.a2 y7.n2 y7.c2)) ((w3.alloc (.cells #[.int .i64 2, .int .i64 3] 87)).drew) := ⟨p2, p3, q2⟩; refine hK.out _ _ (fun _ => hHeld) ?_; clear hK; refine tL ?_)
 generalize (w3.alloc (.cells #[.int .i64 2, .int .i64 3] 87)).drew = wa at *
 (refine oL 4 rfl fun K hK => tL ?_; go_simp)
 refine (powers_any _ [((2 : Int), (3 : Int))] wa hsr (by decide) (by decide)).mono ?_
 rintro e wb ⟨v, rfl, hv, hb⟩
 replace hPp := hPp.up hb
 replace hRp := hRp.up hb
 replace hPq := hPq.up hb
 replace p2 := keepc hb p2
 replace p3 := keepc hb p3
 replace q2 := keepc hb q2
 replace H2 := Lib.hid (H2.out.up hb)
 replace H4 := Lib.hid (H4.out.up hb)
 replace H8 := Lib.hid (H8.out.up hb)
 replace H11 := Lib.hid (H11.out.up hb)
 replace H12 := Lib.hid (H12.out.up hb)
 replace HL := Lib.hid (Bl.up HL.out hb)
 clear hb hsr
 (go_wp2_with fail; clear hHeld; have hHeld : (fun w' : World => w'.cell? ⟨B2, 2, none⟩ = some (.slice y6.a2 y6.n2 y6.c2) ∧ w'.cell? ⟨B2, 3, none⟩ = some (.slice y6.a3 y6.n3 y6.c3) ∧ w'.cell? ⟨B8, 2, none⟩ = some (.slice y7.a2 y7.n2 y7.c2)) (wb) := ⟨p2, p3, q2⟩; refine hK.out _ _ (fun _ => hHeld) ?_; clear hK; refine tL ?_)
 (refine oL 5 rfl fun K hK => tL ?_; go_simp)
 refine (rsamep_any _ _ (zF aE).P [((2 : Int), (3 : Int))] wb hPp hv.sr (a_right.szP (Md.small (by decide))) (a_right.szP (Md.small (by decide)))).mono ?_
 rintro e wc ⟨rfl, hb⟩
 replace hPp := hPp.up hb
 replace hRp := hRp.up hb
 replace hPq := hPq.up hb
 replace p2 := keepc hb p2
 replace p3 := keepc hb p3
 replace q2 := keepc hb q2
 replace H2 := Lib.hid (H2.out.up hb)
 replace H4 := Lib.hid (H4.out.up hb)
 replace H8 := Lib.hid (H8.out.up hb)
 replace H11 := Lib.hid (H11.out.up hb)
 replace H12 := Lib.hid (H12.out.up hb)
 replace HL := Lib.hid (Bl.up HL.out hb)
 rw [show decide ((zF aE).P = [((2 : Int), (3 : Int))]) = true by decide]
 clear hb hv
 (go_wp2_with fail; clear hHeld; have hHeld : (fun w' : World => w'.cell? ⟨B2, 2, none⟩ = some (.slice y6.a2 y6.n2 y6.c2) ∧ w'.cell? ⟨B2, 3, none⟩ = some (.slice y6.a3 y6.n3 y6.c3) ∧ w'.cell? ⟨B8, 2, none⟩ = some (.slice y7.a2 y7.n2 y7.c2)) (wc) := ⟨p2, p3, q2⟩; refine hK.out _ _ (fun _ => hHeld) ?_; clear hK; refine tL ?_)
 (refine kL 6 rfl ?_; refine kL 7 rfl ?_; refine kL 8 rfl ?_; refine kL 9 rfl ?_; refine kL 10 rfl ?_)
 (refine oL 11 rfl fun K hK => tL ?_; go_simp)
 have hD := heap_alloc_new wc (.cells #[.int .i64 45, .int .i64 1] 87)
 have hsr : Sr e2 (wc.alloc (.cells #[.int .i64 45, .int .i64 1] 87)) (.slice (some ⟨wc.heap.size, 0, none⟩) 1 1) [((45 : Int), (1 : Int))] := Sr.one (E := e2) (cs := [.int .i64 45, .int .i64 1]) hD rfl
 have hb : Below wc.heap.size wc (wc.alloc (.cells #[.int .i64 45, .int .i64 1] 87)) := below_new _ _
 replace hPp := hPp.up hb
 replace hRp := hRp.up hb
 replace hPq := hPq.up hb
 replace p2 := keepc hb p2
 replace p3 := keepc hb p3
 replace q2 := keepc hb q2
 replace H2 := Lib.hid (H2.out.up hb)
 replace H4 := Lib.hid (H4.out.up hb)
 replace H8 := Lib.hid (H8.out.up hb)
 replace H11 := Lib.hid (H11.out.up hb)
 replace H12 := Lib.hid (H12.out.up hb)
 replace HL := Lib.hid (Bl.up HL.out hb)
 clear hb hD
 (go_wp2_with fail; clear hHeld; have hHeld : (fun w' : World => w'.cell? ⟨B2, 2, none⟩ = some (.slice y6.a2 y6.n2 y6.c2) ∧ w'.cell? ⟨B2, 3, none⟩ = some (.slice y6.a3 y6.n3 y6.c3) ∧ w'.cell? ⟨B8, 2, none⟩ = some (.slice y7.a2 y7.n2 y7.c2)) (wc.alloc (.cells #[.int .i64 45, .int .i64 1] 87)) := ⟨p2, p3, q2⟩; refine hK.out _ _ (fun _ => hHeld) ?_; clear hK; refine tL ?_)
 generalize wc.alloc (.cells #[.int .i64 45, .int .i64 1] 87) = wa at *
 (refine oL 12 rfl fun K hK => tL ?_; go_simp)
 refine (powers_any _ [((45 : Int), (1 : Int))] wa hsr (by decide) (by decide)).mono ?_
 rintro e wb ⟨v, rfl, hv, hb⟩
 replace hPp := hPp.up hb
 replace hRp := hRp.up hb
 replace hPq := hPq.up hb
 replace p2 := keepc hb p2
 replace p3 := keepc hb p3
 replace q2 := keepc hb q2
 replace H2 := Lib.hid (H2.out.up hb)
 replace H4 := Lib.hid (H4.out.up hb)
 replace H8 := Lib.hid (H8.out.up hb)
 replace H11 := Lib.hid (H11.out.up hb)
 replace H12 := Lib.hid (H12.out.up hb)
 replace HL := Lib.hid (Bl.up HL.out hb)
 clear hb hsr
 (go_wp2_with fail; clear hHeld; have hHeld : (fun w' : World => w'.cell? ⟨B2, 2, none⟩ = some (.slice y6.a2 y6.n2 y6.c2) ∧ w'.cell? ⟨B2, 3, none⟩ = some (.slice y6.a3 y6.n3 y6.c3) ∧ w'.cell? ⟨B8, 2, none⟩ = some (.slice y7.a2 y7.n2 y7.c2)) (wb) := ⟨p2, p3, q2⟩; refine hK.out _ _ (fun _ => hHeld) ?_; clear hK; refine tL ?_)
 (refine oL 13 rfl fun K hK => tL ?_; go_simp)
 refine (rsamep_any _ _ (zF aE).R [((45 : Int), (1 : Int))] wb hRp hv.sr (a_right.szR (Md.small (by decide))) (a_right.szR (Md.small (by decide)))).mono ?_
 rintro e wc ⟨rfl, hb⟩
 replace hPp := hPp.up hb
 replace hRp := hRp.up hb
 replace hPq := hPq.up hb
 replace p2 := keepc hb p2
 replace p3 := keepc hb p3
 replace q2 := keepc hb q2
 replace H2 := Lib.hid (H2.out.up hb)
 replace H4 := Lib.hid (H4.out.up hb)
 replace H8 := Lib.hid (H8.out.up hb)
 replace H11 := Lib.hid (H11.out.up hb)
 replace H12 := Lib.hid (H12.out.up hb)
 replace HL := Lib.hid (Bl.up HL.out hb)
 rw [show decide ((zF aE).R = [((45 : Int), (1 : Int))]) = true by decide]
 clear hb hv
 (go_wp2_with fail; clear hHeld; have hHeld : (fun w' : World => w'.cell? ⟨B2, 2, none⟩ = some (.slice y6.a2 y6.n2 y6.c2) ∧ w'.cell? ⟨B2, 3, none⟩ = some (.slice y6.a3 y6.n3 y6.c3) ∧ w'.cell? ⟨B8, 2, none⟩ = some (.slice y7.a2 y7.n2 y7.c2)) (wc) := ⟨p2, p3, q2⟩; refine hK.out _ _ (fun _ => hHeld) ?_; clear hK; refine tL ?_)
 (refine kL 14 rfl ?_; refine kL 15 rfl ?_; refine kL 16 rfl ?_; refine kL 17 rfl ?_; refine kL 18 rfl ?_; refine kL 19 rfl ?_; refine kL 20 rfl ?_; refine kL 21 rfl ?_)
 (refine oL 22 rfl fun K hK => tL ?_; go_simp)
 have hD := heap_alloc_new wc (.cells #[.int .i64 2, .int .i64 3, .int .i64 3, .int .i64 2, .int .i64 5, .int .i64 1] 87)
 have hsr : Sr e2 (wc.alloc (.cells #[.int .i64 2, .int .i64 3, .int .i64 3, .int .i64 2, .int .i64 5, .int .i64 1] 87)) (.slice (some ⟨wc.heap.size, 0, none⟩) 3 3) [((2 : Int), (3 : Int)), ((3 : Int), (2 : Int)), ((5 : Int), (1 : Int))] := Sr.three2 hD
 have hb : Below wc.heap.size wc (wc.alloc (.cells #[.int .i64 2, .int .i64 3, .int .i64 3, .int .i64 2, .int .i64 5, .int .i64 1] 87)) := below_new _ _
 replace hPp := hPp.up hb
 replace hRp := hRp.up hb
 replace hPq := hPq.up hb
 replace p2 := keepc hb p2
 replace p3 := keepc hb p3
 replace q2 := keepc hb q2
 replace H2 := Lib.hid (H2.out.up hb)
 replace H4 := Lib.hid (H4.out.up hb)
 replace H8 := Lib.hid (H8.out.up hb)
 replace H11 := Lib.hid (H11.out.up hb)
 replace H12 := Lib.hid (H12.out.up hb)
 replace HL := Lib.hid (Bl.up HL.out hb)
 clear hb hD
 (go_wp2_with fail; clear hHeld; have hHeld : (fun w' : World => w'.cell? ⟨B2, 2, none⟩ = some (.slice y6.a2 y6.n2 y6.c2) ∧ w'.cell? ⟨B2, 3, none⟩ = some (.slice y6.a3 y6.n3 y6.c3) ∧ w'.cell? ⟨B8, 2, none⟩ = some (.slice y7.a2 y7.n2 y7.c2)) (wc.alloc (.cells #[.int .i64 2, .int .i64 3, .int .i64 3, .int .i64 2, .int .i64 5, .int .i64 1] 87)) := ⟨p2, p3, q2⟩; refine hK.out _ _ (fun _ => hHeld) ?_; clear hK; refine tL ?_)
 generalize wc.alloc (.cells #[.int .i64 2, .int .i64 3, .int .i64 3, .int .i64 2, .int .i64 5, .int .i64 1] 87) = wa at *
 (refine oL 23 rfl fun K hK => tL ?_; go_simp)
 refine (powers_any _ [((2 : Int), (3 : Int)), ((3 : Int), (2 : Int)), ((5 : Int), (1 : Int))] wa hsr (by decide) (by decide)).mono ?_
 rintro e wb ⟨v, rfl, hv, hb⟩
 replace hPp := hPp.up hb
 replace hRp := hRp.up hb
 replace hPq := hPq.up hb
 replace p2 := keepc hb p2
 replace p3 := keepc hb p3
 replace q2 := keepc hb q2
 replace H2 := Lib.hid (H2.out.up hb)
 replace H4 := Lib.hid (H4.out.up hb)
 replace H8 := Lib.hid (H8.out.up hb)
 replace H11 := Lib.hid (H11.out.up hb)
 replace H12 := Lib.hid (H12.out.up hb)
 replace HL := Lib.hid (Bl.up HL.out hb)
 clear hb hsr
 (go_wp2_with fail; clear hHeld; have hHeld : (fun w' : World => w'.cell? ⟨B2, 2, none⟩ = some (.slice y6.a2 y6.n2 y6.c2) ∧ w'.cell? ⟨B2, 3, none⟩ = some (.slice y6.a3 y6.n3 y6.c3) ∧ w'.cell? ⟨B8, 2, none⟩ = some (.slice y7.a2 y7.n2 y7.c2)) (wb) := ⟨p2, p3, q2⟩; refine hK.out _ _ (fun _ => hHeld) ?_; clear hK; refine tL ?_)
 (refine oL 24 rfl fun K hK => tL ?_; go_simp)
 refine (rsamep_any _ _ (zF cE).P [((2 : Int), (3 : Int)), ((3 : Int), (2 : Int)), ((5 : Int), (1 : Int))] wb hPq hv.sr (b_right.szP (Md.small (by decide))) (b_right.szP (Md.small (by decide)))).mono ?_
 rintro e wc ⟨rfl, hb⟩
 replace hPp := hPp.up hb
 replace hRp := hRp.up hb
 replace hPq := hPq.up hb
 replace p2 := keepc hb p2
 replace p3 := keepc hb p3
 replace q2 := keepc hb q2
 replace H2 := Lib.hid (H2.out.up hb)
 replace H4 := Lib.hid (H4.out.up hb)
 replace H8 := Lib.hid (H8.out.up hb)
 replace H11 := Lib.hid (H11.out.up hb)
 replace H12 := Lib.hid (H12.out.up hb)
 replace HL := Lib.hid (Bl.up HL.out hb)
 rw [show decide ((zF cE).P = [((2 : Int), (3 : Int)), ((3 : Int), (2 : Int)), ((5 : Int), (1 : Int))]) = true by decide]
 clear hb hv
 (go_wp2_with fail; clear hHeld; have hHeld : (fun w' : World => w'.cell? ⟨B2, 2, none⟩ = some (.slice y6.a2 y6.n2 y6.c2) ∧ w'.cell? ⟨B2, 3, none⟩ = some (.slice y6.a3 y6.n3 y6.c3) ∧ w'.cell? ⟨B8, 2, none⟩ = some (.slice y7.a2 y7.n2 y7.c2)) (wc) := ⟨p2, p3, q2⟩; refine hK.out _ _ (fun _ => hHeld) ?_; clear hK; refine tL ?_)
 (refine kL 25 rfl ?_; refine kL 26 rfl ?_)
 refine wpAnyT_done (by kernel_rfl) ?_ _
 clear hHeld p2 p3 q2 hPp hRp hPq
 go_upto_region 15 with fail
 obtain ⟨y8, ⟨-, -, p2, p3, -⟩, -, -, hP8, hR8, -, hn8, -⟩ := H4.out.cells
 obtain ⟨y9, ⟨-, -, q2, -, -⟩, -, -, hP9, -⟩ := H8.out.cells
 have hn8 : y8.n3 = 0 := hn8
 have HN8 := Lib.hid hn8
 clear hn8
 go_wp2_with fail
 refine (rsamep_any _ _ (zF bE).P (zF cE).P wc hP8 hP9 (b_right.szP (Md.small (by decide))) (b_right.szP (Md.small (by decide)))).mono ?_
 rintro e wd ⟨rfl, hb⟩
 rw [show decide ((zF bE).P = (zF cE).P) = true by decide]
 replace H2 := Lib.hid (H2.out.up hb)
 replace H4 := Lib.hid (H4.out.up hb)
 replace H8 := Lib.hid (H8.out.up hb)
 replace H11 := Lib.hid (H11.out.up hb)
 replace H12 := Lib.hid (H12.out.up hb)
 replace HL := Lib.hid (Bl.up HL.out hb)
 replace p3 := keepc hb p3
 clear hb p2 q2 hP8 hP9 hR8
 obtain ⟨z1, ⟨f0', f1', f2', f3', f4'⟩, hFd, -⟩ := H12.out.cells
 obtain ⟨z2, ⟨g0', g1', g2', g3', g4'⟩, hFe, -⟩ := H11.out.cells
 have hn8 := HN8.out
 have hn8i : ((y8.n3 : Int) == 0) = true := by rw [hn8]; rfl
 go_wp2_with fail
 refine (rsamef_any _ _ (zF pE) (zF pE) wd hFd hFe (p_right.szf (Md.small (by decide))) (p_right.szf (Md.small (by decide)))).mono ?_
 rintro e we ⟨rfl, hb⟩
 rw [show sameF (zF pE) (zF pE) = true from sameF_iff.2 rfl]
 replace H2 := Lib.hid (H2.out.up hb)
 replace H4 := Lib.hid (H4.out.up hb)
 replace H8 := Lib.hid (H8.out.up hb)
 replace H11 := Lib.hid (H11.out.up hb)
 replace H12 := Lib.hid (H12.out.up hb)
 replace HL := Lib.hid (Bl.up HL.out hb)
 clear hb f0' f1' f2' f3' f4' g0' g1' g2' g3' g4' hFd hFe p3
 obtain ⟨z3, ⟨f0', f1', f2', f3', f4'⟩, hFd, -⟩ := H2.out.cells
 go_wp2_with fail
 refine (right_any _ (zF aE) we hFd (a_right.szf (Md.small (by decide))) (by decide) (by decide)).mono ?_
 rintro e wf ⟨rfl, hb⟩
 rw [show rightB (zF aE) = true from rightB_of (right_nat.2 a_right)]
 replace HL := Lib.hid (Bl.up HL.out hb)
 clear hb f0' f1' f2' f3' f4' hFd
 go_wp2_with fail
 refine (right_any _ f0 wf (fx_zero wf) ⟨by rw [show sz f0.N = 0 from sz_zero.2 rfl]; decide, ⟨by decide, fun x hx => by cases hx⟩, ⟨by decide, fun x hx => by cases hx⟩⟩ (by decide) (by decide)).mono ?_
 rintro e wg ⟨rfl, hb⟩
 rw [show rightB f0 = false from rightB_not (fun h => by have h1 : (1 : Int) ≤ 0 := h.front.1; omega)]
 replace HL := Lib.hid (Bl.up HL.out hb)
 go_wp2_with fail
 go_ret
 exact ⟨rfl, HL.out⟩
end Go.Proofs.YtblebpmlkpobnaaGreat
