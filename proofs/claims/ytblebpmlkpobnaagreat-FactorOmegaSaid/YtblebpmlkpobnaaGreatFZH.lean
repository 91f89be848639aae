/-
  algoristlaw05.FactorOmega: the walk.
-/
import Derived.Test.YtblebpmlkpobnaaGreatFW
import Derived.Test.YtblebpmlkpobnaaGreatFZC
import Derived.Test.YtblebpmlkpobnaaGreatFZF
import Derived.Test.YtblebpmlkpobnaaGreatFZG
import Derived.Test.YtblebpmlkpobnaaGreatFH1
set_option linter.unusedSimpArgs false
set_option linter.unusedVariables false
set_option maxHeartbeats 8000000
namespace Go.Proofs.YtblebpmlkpobnaaGreat
open Go.RowKit
attribute [local go_sem ↓] Go.wp_at_zero Go.wp_at_succ
theorem MadeTo.good {L : List Tri} {b : Nat} {f : Fn} (h : MadeTo (usedN L []) b f) : RightN f ∧ Md f.N ∧ ∀ p ∈ f.P, Pri p.1 :=
  ⟨(h.right (usedN_nd L)).1, made_md (usedN_len L) h, (h.right (usedN_nd L)).2⟩
theorem srt_some (l : List (Nat × Nat)) : ∃ m, Srt l m := by
  refine ⟨l.mergeSort (fun a b => decide (a.1 ≤ b.1)), List.mergeSort_perm _ _, ?_⟩
  have := List.pairwise_mergeSort (le := fun (a b : Nat × Nat) => decide (a.1 ≤ b.1)) (fun a b c h1 h2 => by simp at *; omega) (fun a b => by simp; omega) l
  exact this.imp (fun h => by simpa using h)
theorem made_some (u : List Tri) (b : Nat) : ∃ f, MadeTo u b f := by
  obtain ⟨P, hP⟩ := srt_some (kwnN u)
  obtain ⟨R, hR⟩ := srt_some (rstN u)
  exact ⟨⟨_, P, R, _⟩, rfl, hP, hR, rfl⟩
theorem MadeTo.nn {u : List Tri} {b : Nat} {f : Fn} (h : MadeTo u b f) : f.N = pk (kwnN u ++ rstN u) := h.1
def ktN (i0 : Nat) (V : List Tri) (c : Nat) : Kt where
  A := fun i v w => (i = i0 → ∃ f, Fx w v (zF f) ∧ MadeTo V c f) ∧ (i = i0 + 1 → It w v (pk (kwnN V ++ rstN V) : Nat))
  up := fun h hb => ⟨fun e => by obtain ⟨f, h1, h2⟩ := h.1 e; exact ⟨f, h1.up hb, h2⟩, fun e => (h.2 e).up hb⟩
  fr := fun h hb hB => ⟨fun e => by obtain ⟨f, h1, h2⟩ := h.1 e; exact ⟨f, h1.fr hb (fun g e => e ▸ hB.nw) hB (fun g e => e), h2⟩, fun e => (h.2 e).fr hb (fun g e => e ▸ hB.nw)⟩
theorem ktN.num {i0 : Nat} {V : List Tri} {c : Nat} {v : Value} {w : World} (h : (ktN i0 V c).A i0 v w) : ∃ y : FvT, v = .agg #[.bool y.s, .slice y.a y.n y.c, .slice y.a2 y.n2 y.c2, .slice y.a3 y.n3 y.c3, .int .i64 y.b] ∧ It w (.agg #[.bool y.s, .slice y.a y.n y.c]) (pk (kwnN V ++ rstN V) : Nat) := by
  obtain ⟨f, h1, h2⟩ := h.1 rfl
  obtain ⟨s, a, n, c, vP, vR, e, hN, hP, hR⟩ := h1
  obtain ⟨aP, cP, rfl, -⟩ := id hP
  obtain ⟨aR, cR, rfl, -⟩ := id hR
  refine ⟨⟨s, a, n, c, aP, (zF f).P.length, cP, aR, (zF f).R.length, cR, (zF f).B⟩, e, ?_⟩
  rw [← h2.1]
  exact hN
def SpT (f : Fn) (d : Nat) (g : Fz) (code : Int) : Prop := (∃ g' o, g = zF g' ∧ code = 0 ∧ CB (ks f.R ++ [d]) o ∧ fresh f o ∧ SplitTo f o g') ∨ (∃ o, g = f0 ∧ code = 6 ∧ CB (ks f.R ++ [d]) o ∧ ¬ fresh f o)
set_option maxRecDepth 100000 in
theorem fomega_any (va vb : Value) (L M : List Tri) (b c : Nat) (w : World) (h : Dx w va L b) (h' : Dx w vb M c) :
    Calls Tryz.prog 9 #[va, vb] w fun e w' => e = .returned (.bool true) ∧ Below w.heap.size w w' := by
  obtain ⟨W, a1, c1, rfl, hW, hbW, hsW, p0, p1, hX⟩ := boxD w h
  obtain ⟨W2, a2, c2, rfl, hW2, hbW2, hsW2, q0, q1, hY⟩ := boxD W (h'.up hbW)
  replace hX := hX.up hbW2
  replace p0 := keepc hbW2 p0
  replace p1 := keepc hbW2 p1
  rw [hsW] at q0 q1
  go_enter Tryz.func9, Tryz.ntmps9
  go_upto_region 1 with fail
  rw [← hW, ← hW2]
  have hbl := Bl.up hbW hbW2
  clear hW hW2 hbW hbW2 hsW hsW2 h h'
  go_wp2_with fail
  refine (examples_any W2).mono ?_
  rintro e w1 ⟨rfl, hb1⟩
  replace hbl := Bl.up hbl hb1
  replace p0 := keepc hb1 p0
  replace p1 := keepc hb1 p1
  replace q0 := keepc hb1 q0
  replace q1 := keepc hb1 q1
  replace hX := hX.up hb1
  replace hY := hY.up hb1
  have HX := Lib.hid hX
  have HY := Lib.hid hY
  have HL := Lib.hid hbl
  clear hb1 hX hY hbl
  go_wp2_with fail
  refine (rmade_any _ L b w1 HX.out).mono ?_
  rintro e w2 ⟨v, f, rfl, hF, hM, hb2⟩
  obtain ⟨y, rfl, hFy⟩ := hF.shape
  have hB := Bf.new hFy
  have hbn := below_new w2 (.cells #[.bool y.s, .slice y.a y.n y.c, .slice y.a2 y.n2 y.c2, .slice y.a3 y.n3 y.c3, .int .i64 y.b] 36)
  have hb3 := Bl.up hb2 hbn
  have HM := Lib.hid hM
  have HB := Lib.hid hB
  replace HL := Lib.hid (Bl.up HL.out hb3)
  replace HX := Lib.hid (HX.out.up hb3)
  replace HY := Lib.hid (HY.out.up hb3)
  replace p0 := keepc hb3 p0
  replace p1 := keepc hb3 p1
  replace q0 := keepc hb3 q0
  replace q1 := keepc hb3 q1
  clear hM hB hb2 hbn hb3 hF hFy
  go_upto_region 5 with fail
  generalize w2.alloc (.cells #[.bool y.s, .slice y.a y.n y.c, .slice y.a2 y.n2 y.c2, .slice y.a3 y.n3 y.c3, .int .i64 y.b] 36) = w3 at *
  generalize w2.heap.size = Bq at *
  obtain ⟨z, ⟨d0, d1, d2, d3, d4⟩, hfx, -⟩ := HB.out.cells
  have HG := Lib.hid HM.out.good
  go_wp2_with fail
  refine (omega_any _ f w3 hfx HG.out.1 HG.out.2.1).mono ?_
  rintro e w4 ⟨rfl, hb4⟩
  replace HL := Lib.hid (Bl.up HL.out hb4)
  replace HX := Lib.hid (HX.out.up hb4)
  replace HY := Lib.hid (HY.out.up hb4)
  replace HB := Lib.hid (HB.out.up hb4)
  replace p0 := keepc hb4 p0
  replace p1 := keepc hb4 p1
  replace q0 := keepc hb4 q0
  replace q1 := keepc hb4 q1
  clear hb4 hfx d0 d1 d2 d3 d4
  go_wp2_with fail
  refine (rprm_any _ L b w4 HX.out).mono ?_
  rintro e w5 ⟨v, rfl, hv, hb4⟩
  obtain ⟨aa, cc, rfl, -⟩ := hv.slice
  replace HL := Lib.hid (Bl.up HL.out hb4)
  replace HY := Lib.hid (HY.out.up hb4)
  replace HB := Lib.hid (HB.out.up hb4)
  replace q0 := keepc hb4 q0
  replace q1 := keepc hb4 q1
  clear hb4 hv p0 p1 HX
  have hbt := omega_between HG.out.1 HG.out.2.2 (prm_nodup (usedN_nd L)) (fun q => made_primes HM.out q)
  obtain ⟨n, hn⟩ : ∃ n, (prmN (usedN L [])).length = n := ⟨_, rfl⟩
  rw [hn] at hbt
  have hn' : (zI (prmN (usedN L []))).length = n := by rw [zI_len]; exact hn
  rw [hn']
  obtain ⟨lo, hlo⟩ : ∃ lo, lowN f = lo := ⟨_, rfl⟩
  obtain ⟨hi, hhi⟩ : ∃ hi, highN f = hi := ⟨_, rfl⟩
  rw [hlo, hhi] at hbt ⊢
  have HN := Lib.hid hn
  have HLO := Lib.hid hlo
  have HHI := Lib.hid hhi
  have k1 : ¬ (lo : Int) > (n : Int) := by omega
  have k2 : ¬ (hi : Int) < (n : Int) := by omega
  have k3 : ¬ n < lo := by omega
  have k4 : ¬ hi < n := by omega
  obtain ⟨z, ⟨d0, d1, d2, d3, d4⟩, hfx, -, -, -, -, e3, -⟩ := HB.out.cells
  have e3' : z.n3 = f.R.length := e3.trans (zP_len _)
  have hz : z.n3 = 0 → hi = lo := fun h0 => by
    have hR : f.R = [] := List.eq_nil_of_length_eq_zero (by rw [← e3']; exact h0)
    rw [← hhi, ← hlo]
    unfold highN lowN
    rw [hR]
    rfl
  have HFX := Lib.hid hfx
  have HBT := Lib.hid hbt
  clear hn hn' hlo hhi e3 e3' hfx hbt
  generalize z.n3 = nR at *
  have hmeet : ∃ t : Bool, ((nR : Int) == 0) = t ∧ (t = true → ((lo : Int) != (hi : Int)) = false) := by
    refine ⟨_, rfl, fun h => ?_⟩
    have h0 : nR = 0 := by have := beq_iff_eq.1 h; omega
    rw [hz h0]; simp
  clear hz
  obtain ⟨t, hz0, hz1⟩ := hmeet
  obtain ⟨V, hV⟩ : ∃ V, usedN M [] = V := ⟨_, rfl⟩
  have hGV : ∀ {f' : Fn}, MadeTo V c f' → RightN f' ∧ Md f'.N := fun hm => by rw [← hV] at hm; exact ⟨hm.good.1, hm.good.2.1⟩
  obtain ⟨dN, hdN⟩ : ∃ d, pk (kwnN V ++ rstN V) = d := ⟨_, rfl⟩
  have hd1 : 1 ≤ dN ∧ Md dN := by
    obtain ⟨f', hf'⟩ := made_some V c
    have := hGV hf'
    rw [← hdN, ← hf'.nn]
    exact ⟨this.1.n1, this.2⟩
  have HV := Lib.hid hV
  have HD := Lib.hid hdN
  have HD1 := Lib.hid hd1
  clear hV hGV hdN hd1
  cases t
  case' false => (clear hz1; go_upto_region 9 with fail)
  case' true => (have hz2 := hz1 rfl; clear hz1; go_upto_region 9 with fail; clear hz2)
  all_goals
    clear hz0 k1 k2 k3 k4
    refine wp_region_T (by kernel_rfl) [9] (S := fun w' => w'.cell? ⟨Bq, 0, none⟩ = some (.bool z.s) ∧ w'.cell? ⟨Bq, 1, none⟩ = some (.slice z.a z.n z.c) ∧ w'.cell? ⟨Bq, 2, none⟩ = some (.slice z.a2 z.n2 z.c2) ∧ w'.cell? ⟨Bq, 3, none⟩ = some (.slice z.a3 nR z.c3) ∧ w'.cell? ⟨Bq, 4, none⟩ = some (.int .i64 z.b) ∧ w'.cell? ⟨w.heap.size + 1, 0, none⟩ = some (.slice a2 M.length c2) ∧ w'.cell? ⟨w.heap.size + 1, 1, none⟩ = some (.int .u16 (c : Int))) ⟨d0, d1, d2, d3, d4, q0, q1⟩ (fun hHeld => ?_)
    (refine kL 0 rfl ?_; refine kL 1 rfl ?_)
    clear hHeld
    refine wpAnyT_all [(2, some 49), (3, some 50), (4, some 51), (5, some 46), (6, some 52), (7, some 53), (8, some 10), (9, none)] 1 (FlT (ktN 2 V c) (SpT f dN) 4 w5) rfl (by kernel_rfl) (by decide) (by kernel_rfl) (by kernel_rfl) (by kernel_rfl) (fun bb xx wz h => (fun hb' => ⟨keepc hb' d0, keepc hb' d1, keepc hb' d2, keepc hb' d3, keepc hb' d4, keepc hb' q0, keepc hb' q1⟩) h.bl) (fun xx => FlT.start _ _ _ _ _) ?_ ?_
    · intro i hi
      have hi' : i = 2 ∨ i = 3 ∨ i = 4 ∨ i = 5 ∨ i = 6 ∨ i = 7 ∨ i = 8 ∨ i = 9 := by simpa using hi
      clear hi
      rcases hi' with rfl | rfl | rfl | rfl | rfl | rfl | rfl | rfl
      · refine ⟨_, rfl, fun bb xx wz hJ hbf hw K hK => ?_⟩
        clear hbf hw
        simp only [actsD, List.foldl_cons, List.foldl_nil, Act.put, List.setIfInBounds_toArray, List.set_cons_zero, List.set_cons_succ] at hK ⊢
        go_simp
        refine (rmade_any _ M c wz (HY.out.up hJ.bl)).mono ?_
        rintro e w8 ⟨v, f', rfl, hv, hm, hb⟩
        exact hK.out _ _ (hJ.pre (i := 2) (by decide) ⟨fun _ => ⟨f', hv, by rw [← HV.out]; exact hm⟩, fun e => absurd e (by decide)⟩ hb)
      · refine ⟨_, rfl, fun bb xx wz hJ hbf hw K hK => ?_⟩
        have hp := ktN.num (i0 := 2) (V := V) (c := c) (hJ.pr 2 (by decide) (hw 2 (by kernel_rfl)))
        have hh := Classical.choose_spec hp
        generalize Classical.choose hp = zz at hh
        have hxu := hh.1
        have hit := hh.2
        clear hbf hw hp hh
        simp only [actsD, List.foldl_cons, List.foldl_nil, Act.put, List.setIfInBounds_toArray, List.set_cons_zero, List.set_cons_succ, hxu] at hK ⊢
        go_simp
        exact hK.out _ _ (hJ.pre (i := 3) (by decide) ⟨(fun e => absurd e (by decide)), fun _ => hit⟩ (Below.refl _ _))
      · refine ⟨_, rfl, fun bb xx wz hJ hbf hw K hK => ?_⟩
        have h3 := (hJ.pr 3 (by decide) (hw 3 (by kernel_rfl))).2 rfl
        clear hw
        simp only [actsD, List.foldl_cons, List.foldl_nil, Act.put, List.setIfInBounds_toArray, List.set_cons_zero, List.set_cons_succ] at hK ⊢
        go_simp
        rw [HD.out] at h3
        refine (split_ok _ _ f dN wz (HFX.out.up hJ.bl) h3 HG.out.1 HG.out.2.1 HD1.out.1 HD1.out.2).mono ?_
        rintro e w8 ⟨o, hcb, hb, ⟨hfr, v, g, rfl, hv, hsp⟩ | ⟨hfr, v, rfl, hv⟩⟩
        · exact hK.out _ _ (hJ.call hbf hv (.inl ⟨g, o, rfl, rfl, hcb, hfr, hsp⟩) hb)
        · exact hK.out _ _ (hJ.call hbf hv (.inr ⟨o, rfl, rfl, hcb, hfr⟩) hb)
      · refine ⟨_, rfl, fun bb xx wz hJ hbf hw K hK => ?_⟩
        have hq := hw 4 (by kernel_rfl)
        clear hw
        simp only [actsD, List.foldl_cons, List.foldl_nil, Act.put, List.setIfInBounds_toArray, List.set_cons_zero, List.set_cons_succ] at hK ⊢
        go_simp
        exact hK.out _ _ (hJ.mv1 hq)
      · refine ⟨_, rfl, fun bb xx wz hJ hbf hw K hK => ?_⟩
        have h1 := hw 5 (by kernel_rfl)
        have hh := Classical.choose_spec (hJ.tup h1)
        generalize Classical.choose (hJ.tup h1) = p at hh
        have hxu : xx 5 = .tuple #[p.1, .int .i64 p.2] := hh.1
        have HXQ := Lib.hid hh.2
        clear hw hh
        simp only [actsD, List.foldl_cons, List.foldl_nil, Act.put, List.setIfInBounds_toArray, List.set_cons_zero, List.set_cons_succ, hxu] at hK ⊢
        go_simp
        exact hK.out _ _ (hJ.ex0 h1 HXQ.out)
      · refine ⟨_, rfl, fun bb xx wz hJ hbf hw K hK => ?_⟩
        have h1 := hw 5 (by kernel_rfl)
        have hh := Classical.choose_spec (hJ.tup h1)
        generalize Classical.choose (hJ.tup h1) = p at hh
        have hxu : xx 5 = .tuple #[p.1, .int .i64 p.2] := hh.1
        have HXQ := Lib.hid hh.2
        clear hw hh
        simp only [actsD, List.foldl_cons, List.foldl_nil, Act.put, List.setIfInBounds_toArray, List.set_cons_zero, List.set_cons_succ, hxu] at hK ⊢
        go_simp
        exact hK.out _ _ (hJ.ex1 h1 HXQ.out)
      · refine ⟨_, rfl, fun bb xx wz hJ hbf hw K hK => ?_⟩
        clear hw
        simp only [actsD, List.foldl_cons, List.foldl_nil, Act.put, List.setIfInBounds_toArray, List.set_cons_zero, List.set_cons_succ] at hK ⊢
        go_simp
        exact hK.out _ _ (hJ.var (W' := wz.alloc (.cells #[.bool false, .slice none 0 0, .slice none 0 0, .slice none 0 0, .int .i64 0] 36)) hbf (Fv.new wz) (below_new _ _))
      · refine ⟨_, rfl, fun bb xx wz hJ hbf hw K hK => ?_⟩
        have h2 := hw 6 (by kernel_rfl)
        have h4 := hw 8 (by kernel_rfl)
        have hh := Classical.choose_spec (hJ.sto h2 h4)
        generalize Classical.choose (hJ.sto h2 h4) = p at hh
        have hxu : xx 6 = _ := hh.v
        have hxv : xx 8 = _ := hh.b
        have d0 := hh.d0
        have d1 := hh.d1
        have d2 := hh.d2
        have d3 := hh.d3
        have d4 := hh.d4
        have f0 := hh.f0
        have f1 := hh.f1
        have f2 := hh.f2
        have f3 := hh.f3
        have f4 := hh.f4
        have HJ := Lib.hid hJ
        have HH := Lib.hid hh
        clear hw hh hJ
        simp only [actsD, List.foldl_cons, List.foldl_nil, Act.put, List.setIfInBounds_toArray, List.set_cons_zero, List.set_cons_succ, hxu, hxv] at hK ⊢
        clear hxu hxv
        go_simp
        go_wp2_with fail
        exact hK.out _ _ (HJ.out.st' h2 h4 HH.out (v := undef))
    intro bb xx wz hbb hJ
    have hpre : ∀ i, i < 4 → bb i = true → _ := hJ.pr
    obtain ⟨uu, fz, code, BB, e0, e1, e2, e3, e4, hT, hBf, hBs, hbz⟩ := hJ.out (fun i h1 h2 => hbb i (by simp; omega))
    have hA2 := hpre 2 (by decide) (hbb 2 (by decide))
    have hA3 := hpre 3 (by decide) (hbb 3 (by decide))
    clear hbb hJ hpre
    obtain ⟨u2, hu2⟩ : ∃ u2, u2 = xx 2 := ⟨_, rfl⟩
    rw [← hu2] at hA2
    obtain ⟨u3, hu3⟩ : ∃ u3, u3 = xx 3 := ⟨_, rfl⟩
    rw [← hu3] at hA3
    simp only [actsD, markOf, List.map_cons, List.map_nil, List.foldl_cons, List.foldl_nil, Act.put, List.setIfInBounds_toArray, List.set_cons_zero, List.set_cons_succ, show xx 4 = _ from e0, show xx 5 = _ from e1, show xx 6 = _ from e2, show xx 7 = _ from e3, show xx 8 = _ from e4, ← hu2, ← hu3]
    clear e0 e1 e2 e3 e4 hu2 hu3
    (refine oL 10 rfl fun K hK => tL ?_; go_simp)
    (go_wp2_with fail; refine hK.out _ _ (fun h => absurd h (by decide)) ?_; clear hK; refine tL ?_)
    refine wpAnyT_done (by kernel_rfl) ?_ _
    have HL6 := Lib.hid (Bl.up HL.out hbz)
    have HBG := Lib.hid hBf
    clear hA2 hA3 hBs hbz d0 d1 d2 d3 d4 q0 q1 hBf
    rcases hT with ⟨g, o, rfl, rfl, hcb, hfr, hsp⟩ | ⟨o, rfl, rfl, hcb, hfr⟩
    case' inr =>
      go_wp2_with fail
      go_ret
      exact ⟨rfl, HL6.out⟩
    case' inl =>
      have hGR := hsp.right HG.out.1 hcb
      have hGN := hsp.1
      have hGP := hsp.primes HG.out.1 hcb HG.out.2.2
      have hos := omega_split HG.out.1 hcb hsp
      have hob := omega_between hGR hGP (prm_nodup (usedN_nd L)) (fun q => by rw [hGN]; exact made_primes HM.out q)
      rw [HN.out] at hob
      rw [HLO.out, HHI.out] at hos
      obtain ⟨z', ⟨g0, g1, g2, g3, g4⟩, hgx, -⟩ := HBG.out.cells
      have HGX := Lib.hid hgx
      have HGR := Lib.hid hGR
      have HGM := Lib.hid (show Md g.N by rw [hGN]; exact HG.out.2.1)
      obtain ⟨lo2, hlo2⟩ : ∃ n, lowN g = n := ⟨_, rfl⟩
      obtain ⟨hi2, hhi2⟩ : ∃ n, highN g = n := ⟨_, rfl⟩
      rw [hlo2, hhi2] at hob hos
      have HLO2 := Lib.hid hlo2
      have HHI2 := Lib.hid hhi2
      have k1 : (lo2 : Int) ≥ (lo : Int) := by omega
      have k2 : (hi2 : Int) ≤ (hi : Int) := by omega
      have k3 : (lo2 : Int) ≤ (n : Int) := by omega
      have k4 : (n : Int) ≤ (hi2 : Int) := by omega
      have k5 : lo ≤ lo2 := by omega
      have k6 : hi2 ≤ hi := by omega
      have k7 : lo2 ≤ n := by omega
      have k8 : n ≤ hi2 := by omega
      clear hgx hGR hGN hGP hos hob hlo2 hhi2 hsp hfr hcb
      go_wp2_with fail
      refine (omega_any _ g _ HGX.out HGR.out HGM.out).mono ?_
      rintro e w7 ⟨rfl, hb7⟩
      rw [HLO2.out, HHI2.out]
      have HL7 := Lib.hid (Bl.up HL6.out hb7)
      clear hb7 g0 g1 g2 g3 g4
      go_wp2_with fail
      go_ret
      exact ⟨rfl, HL7.out⟩
end Go.Proofs.YtblebpmlkpobnaaGreat
