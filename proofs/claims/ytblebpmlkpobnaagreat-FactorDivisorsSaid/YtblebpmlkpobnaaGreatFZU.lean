/-
  algoristlaw05.FactorDivisors: the walk.
-/
import Derived.Test.YtblebpmlkpobnaaGreatFZI
import Derived.Test.YtblebpmlkpobnaaGreatFZT
import Derived.Test.YtblebpmlkpobnaaGreatFZR
set_option linter.unusedSimpArgs false
set_option linter.unusedVariables false
set_option maxHeartbeats 8000000
namespace Go.Proofs.YtblebpmlkpobnaaGreat
open Go.RowKit
attribute [local go_sem ↓] Go.wp_at_zero Go.wp_at_succ
theorem used_mem : ∀ (l out : List Tri) (y : Tri), y ∈ usedN l out → y ∈ l ∨ y ∈ out := by
  intro l
  induction l with
  | nil => intro out y h; exact .inr h
  | cons z l ih =>
    intro out y h
    unfold usedN at h
    split at h
    · rcases ih _ _ h with h | h
      · exact .inl (List.mem_cons_of_mem _ h)
      · split at h
        · rcases List.mem_append.1 h with h | h
          · exact .inr h
          · exact .inl (by rw [List.mem_singleton.1 h]; exact List.mem_cons_self ..)
        · exact .inr h
    · exact .inr h
theorem mv255 : ∀ k : Fin 8, 255 / 2 ^ k.1 % 2 = 1 := by decide
theorem mvN_zero (L : List Tri) : ∀ y ∈ mvN 255 L, y.2.2 = 0 := by
  intro y hy
  unfold mvN at hy
  obtain ⟨i, hi, e⟩ := List.mem_iff_getElem.1 hy
  rw [List.getElem_mapIdx] at e
  have hb : mvB 255 i = true := by
    unfold mvB
    exact decide_eq_true (mv255 ⟨i % 8, Nat.mod_lt _ (by decide)⟩)
  unfold mvT at e
  rw [if_pos hb] at e
  rw [← e]
theorem made_known {L : List Tri} {b : Nat} {f : Fn} (h : MadeTo (usedN (mvN 255 L) []) b f) : f.R = [] ∧ f.P.length ≤ 7 ∧ ∀ p ∈ f.P, p.2 ≤ 3 := by
  obtain ⟨-, hP, hR, -⟩ := h
  have hz : ∀ y ∈ usedN (mvN 255 L) [], aN y = 0 := fun y hy => by
    rcases used_mem _ _ _ hy with h | h
    · unfold aN; rw [mvN_zero L y h]
    · simp at h
  have hg : ∀ a, 1 ≤ a → grpN (usedN (mvN 255 L) []) a = 1 := fun a ha => by
    unfold grpN
    have : (usedN (mvN 255 L) []).filter (fun y => decide (aN y = a)) = [] := List.filter_eq_nil_iff.2 fun y hy => by
      have := hz y hy
      simp; omega
    rw [this]; rfl
  have hr : rstN (usedN (mvN 255 L) []) = [] := by
    unfold rstN
    have : ([1, 2, 3] : List Nat).filter (fun a => decide (1 < grpN (usedN (mvN 255 L) []) a)) = [] := List.filter_eq_nil_iff.2 fun a ha => by
      have : 1 ≤ a := by simp at ha; omega
      rw [hg a this]; decide
    rw [this]; rfl
  refine ⟨?_, ?_, fun p hp => ?_⟩
  · have := hR.1
    rw [hr] at this
    exact List.Perm.eq_nil this
  · rw [hP.1.length_eq]
    unfold kwnN
    rw [List.length_map]
    exact Nat.le_trans (List.length_filter_le _ _) (usedN_len _)
  · have := hP.1.mem_iff.1 hp
    unfold kwnN at this
    obtain ⟨y, -, e⟩ := List.mem_map.1 this
    rw [← e]
    show kN y ≤ 3
    unfold kN
    omega
theorem cnt_le {l : List (Nat × Nat)} (h : ∀ p ∈ l, p.2 ≤ 3) : cntN l ≤ 4 ^ l.length := by
  induction l with
  | nil => exact Nat.le_refl _
  | cons p l ih =>
    have h1 := ih (fun q hq => h q (List.mem_cons_of_mem _ hq))
    have h2 := h p (List.mem_cons_self ..)
    unfold cntN at h1 ⊢
    rw [List.map_cons, List.prod_cons, List.length_cons, Nat.pow_succ, Nat.mul_comm (4 ^ _)]
    exact Nat.mul_le_mul (by omega) h1
theorem moved_all (va : Value) (L : List Tri) (b : Nat) (w : World) (h : Dx w va L b) (hL : L.length * 3 ≤ 140737488351232) :
    Calls Tryz.prog 26 #[va, .agg #[.int .u8 255, .int .u8 0]] w fun e w' => ∃ v, e = .returned v ∧ Dx w' v (mvN 255 L) 0 ∧ Below w.heap.size w w' := moved_any va L b 255 0 w h (by decide) (by decide) hL
set_option maxRecDepth 100000 in
theorem fdivisors_any (va : Value) (L : List Tri) (b : Nat) (w : World) (h : Dx w va L b) (hL : L.length * 3 ≤ 140737488351232) :
    Calls Tryz.prog 7 #[va] w fun e w' => e = .returned (.bool true) ∧ Below w.heap.size w w' := by
  obtain ⟨a, c, rfl, hb16, ha, hLm⟩ := h
  go_enter Tryz.func7, Tryz.ntmps7
  go_upto_region 1 with fail
  have hbl := below_new w (.cells #[.slice a L.length c, .int .u16 (b : Int)] 25)
  have hD := heap_alloc_new w (.cells #[.slice a L.length c, .int .u16 (b : Int)] 25)
  have hA := ha.alloc (.cells #[.slice a L.length c, .int .u16 (b : Int)] 25)
  clear ha
  generalize w.alloc (.cells #[.slice a L.length c, .int .u16 (b : Int)] 25) = W at *
  go_wp2_with fail
  refine (examples_any W).mono ?_
  rintro e w1 ⟨rfl, hb1⟩
  replace hbl := Bl.up hbl hb1
  have hD1 := (hb1.block _ (Array.getElem?_eq_some_iff.1 hD).1).trans hD
  have c0 : w1.cell? ⟨w.heap.size, 0, none⟩ = some (.slice a L.length c) := by simp [World.cell?, hD1]
  have c1 : w1.cell? ⟨w.heap.size, 1, none⟩ = some (.int .u16 (b : Int)) := by simp [World.cell?, hD1]
  replace hA := hA.up hb1
  clear hD hD1 hb1
  go_wp2_with fail
  refine (moved_all _ L b w1 ⟨a, c, rfl, hb16, hA, hLm⟩ hL).mono ?_
  rintro e w2 ⟨v, rfl, hDx, hb2⟩
  replace hbl := Bl.up hbl hb2
  clear c0 c1 hA hb2
  go_wp2_with fail
  refine (rmade_any _ (mvN 255 L) 0 w2 hDx).mono ?_
  rintro e w3 ⟨v', f, rfl, hF, hM, hb3⟩
  obtain ⟨hR, hMd, -⟩ := hM.good
  obtain ⟨hRe, hl7, hk3⟩ := made_known hM
  replace hbl := Bl.up hbl hb3
  obtain ⟨y, rfl, hFy⟩ := hF.shape
  have hB := Bf.new hFy
  have hbn := below_new w3 (.cells #[.bool y.s, .slice y.a y.n y.c, .slice y.a2 y.n2 y.c2, .slice y.a3 y.n3 y.c3, .int .i64 y.b] 36)
  have HB := Lib.hid hB
  have HL := Lib.hid (Bl.up hbl hbn)
  have HR := Lib.hid hR
  have HMD := Lib.hid hMd
  have HRE := Lib.hid hRe
  have HL7 := Lib.hid hl7
  have HK3 := Lib.hid hk3
  clear hF hFy hB hbn hbl hM hR hMd hRe hl7 hk3 hDx hb3
  go_upto_region 5 with fail
  generalize w3.alloc (.cells #[.bool y.s, .slice y.a y.n y.c, .slice y.a2 y.n2 y.c2, .slice y.a3 y.n3 y.c3, .int .i64 y.b] 36) = w4 at *
  generalize w3.heap.size = Bq at *
  have hB := HB.out
  obtain ⟨⟨s1, a1, n1, k1, aP, nP, cP, aR, nR, cR, bb⟩, ⟨p0, p1, p2, p3, p4⟩, hfx, -, -, -, -, -, -⟩ := hB.cells
  dsimp only at p0 p1 p2 p3 p4 hfx
  have HFX := Lib.hid hfx
  clear hB hfx
  go_wp2_with fail
  refine (divisors_any _ f w4 HFX.out HR.out HMD.out HRE.out).mono ?_
  rintro e w5 ⟨hb5, hQ0⟩
  have hQ : ∃ (v5 : Value) (e6 : Int), e = .returned (.tuple #[v5, .int .i64 e6]) ∧ ((4000 < cntN f.P ∧ v5 = .slice none 0 0 ∧ e6 = 2) ∨ (cntN f.P ≤ 4000 ∧ e6 = 0 ∧ ∃ m, Sr eI w5 v5 (zI m) ∧ m.Perm (dvL f.P [1]) ∧ m.Pairwise (· ≤ ·))) := by
    rcases hQ0 with ⟨h1, h2⟩ | ⟨h1, v, m, h2, h3⟩
    · exact ⟨_, _, h2, .inl ⟨h1, rfl, rfl⟩⟩
    · exact ⟨v, 0, h2, .inr ⟨h1, rfl, m, h3⟩⟩
  clear hQ0 p0 p1 p2 p3 p4 HFX
  obtain ⟨v5, e6, rfl, hQ⟩ := hQ
  have HQ := Lib.hid hQ
  replace HB := Lib.hid (HB.out.up hb5)
  replace HL := Lib.hid (Bl.up HL.out hb5)
  clear hQ hb5
  have hB := HB.out
  obtain ⟨⟨s1, a1, n1, k1', aP, nP, cP, aR, nR, cR, bb⟩, ⟨p0, p1, p2, p3, p4⟩, -, hN, hP, -, e2, -, -⟩ := hB.cells
  dsimp only at p0 p1 p2 p3 p4 hN hP e2
  have hN : It w5 (.agg #[.bool s1, .slice a1 n1 k1']) (f.N : Int) := hN
  have hP : Sr eP w5 (.slice aP nP cP) (zP f.P) := hP
  obtain ⟨l, hl⟩ : ∃ l, f.P = l := ⟨_, rfl⟩
  obtain ⟨N, hNe⟩ : ∃ N, f.N = N := ⟨_, rfl⟩
  have hDV := DvI.of HR.out HMD.out HRE.out
  rw [hl] at hP hDV HQ HL7 HK3
  rw [hNe] at hN hDV
  obtain rfl : nP = l.length := by rw [e2]; show (zP f.P).length = _; rw [zP_len, hl]
  have hcnt : ∀ i, cntN (l.take i) ≤ 16384 := fun i => by
    have h1 := Nat.le_trans (cnt_take l i) (cnt_le HK3.out)
    have h2 : 4 ^ l.length ≤ 4 ^ 7 := Nat.pow_le_pow_right (by decide) HL7.out
    have h3 : (4 : Nat) ^ 7 = 16384 := by decide
    omega
  have HN := Lib.hid hN
  have HP := Lib.hid hP
  have HDV := Lib.hid hDV
  have HCN := Lib.hid hcnt
  have hl7 := HL7.out
  clear hB hN hP hl hNe e2 hDV hcnt HR HMD HRE HB
  go_upto_region 7 with fail
  go_wp2_with fail
  go_loopw [7, 8] (fun s7 s8 wr => ∃ i : Nat, s8 = .int .i64 (i : Int) ∧ i ≤ l.length ∧ s7 = .int .i64 ((cntN (l.take i) : Nat) : Int) ∧ Below w5.heap.size w5 wr)
    (fun _ s8 _ => l.length - (intOf s8).toNat)
  case atStart => exact ⟨0, rfl, Nat.zero_le _, rfl, Below.refl _ _⟩
  case round =>
    obtain ⟨i, rfl, hi, rfl, hbr⟩ := hrel
    have p2' := keepc hbr p2
    by_cases hlt : i < l.length
    · have hltz : i < (zP l).length := by rw [zP_len]; exact hlt
      obtain ⟨ba, offa, rfl, hba, hla⟩ := (HP.out.up hbr).at hltz
      obtain ⟨sp, ap, np, kp, x0, x1, x2, -⟩ := hla.pow hltz
      rw [zP_getD] at x2
      have hcs := cnt_snoc hlt
      have hex := HK3.out (l.getD i (0, 0)) (by rw [List.getD_eq_getElem?_getD, List.getElem?_eq_getElem hlt]; exact List.getElem_mem _)
      have hcn1 := HCN.out i
      have hcn2 := HCN.out (i + 1)
      obtain ⟨k, hk⟩ : ∃ k, (l.getD i (0, 0)).2 = k := ⟨_, rfl⟩
      dsimp only at x2
      rw [hk] at x2 hcs hex
      obtain ⟨cn, hcn⟩ : ∃ cn, cntN (l.take i) = cn := ⟨_, rfl⟩
      obtain ⟨cm, hcm⟩ : ∃ cm, cntN (l.take (i + 1)) = cm := ⟨_, rfl⟩
      rw [hcn] at hcs hcn1 ⊢
      rw [hcm] at hcs hcn2
      have hmul : (cn : Int) * ((k : Int) + 1) = (cm : Int) := by rw [hcs, Int.natCast_mul]; rfl
      have hw1 : IntKind.i64.wrap ((k : Int) + 1) = (k : Int) + 1 := by rw [IntKind.wrap_i64]; omega
      have hw2 : IntKind.i64.wrap (cm : Int) = (cm : Int) := by rw [IntKind.wrap_i64]; omega
      have i0 : (0 : Int) ≤ (i : Int) := by omega
      have i1 : (i : Int) < (l.length : Int) := by omega
      have HCM := Lib.hid hcm
      have HBR := Lib.hid hbr
      clear hla hcs hk hcn hcm hbr hltz hba x0 x1
      go_wp2_with fail
      refine ⟨⟨i + 1, by go_num, by omega, by rw [HCM.out], HBR.out⟩, by simp [intOf]; omega⟩
    · have hil : i = l.length := by omega
      subst hil
      have i1 : ¬ (l.length : Int) < (l.length : Int) := by omega
      rw [List.take_length]
      have hcn1 := HCN.out l.length
      rw [List.take_length] at hcn1
      replace HL := Lib.hid (Bl.up HL.out hbr)
      replace HN := Lib.hid (HN.out.up hbr)
      have hq2 : ((4000 < cntN l ∧ v5 = .slice none 0 0 ∧ e6 = 2) ∨ (cntN l ≤ 4000 ∧ e6 = 0 ∧ ∃ m, Sr eI wr v5 (zI m) ∧ m.Perm (dvL l [1]) ∧ m.Pairwise (· ≤ ·))) := HQ.out.imp_right fun ⟨h1, h2, m, h3, h4⟩ => ⟨h1, h2, m, h3.up hbr, h4⟩
      have HQ2 := Lib.hid hq2
      clear hq2
      have q0 := keepc hbr p0
      have q1 := keepc hbr p1
      obtain ⟨cn, hcn⟩ : ∃ cn, cntN l = cn := ⟨_, rfl⟩
      rw [hcn] at hcn1 HQ2 ⊢
      have HCE := Lib.hid hcn
      clear hbr p0 p1 p2 p3 p4 HP HQ hcn hlt hi
      by_cases hbig : 4000 < cn
      · have j1 : (cn : Int) > 4000 := by omega
        rcases HQ2.out with ⟨-, rfl, rfl⟩ | ⟨h1, -⟩
        · go_wp2_with fail
          go_ret
          exact ⟨rfl, HL.out⟩
        · omega
      · have j1 : ¬ (cn : Int) > 4000 := by omega
        rcases HQ2.out with ⟨h1, -⟩ | ⟨-, rfl, m, hS, hm, hms⟩
        · omega
        · obtain ⟨k1, k2, k3, k4, k5⟩ := divisors_law HDV.out.co hm hms
          obtain ⟨a5, c5, rfl, hc5⟩ := id hS
          rw [zI_len] at hS hc5 ⊢
          rw [k1, HCE.out] at hS hc5 k3 ⊢
          have hpos : 0 < cn := by
            rcases Nat.eq_zero_or_pos cn with h | h
            · have := cnt_pos l; rw [HCE.out, h] at this; omega
            · exact h
          have hlm : m.length = cn := by rw [k1, HCE.out]
          have hlz : (zI m).length = cn := by rw [zI_len, hlm]
          obtain ⟨bo, offo, rfl, hbo, hlo⟩ := hS.at (i := 0) (by rw [hlz]; exact hpos)
          obtain ⟨t1, b1, n2, g1, e0, e1, hx0⟩ := hlo.int (i := 0) (by rw [hlz]; exact hpos)
          obtain ⟨t2, b2, n3, g2, e2, e3, hx1⟩ := hlo.int (i := cn - 1) (by rw [hlz]; omega)
          rw [zI_getD, k2] at hx0
          rw [zI_getD, k3, HDV.out.pk] at hx1
          rw [show offo + 0 * 2 = offo by omega] at e0 e1
          have hszm : ∀ y ∈ m, sz (y : Int) ≤ 4096 ∧ 1 ≤ y ∧ y ∣ N := fun y hy => by
            obtain ⟨h1, h2⟩ := k4 y hy
            rw [HDV.out.pk] at h2
            exact ⟨HDV.out.md.sz (Nat.le_of_dvd HDV.out.n1 h2), h1, h2⟩
          have hszN : sz (N : Int) ≤ 4096 := HDV.out.md.sz (Nat.le_refl _)
          have HSZ := Lib.hid hszm
          have HSN := Lib.hid hszN
          have HX0 := Lib.hid hx0
          have HX1 := Lib.hid hx1
          have HS := Lib.hid hS
          have HK5 := Lib.hid k5
          have HLM := Lib.hid hlm
          have HLZ := Lib.hid hlz
          have j2 : (cn : Int) - 1 = ((cn - 1 : Nat) : Int) := by omega
          have j3 : IntKind.i64.wrap ((cn - 1 : Nat) : Int) = ((cn - 1 : Nat) : Int) := by rw [IntKind.wrap_i64]; omega
          have j4 : (0 : Int) ≤ ((cn - 1 : Nat) : Int) := by omega
          have j5 : ((cn - 1 : Nat) : Int) < (cn : Int) := by omega
          have j6 : (0 : Int) < (cn : Int) := by omega
          clear k1 k2 k3 k4 k5 hm hms hS hlo hx0 hx1 hszm hszN hlm hlz hbo hbig HQ2
          go_upto_region 13 with fail
          refine wp_region_T (by kernel_rfl) [] (S := fun w' => w'.cell? ⟨Bq, 0, none⟩ = some (.bool s1) ∧ w'.cell? ⟨Bq, 1, none⟩ = some (.slice a1 n1 k1') ∧ w'.cell? ⟨bo, offo, none⟩ = some (.bool t1) ∧ w'.cell? ⟨bo, offo + 1, none⟩ = some (.slice b1 n2 g1) ∧ w'.cell? ⟨bo, offo + (cn - 1) * 2, none⟩ = some (.bool t2) ∧ w'.cell? ⟨bo, offo + (cn - 1) * 2 + 1, none⟩ = some (.slice b2 n3 g2)) ⟨q0, q1, e0, e1, e2, e3⟩ (fun hHeld => ?_)
          (refine pL 0 rfl ?_; refine pL 1 rfl ?_; refine pL 2 rfl ?_; refine pL 3 rfl ?_; refine pL 4 rfl ?_; refine pL 5 rfl ?_; refine pL 6 rfl ?_; refine pL 7 rfl ?_; refine pL 8 rfl ?_; refine pL 9 rfl ?_; refine pL 10 rfl ?_)
          refine kL 11 rfl ?_
          (refine oL 12 rfl fun K hK => tL ?_; go_simp)
          refine (rof_any 1 _ (by decide) (by decide)).mono ?_
          rintro e w6 ⟨v6, rfl, hv6, hb6⟩
          replace q0 := keepc hb6 (cellD q0)
          replace q1 := keepc hb6 (cellD q1)
          replace e0 := keepc hb6 (cellD e0)
          replace e1 := keepc hb6 (cellD e1)
          replace e2 := keepc hb6 (cellD e2)
          replace e3 := keepc hb6 (cellD e3)
          replace HX0 := Lib.hid (HX0.out.drew.up hb6)
          replace HX1 := Lib.hid (HX1.out.drew.up hb6)
          replace HN := Lib.hid (HN.out.drew.up hb6)
          replace HS := Lib.hid (HS.out.drew.up hb6)
          replace HL := Lib.hid (Bl.up (Bl.drew HL.out) hb6)
          have HV6 := Lib.hid hv6
          clear hb6 hv6
          (go_wp2_with fail; clear hHeld; have hHeld : (fun w' : World => w'.cell? ⟨Bq, 0, none⟩ = some (.bool s1) ∧ w'.cell? ⟨Bq, 1, none⟩ = some (.slice a1 n1 k1') ∧ w'.cell? ⟨bo, offo, none⟩ = some (.bool t1) ∧ w'.cell? ⟨bo, offo + 1, none⟩ = some (.slice b1 n2 g1) ∧ w'.cell? ⟨bo, offo + (cn - 1) * 2, none⟩ = some (.bool t2) ∧ w'.cell? ⟨bo, offo + (cn - 1) * 2 + 1, none⟩ = some (.slice b2 n3 g2)) (w6) := ⟨q0, q1, e0, e1, e2, e3⟩; refine hK.out _ _ (fun _ => hHeld) ?_; clear hK; refine tL ?_)
          (refine oL 13 rfl fun K hK => tL ?_; go_simp)
          refine (rsame_any _ _ ((1 : Nat) : Int) 1 _ HX0.out HV6.out (by decide) (by decide)).mono ?_
          rintro e w7 ⟨rfl, hb6⟩
          rw [show sameB ((1 : Nat) : Int) 1 = true from sameB_iff.2 rfl]
          replace q0 := keepc hb6 q0
          replace q1 := keepc hb6 q1
          replace e0 := keepc hb6 e0
          replace e1 := keepc hb6 e1
          replace e2 := keepc hb6 e2
          replace e3 := keepc hb6 e3
          replace HX1 := Lib.hid (HX1.out.up hb6)
          replace HN := Lib.hid (HN.out.up hb6)
          replace HS := Lib.hid (HS.out.up hb6)
          replace HL := Lib.hid (Bl.up HL.out hb6)
          clear hb6 HX0 HV6
          (go_wp2_with fail; clear hHeld; have hHeld : (fun w' : World => w'.cell? ⟨Bq, 0, none⟩ = some (.bool s1) ∧ w'.cell? ⟨Bq, 1, none⟩ = some (.slice a1 n1 k1') ∧ w'.cell? ⟨bo, offo, none⟩ = some (.bool t1) ∧ w'.cell? ⟨bo, offo + 1, none⟩ = some (.slice b1 n2 g1) ∧ w'.cell? ⟨bo, offo + (cn - 1) * 2, none⟩ = some (.bool t2) ∧ w'.cell? ⟨bo, offo + (cn - 1) * 2 + 1, none⟩ = some (.slice b2 n3 g2)) (w7) := ⟨q0, q1, e0, e1, e2, e3⟩; refine hK.out _ _ (fun _ => hHeld) ?_; clear hK; refine tL ?_)
          (refine pL 14 rfl ?_; refine pL 15 rfl ?_; refine pL 16 rfl ?_; refine pL 17 rfl ?_; refine pL 18 rfl ?_; refine pL 19 rfl ?_; refine pL 20 rfl ?_)
          refine kL 21 rfl ?_
          refine pL 22 rfl ?_
          refine kL 23 rfl ?_
          (refine oL 24 rfl fun K hK => tL ?_; go_simp)
          refine (rsame_any _ _ (N : Int) (N : Int) _ HX1.out HN.out (Nat.le_trans HSN.out (by decide)) (Nat.le_trans HSN.out (by decide))).mono ?_
          rintro e w8 ⟨rfl, hb6⟩
          rw [show sameB (N : Int) (N : Int) = true from sameB_iff.2 rfl]
          replace q0 := keepc hb6 q0
          replace q1 := keepc hb6 q1
          replace e0 := keepc hb6 e0
          replace e1 := keepc hb6 e1
          replace e2 := keepc hb6 e2
          replace e3 := keepc hb6 e3
          replace HN := Lib.hid (HN.out.up hb6)
          replace HS := Lib.hid (HS.out.up hb6)
          replace HL := Lib.hid (Bl.up HL.out hb6)
          clear hb6 HX1
          (go_wp2_with fail; clear hHeld; have hHeld : (fun w' : World => w'.cell? ⟨Bq, 0, none⟩ = some (.bool s1) ∧ w'.cell? ⟨Bq, 1, none⟩ = some (.slice a1 n1 k1') ∧ w'.cell? ⟨bo, offo, none⟩ = some (.bool t1) ∧ w'.cell? ⟨bo, offo + 1, none⟩ = some (.slice b1 n2 g1) ∧ w'.cell? ⟨bo, offo + (cn - 1) * 2, none⟩ = some (.bool t2) ∧ w'.cell? ⟨bo, offo + (cn - 1) * 2 + 1, none⟩ = some (.slice b2 n3 g2)) (w8) := ⟨q0, q1, e0, e1, e2, e3⟩; refine hK.out _ _ (fun _ => hHeld) ?_; clear hK; refine tL ?_)
          (refine pL 25 rfl ?_; refine pL 26 rfl ?_)
          refine wpAnyT_done (by kernel_rfl) ?_ _
          clear hHeld e0 e1 e2 e3 j2 j3 j4 j5
          go_wp2_with fail
          go_loopw [9, 10, 11, 12] (fun s9 s10 s11 s12 wr => ∃ i : Nat, s9 = .int .i64 (i : Int) ∧ i ≤ cn ∧ Below w8.heap.size w8 wr)
            (fun s9 _ _ _ _ => cn - (intOf s9).toNat)
          case atStart => exact ⟨0, rfl, Nat.zero_le _, Below.refl _ _⟩
          case round =>
            obtain ⟨i, rfl, hi, hbr⟩ := hrel
            replace q0 := keepc hbr q0
            replace q1 := keepc hbr q1
            have HNr := Lib.hid (HN.out.up hbr)
            have HSr := Lib.hid (HS.out.up hbr)
            have HBR := Lib.hid hbr
            by_cases hlt : i < cn
            · have i0 : (0 : Int) ≤ (i : Int) := by omega
              have i1 : (i : Int) < (cn : Int) := by omega
              obtain ⟨bo', offo', e, -, hlo⟩ := HSr.out.at (i := i) (by rw [HLZ.out]; exact hlt)
              injection e with e
              injection e with ea eb
              subst ea eb
              obtain ⟨t1, b1, n2, g1, e0, e1, hx⟩ := hlo.int (i := i) (by rw [HLZ.out]; exact hlt)
              rw [zI_getD] at hx
              have hmem : m.getD i 0 ∈ m := by rw [List.getD_eq_getElem?_getD, List.getElem?_eq_getElem (by rw [HLM.out]; exact hlt)]; exact List.getElem_mem _
              obtain ⟨hs1, hs2, hs3⟩ := HSZ.out _ hmem
              obtain ⟨x, hxe⟩ : ∃ x, m.getD i 0 = x := ⟨_, rfl⟩
              rw [hxe] at hx hs1 hs2 hs3
              have HXE := Lib.hid hxe
              have HX := Lib.hid hx
              have HS1 := Lib.hid hs1
              have hx0 : ((x : Nat) : Int) ≠ 0 := by omega
              have hmod : (N : Int) % (x : Int) = 0 := Int.emod_eq_zero_of_dvd (Int.natCast_dvd_natCast.2 hs3)
              have HMO := Lib.hid hmod
              have HX00 := Lib.hid hx0
              clear hlo hxe hx hs1 hs2 hs3 hmem hbr hmod hx0
              go_upto_region 18 with fail
              refine wp_region_T (by kernel_rfl) [13, 14] (S := fun w' => w'.cell? ⟨Bq, 0, none⟩ = some (.bool s1) ∧ w'.cell? ⟨Bq, 1, none⟩ = some (.slice a1 n1 k1') ∧ w'.cell? ⟨bo, offo + i * 2, none⟩ = some (.bool t1) ∧ w'.cell? ⟨bo, offo + i * 2 + 1, none⟩ = some (.slice b1 n2 g1)) ⟨q0, q1, e0, e1⟩ (fun hHeld => ?_)
              refine pL 0 rfl ?_
              refine kL 1 rfl ?_
              (refine pL 2 rfl ?_; refine pL 3 rfl ?_; refine pL 4 rfl ?_)
              refine kL 5 rfl ?_
              clear hHeld
              refine wpAnyT_all [(6, some 92), (7, some 85), (8, some 93), (9, some 94), (10, some 95), (11, some 10), (12, some 11), (13, none), (14, none), (15, some 12)] 0 (DmJ ((N : Int) / (x : Int)) ((N : Int) % (x : Int)) wr) rfl (by kernel_rfl) (by decide) (by kernel_rfl) (by kernel_rfl) (by kernel_rfl)
                (fun bb xx wz h => ⟨keepc h.bl q0, keepc h.bl q1, keepc h.bl e0, keepc h.bl e1⟩) (fun xx => DmJ.start _ _ _ _) ?_ ?_
              · intro i' hi'
                have hi'' : i' = 6 ∨ i' = 7 ∨ i' = 8 ∨ i' = 9 ∨ i' = 10 ∨ i' = 11 ∨ i' = 12 ∨ i' = 13 ∨ i' = 14 ∨ i' = 15 := by simpa using hi'
                clear hi'
                rcases hi'' with rfl | rfl | rfl | rfl | rfl | rfl | rfl | rfl | rfl | rfl
                · refine ⟨_, rfl, fun bb xx wz hJ hbf hw K hK => ?_⟩
                  clear hbf hw
                  simp only [actsD, List.foldl_cons, List.foldl_nil, Act.put, List.setIfInBounds_toArray, List.set_cons_zero, List.set_cons_succ] at hK ⊢
                  go_simp
                  refine (divmod_any _ _ (N : Int) (x : Int) wz (HNr.out.up hJ.bl) (HX.out.up hJ.bl) HX00.out (Nat.le_trans HSN.out (by decide)) (Nat.le_trans HS1.out (by decide))).mono ?_
                  rintro e w9 ⟨vq, vr, rfl, hq, hr, hb⟩
                  exact hK.out _ _ (hJ.step (i := 6) hb (by decide) (by decide) (by decide) (fun _ => ⟨vq, vr, rfl, hq, hr⟩) (fun e => absurd e (by decide)) (fun e => absurd e (by decide)) (fun e => absurd e (by decide)))
                · refine ⟨_, rfl, fun bb xx wz hJ hbf hw K hK => ?_⟩
                  have h6 := hw 6 (by kernel_rfl)
                  clear hw
                  simp only [actsD, List.foldl_cons, List.foldl_nil, Act.put, List.setIfInBounds_toArray, List.set_cons_zero, List.set_cons_succ] at hK ⊢
                  go_simp
                  exact hK.out _ _ (hJ.step (i := 7) (Below.refl _ _) (by decide) (by decide) (by decide) (fun _ => hJ.t 6 (.inl rfl) h6) (fun e => absurd e (by decide)) (fun e => absurd e (by decide)) (fun e => absurd e (by decide)))
                · refine ⟨_, rfl, fun bb xx wz hJ hbf hw K hK => ?_⟩
                  have h1 := hw 7 (by kernel_rfl)
                  have hh := Classical.choose_spec (hJ.tup (.inr rfl) h1)
                  generalize Classical.choose (hJ.tup (.inr rfl) h1) = p at hh
                  have hxu : xx 7 = .tuple #[p.1, p.2, .int .i64 0] := hh.1
                  have HXQ := Lib.hid hh.2
                  clear hw hh
                  simp only [actsD, List.foldl_cons, List.foldl_nil, Act.put, List.setIfInBounds_toArray, List.set_cons_zero, List.set_cons_succ, hxu] at hK ⊢
                  go_simp
                  exact hK.out _ _ (hJ.step (i := 8) (Below.refl _ _) (by decide) (by decide) (by decide) (fun e => absurd e (by decide)) (fun _ => HXQ.out.1) (fun e => absurd e (by decide)) (fun e => absurd e (by decide)))
                · refine ⟨_, rfl, fun bb xx wz hJ hbf hw K hK => ?_⟩
                  have h1 := hw 7 (by kernel_rfl)
                  have hh := Classical.choose_spec (hJ.tup (.inr rfl) h1)
                  generalize Classical.choose (hJ.tup (.inr rfl) h1) = p at hh
                  have hxu : xx 7 = .tuple #[p.1, p.2, .int .i64 0] := hh.1
                  have HXQ := Lib.hid hh.2
                  clear hw hh
                  simp only [actsD, List.foldl_cons, List.foldl_nil, Act.put, List.setIfInBounds_toArray, List.set_cons_zero, List.set_cons_succ, hxu] at hK ⊢
                  go_simp
                  exact hK.out _ _ (hJ.step (i := 9) (Below.refl _ _) (by decide) (by decide) (by decide) (fun e => absurd e (by decide)) (fun e => absurd e (by decide)) (fun _ => HXQ.out.2) (fun e => absurd e (by decide)))
                · refine ⟨_, rfl, fun bb xx wz hJ hbf hw K hK => ?_⟩
                  have h1 := hw 7 (by kernel_rfl)
                  have hh := Classical.choose_spec (hJ.tup (.inr rfl) h1)
                  generalize Classical.choose (hJ.tup (.inr rfl) h1) = p at hh
                  have hxu : xx 7 = .tuple #[p.1, p.2, .int .i64 0] := hh.1
                  have HXQ := Lib.hid hh.2
                  clear hw hh
                  simp only [actsD, List.foldl_cons, List.foldl_nil, Act.put, List.setIfInBounds_toArray, List.set_cons_zero, List.set_cons_succ, hxu] at hK ⊢
                  go_simp
                  exact hK.out _ _ (hJ.step (i := 10) (Below.refl _ _) (by decide) (by decide) (by decide) (fun e => absurd e (by decide)) (fun e => absurd e (by decide)) (fun e => absurd e (by decide)) (fun _ => rfl))
                · refine ⟨_, rfl, fun bb xx wz hJ hbf hw K hK => ?_⟩
                  clear hw
                  simp only [actsD, List.foldl_cons, List.foldl_nil, Act.put, List.setIfInBounds_toArray, List.set_cons_zero, List.set_cons_succ] at hK ⊢
                  go_simp
                  exact hK.out _ _ hJ.var1
                · refine ⟨_, rfl, fun bb xx wz hJ hbf hw K hK => ?_⟩
                  clear hw
                  simp only [actsD, List.foldl_cons, List.foldl_nil, Act.put, List.setIfInBounds_toArray, List.set_cons_zero, List.set_cons_succ] at hK ⊢
                  go_simp
                  exact hK.out _ _ (hJ.var2 hbf)
                · refine ⟨_, rfl, fun bb xx wz hJ hbf hw K hK => ?_⟩
                  have h8 := hw 8 (by kernel_rfl)
                  have h11 := hw 11 (by kernel_rfl)
                  have hh := Classical.choose_spec (hJ.s1 h8 h11)
                  generalize Classical.choose (hJ.s1 h8 h11) = p at hh
                  have hxu : xx 8 = _ := hh.hv
                  have hxv : xx 11 = _ := hh.hx
                  have d0 := hh.c0
                  have d1 := hh.c1
                  have f0 := hh.f0
                  have f1 := hh.f1
                  have HJ := Lib.hid hJ
                  have HH := Lib.hid hh
                  clear hw hh hJ
                  simp only [actsD, List.foldl_cons, List.foldl_nil, Act.put, List.setIfInBounds_toArray, List.set_cons_zero, List.set_cons_succ, hxu, hxv] at hK ⊢
                  clear hxu hxv
                  go_simp
                  go_wp2_with fail
                  exact hK.out _ _ (HJ.out.st1 h11 HH.out (v := undef))
                · refine ⟨_, rfl, fun bb xx wz hJ hbf hw K hK => ?_⟩
                  have h8 := hw 9 (by kernel_rfl)
                  have h11 := hw 12 (by kernel_rfl)
                  have hh := Classical.choose_spec (hJ.s2 h8 h11)
                  generalize Classical.choose (hJ.s2 h8 h11) = p at hh
                  have hxu : xx 9 = _ := hh.hv
                  have hxv : xx 12 = _ := hh.hx
                  have d0 := hh.c0
                  have d1 := hh.c1
                  have f0 := hh.f0
                  have f1 := hh.f1
                  have HJ := Lib.hid hJ
                  have HH := Lib.hid hh
                  clear hw hh hJ
                  simp only [actsD, List.foldl_cons, List.foldl_nil, Act.put, List.setIfInBounds_toArray, List.set_cons_zero, List.set_cons_succ, hxu, hxv] at hK ⊢
                  clear hxu hxv
                  go_simp
                  go_wp2_with fail
                  exact hK.out _ _ (HJ.out.st2 h11 HH.out (v := undef))
                · refine ⟨_, rfl, fun bb xx wz hJ hbf hw K hK => ?_⟩
                  have h10 := hw 10 (by kernel_rfl)
                  clear hw
                  simp only [actsD, List.foldl_cons, List.foldl_nil, Act.put, List.setIfInBounds_toArray, List.set_cons_zero, List.set_cons_succ] at hK ⊢
                  go_simp
                  exact hK.out _ _ (hJ.step (i := 15) (Below.refl _ _) (by decide) (by decide) (by decide) (fun e => absurd e (by decide)) (fun e => absurd e (by decide)) (fun e => absurd e (by decide)) (fun _ => hJ.e3 h10))
              intro bz xx wz hbb hJ
              obtain ⟨B12, hx12, hB12, -, hV12⟩ := hJ.v2 (hbb 12 (by decide))
              obtain ⟨B11, hx11, -, -⟩ := hJ.v1 (hbb 11 (by decide))
              replace hV12 := hV12 (hbb 14 (by decide))
              have hx15 := hJ.e4 (hbb 15 (by decide))
              have hbz := hJ.bl
              clear hbb hJ q0 q1 e0 e1
              obtain ⟨u6, hu6⟩ : ∃ u6, u6 = xx 6 := ⟨_, rfl⟩
              obtain ⟨u7, hu7⟩ : ∃ u7, u7 = xx 7 := ⟨_, rfl⟩
              obtain ⟨u8, hu8⟩ : ∃ u8, u8 = xx 8 := ⟨_, rfl⟩
              obtain ⟨u9, hu9⟩ : ∃ u9, u9 = xx 9 := ⟨_, rfl⟩
              obtain ⟨u10, hu10⟩ : ∃ u10, u10 = xx 10 := ⟨_, rfl⟩
              simp only [actsD, markOf, List.map_cons, List.map_nil, List.foldl_cons, List.foldl_nil, Act.put, List.setIfInBounds_toArray, List.set_cons_zero, List.set_cons_succ, hx12, hx11, hx15, ← hu6, ← hu7, ← hu8, ← hu9, ← hu10]
              clear hx12 hx11 hx15 hu6 hu7 hu8 hu9 hu10
              refine wpAnyT_done (by kernel_rfl) ?_ _
              rw [HMO.out] at hV12
              obtain ⟨s3, a3, n4, g3, y0, y1, -, -, hI0⟩ := hV12.cells
              have HI0 := Lib.hid hI0
              have HBZ := Lib.hid (Bl.up HBR.out hbz)
              have hSz := HSr.out.up hbz
              obtain ⟨bo', offo', e, -, hlo⟩ := hSz.at (i := i) (by rw [HLZ.out]; exact hlt)
              injection e with e
              injection e with ea eb
              subst ea eb
              obtain ⟨t1, b1, n2, g1, e0, e1, hxi⟩ := hlo.int (i := i) (by rw [HLZ.out]; exact hlt)
              rw [zI_getD, HXE.out] at hxi
              have HXI := Lib.hid hxi
              have hhd : i < (zI m).length := by rw [HLZ.out]; exact hlt
              clear hV12 hI0 hbz hxi hSz
              rcases Nat.eq_zero_or_pos i with h0 | h0
              · subst h0
                rw [show offo + 0 * 2 = offo by omega] at e0 e1
                clear hlo hhd
                go_upto_region 19 with fail
                refine wp_region_T (by kernel_rfl) [] (S := fun w' => w'.cell? ⟨B12, 0, none⟩ = some (.bool s3) ∧ w'.cell? ⟨B12, 1, none⟩ = some (.slice a3 n4 g3)) ⟨y0, y1⟩ (fun hHeld => ?_)
                (refine pL 0 rfl ?_; refine pL 1 rfl ?_; refine pL 2 rfl ?_)
                refine kL 3 rfl ?_
                (refine oL 4 rfl fun K hK => tL ?_; go_simp)
                refine (sign_any _ 0 _ HI0.out.drew).mono ?_
                rintro e w10 ⟨rfl, hb6⟩
                rw [show cmpI 0 0 = 0 by rw [cmpI_zero]]
                replace y0 := keepc hb6 (cellD y0)
                replace y1 := keepc hb6 (cellD y1)
                have HB10 := Lib.hid (Bl.up (Bl.drew HBZ.out) hb6)
                clear hb6
                (go_wp2_with fail; clear hHeld; have hHeld : (fun w' : World => w'.cell? ⟨B12, 0, none⟩ = some (.bool s3) ∧ w'.cell? ⟨B12, 1, none⟩ = some (.slice a3 n4 g3)) (w10) := ⟨y0, y1⟩; refine hK.out _ _ (fun _ => hHeld) ?_; clear hK; refine tL ?_)
                (refine pL 5 rfl ?_; refine pL 6 rfl ?_; refine pL 7 rfl ?_; refine pL 8 rfl ?_; refine pL 9 rfl ?_; refine pL 10 rfl ?_)
                (refine uL 11 rfl ?_; refine uL 12 rfl ?_; refine uL 13 rfl ?_; refine uL 14 rfl ?_; refine uL 15 rfl ?_; refine uL 16 rfl ?_; refine uL 17 rfl ?_; refine uL 18 rfl ?_; refine uL 19 rfl ?_; refine uL 20 rfl ?_; refine uL 21 rfl ?_)
                (refine pL 22 rfl ?_; refine pL 23 rfl ?_)
                refine wpAnyT_done (by kernel_rfl) ?_ _
                clear hHeld y0 y1 e0 e1
                go_wp2_with fail
                refine ⟨⟨1, rfl, by omega, HB10.out⟩, by simp [intOf]; omega⟩
              · have hpd : i - 1 < (zI m).length := by omega
                obtain ⟨t3, b3, n5, g4, e2, e3, hxp⟩ := hlo.int (i := i - 1) hpd
                rw [zI_getD] at hxp
                have hmp : m.getD (i - 1) 0 ∈ m := by rw [List.getD_eq_getElem?_getD, List.getElem?_eq_getElem (by rw [HLM.out]; omega)]; exact List.getElem_mem _
                have hsp := (HSZ.out _ hmp).1
                have hlt2 : m.getD (i - 1) 0 < x := by
                  have h1 := List.pairwise_iff_getElem.1 HK5.out (i - 1) i (by rw [HLM.out]; omega) (by rw [HLM.out]; omega) (by omega)
                  rw [← HXE.out, List.getD_eq_getElem?_getD, List.getElem?_eq_getElem (by rw [HLM.out]; omega), List.getD_eq_getElem?_getD, List.getElem?_eq_getElem (by rw [HLM.out]; omega)]
                  exact h1
                obtain ⟨xp, hxpe⟩ : ∃ xp, m.getD (i - 1) 0 = xp := ⟨_, rfl⟩
                rw [hxpe] at hxp hsp hlt2
                have hcm : cmpI (xp : Int) (x : Int) = -1 := by
                  unfold cmpI
                  rw [if_pos (by omega)]
                have HCM := Lib.hid hcm
                have HXP := Lib.hid hxp
                have HSP := Lib.hid hsp
                obtain ⟨ip, hip⟩ : ∃ ip, i - 1 = ip := ⟨_, rfl⟩
                rw [hip] at e2 e3
                have i2 : (i : Int) - 1 = (ip : Int) := by omega
                have i3 : IntKind.i64.wrap (ip : Int) = (ip : Int) := by rw [IntKind.wrap_i64]; omega
                have i4 : (0 : Int) ≤ (ip : Int) := by omega
                have i5 : (ip : Int) < (cn : Int) := by omega
                have i6 : (i : Int) > 0 := by omega
                clear hlo hhd hpd hmp hxp hsp hlt2 hxpe hcm hip
                go_upto_region 19 with fail
                refine wp_region_T (by kernel_rfl) [] (S := fun w' => w'.cell? ⟨B12, 0, none⟩ = some (.bool s3) ∧ w'.cell? ⟨B12, 1, none⟩ = some (.slice a3 n4 g3) ∧ w'.cell? ⟨bo, offo + ip * 2, none⟩ = some (.bool t3) ∧ w'.cell? ⟨bo, offo + ip * 2 + 1, none⟩ = some (.slice b3 n5 g4) ∧ w'.cell? ⟨bo, offo + i * 2, none⟩ = some (.bool t1) ∧ w'.cell? ⟨bo, offo + i * 2 + 1, none⟩ = some (.slice b1 n2 g1)) ⟨y0, y1, e2, e3, e0, e1⟩ (fun hHeld => ?_)
                (refine pL 0 rfl ?_; refine pL 1 rfl ?_; refine pL 2 rfl ?_)
                refine kL 3 rfl ?_
                (refine oL 4 rfl fun K hK => tL ?_; go_simp)
                refine (sign_any _ 0 _ HI0.out.drew).mono ?_
                rintro e w10 ⟨rfl, hb6⟩
                rw [show cmpI 0 0 = 0 by rw [cmpI_zero]]
                replace y0 := keepc hb6 (cellD y0)
                replace y1 := keepc hb6 (cellD y1)
                replace e2 := keepc hb6 (cellD e2)
                replace e3 := keepc hb6 (cellD e3)
                replace e0 := keepc hb6 (cellD e0)
                replace e1 := keepc hb6 (cellD e1)
                have HB10 := Lib.hid (Bl.up (Bl.drew HBZ.out) hb6)
                replace HXI := Lib.hid (HXI.out.drew.up hb6)
                replace HXP := Lib.hid (HXP.out.drew.up hb6)
                clear hb6
                (go_wp2_with fail; clear hHeld; have hHeld : (fun w' : World => w'.cell? ⟨B12, 0, none⟩ = some (.bool s3) ∧ w'.cell? ⟨B12, 1, none⟩ = some (.slice a3 n4 g3) ∧ w'.cell? ⟨bo, offo + ip * 2, none⟩ = some (.bool t3) ∧ w'.cell? ⟨bo, offo + ip * 2 + 1, none⟩ = some (.slice b3 n5 g4) ∧ w'.cell? ⟨bo, offo + i * 2, none⟩ = some (.bool t1) ∧ w'.cell? ⟨bo, offo + i * 2 + 1, none⟩ = some (.slice b1 n2 g1)) (w10) := ⟨y0, y1, e2, e3, e0, e1⟩; refine hK.out _ _ (fun _ => hHeld) ?_; clear hK; refine tL ?_)
                (refine pL 5 rfl ?_; refine pL 6 rfl ?_; refine pL 7 rfl ?_; refine pL 8 rfl ?_; refine pL 9 rfl ?_; refine pL 10 rfl ?_; refine pL 11 rfl ?_; refine pL 12 rfl ?_; refine pL 13 rfl ?_; refine pL 14 rfl ?_)
                refine kL 15 rfl ?_
                (refine pL 16 rfl ?_; refine pL 17 rfl ?_; refine pL 18 rfl ?_)
                refine kL 19 rfl ?_
                (refine oL 20 rfl fun K hK => tL ?_; go_simp)
                refine (cmp_any _ _ (xp : Int) (x : Int) _ HXP.out HXI.out (Nat.le_trans HSP.out (by decide)) (Nat.le_trans HS1.out (by decide))).mono ?_
                rintro e w11 ⟨rfl, hb6⟩
                rw [HCM.out]
                have HB11 := Lib.hid (Bl.up HB10.out hb6)
                (go_wp2_with fail; clear hHeld; have hHeld : (fun w' : World => w'.cell? ⟨B12, 0, none⟩ = some (.bool s3) ∧ w'.cell? ⟨B12, 1, none⟩ = some (.slice a3 n4 g3) ∧ w'.cell? ⟨bo, offo + ip * 2, none⟩ = some (.bool t3) ∧ w'.cell? ⟨bo, offo + ip * 2 + 1, none⟩ = some (.slice b3 n5 g4) ∧ w'.cell? ⟨bo, offo + i * 2, none⟩ = some (.bool t1) ∧ w'.cell? ⟨bo, offo + i * 2 + 1, none⟩ = some (.slice b1 n2 g1)) (w11) := ⟨keepc hb6 y0, keepc hb6 y1, keepc hb6 e2, keepc hb6 e3, keepc hb6 e0, keepc hb6 e1⟩; refine hK.out _ _ (fun _ => hHeld) ?_; clear hK; refine tL ?_)
                (refine pL 21 rfl ?_; refine pL 22 rfl ?_; refine pL 23 rfl ?_)
                refine wpAnyT_done (by kernel_rfl) ?_ _
                clear hHeld y0 y1 e0 e1 e2 e3 hb6
                go_wp2_with fail
                refine ⟨⟨i + 1, by go_num, by omega, HB11.out⟩, by simp [intOf]; omega⟩
            · obtain rfl : i = cn := by omega
              have i1 : ¬ (i : Int) < (i : Int) := by omega
              have HLL := Lib.hid (Bl.up HL.out hbr)
              clear hbr q0 q1 hlt hi
              go_wp2_with fail
              go_ret
              exact ⟨rfl, HLL.out⟩
end Go.Proofs.YtblebpmlkpobnaaGreat
