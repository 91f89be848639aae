/-
  The reference: Kernel.
  The empty matrix: Smith of the lattice, Echelon, Hermite, Smith of the reference.
-/
import Derived.Test.YtdbpkoddfcdhdaaGreatRG
import Derived.Test.YtdbpkoddfcdhdaaGreatPT
import Derived.Test.YtdbpkoddfcdhdaaGreatPV
import Derived.Test.YtdbpkoddfcdhdaaGreatPY
import Derived.Test.YtdbpkoddfcdhdaaGreatRH
import Derived.Test.YtdbpkoddfcdhdaaGreatSC
set_option linter.unusedSimpArgs false
set_option linter.unusedVariables false

namespace Go.Proofs.YtdbpkoddfcdhdaaGreat
open Go.RowKit
attribute [local go_sem ↓] Go.wp_at_zero Go.wp_at_succ

/-- Units behind a row, as far as they are there. -/
def unitL (i k : Nat) : List Int := (List.range k).map fun j => if j = i then 1 else 0
theorem unitL_len (i k : Nat) : (unitL i k).length = k := by simp [unitL]
theorem unitL_succ (i k : Nat) : unitL i (k + 1) = unitL i k ++ [if k = i then 1 else 0] := by simp [unitL, List.range_succ]
theorem unitL_row {m : List (List Int)} {n R i : Nat} (hs : Shape R n m) (hi : i < R) : m.getD i [] ++ unitL i R = unitRow m n R i := by
  have hl := hs.2 i hi
  refine row_ext (by simp [unitRow, unitL, hl]) fun k hk => ?_
  rw [List.length_append, unitL_len, hl] at hk
  have h1 := en_unit hs (k := k) hi
  unfold en at h1
  have hg : (unitM m n R).getD i [] = unitRow m n R i := by simp [unitM, List.getD_eq_getElem?_getD, hi]
  rw [hg] at h1
  rw [h1]
  clear h1 hg
  generalize m.getD i [] = x at *
  by_cases hkn : k < n
  · rw [if_pos hkn]
    simp only [List.getD_eq_getElem?_getD]
    rw [List.getElem?_append_left (by omega)]
  · rw [if_neg hkn]
    simp only [List.getD_eq_getElem?_getD]
    rw [List.getElem?_append_right (by omega), hl]
    have hkr : k - n < R := by omega
    simp only [unitL, List.getElem?_map, List.getElem?_range hkr, Option.map_some, Option.getD_some]
    by_cases e : k = n + i
    · rw [if_pos e, if_pos (by omega)]
    · rw [if_neg e, if_neg (by omega)]
theorem unitM_take {m : List (List Int)} {n R i : Nat} (hi : i < R) : (unitM m n R).take (i + 1) = (unitM m n R).take i ++ [unitRow m n R i] := by
  rw [List.take_succ_eq_append_getElem (by simpa [unitM] using hi)]
  simp [unitM]

/-- One echelon form with units, one kernel. -/
theorem ker_same {R n E F row col : Nat} {m A K : List (List Int)} (hs : Shape R n m) (hP : E1 R (n + R) (unitM m n R) E row col A) (hc : col = n + R ∨ row = R) (hK : KerOf R n m K F) : kerL n A = K := by
  obtain ⟨A', r0, piv, tk, rfl⟩ := hK.ex
  obtain ⟨⟨pv, hn⟩, h0⟩ := hP.done hc
  have hr := unit_rank hs hP.r hP.sl h0
  subst hr
  obtain ⟨-, he⟩ := hn.uniq tk.hn (fun i hi => (tk.sl _).2 ((hP.sl _).1 (Lat.row hi))) (fun i hi => (hP.sl _).2 ((tk.sl _).1 (Lat.row hi)))
  rw [en_list_ext hP.sh tk.sh he]

set_option maxRecDepth 100000 in
set_option maxHeartbeats 4000000 in
theorem rkernel_any {R n F : Nat} {m K : List (List Int)} (hK : KerOf R n m K F) (v : Value) (w : World) (h : Mx w v m) (hs : Shape R n m) (hR0 : 0 < R) (hR : R ≤ 4) (hn0 : 0 < n) (hn : n ≤ 5) (hb : ∀ j k, Bt (en m j k) 9) :
    Calls Tryz.prog 15 #[v] w fun e w' => ∃ v', e = .returned v' ∧ Mx w' v' K ∧ Below w.heap.size w w' := by
  obtain ⟨aM, cM, rfl, -, -⟩ := id h
  rw [hs.1] at h ⊢
  obtain ⟨xb, xo, ar, q1, rfl, hxb, z0, hq1, -⟩ := h.row hs hR0
  rw [Nat.add_zero] at z0
  have CE := Lib.hid fun W v' (hW : Mx W v' (unitM m n R)) => rechelon_any (eplan (E := 9) (m0 := unitM m n R) (by decide) (gB9 hR).1) v' (unitM m n R) W hW (unit_shape hs) (e1_start (unit_shape hs) (unit_bt hs (by decide) hb)) (by omega) hR0 (by omega) (by omega)
  have R0 : (0 : Int) < (R : Int) := by omega
  have HK := Lib.hid hK
  clear hK hb
  go_enter Tryz.func15, Tryz.ntmps15
  go_wp2_with fail
  go_loopw [3, 4, 5, 6, 7] (fun s3 s4 _ _ _ wq => ∃ (i : Nat) (u : Value), i ≤ R ∧ s4 = .int .i64 (i : Int) ∧ s3 = u ∧ Am2 wq w.heap.size u ((unitM m n R).take i) ∧ Below w.heap.size w wq)
    (fun _ s4 _ _ _ _ => R - (intOf s4).toNat)
  case atStart => exact ⟨0, _, Nat.zero_le _, rfl, rfl, Am2.lit0 _ (Nat.le_refl _), below_new _ _⟩
  case round =>
    obtain ⟨i, u, hi, rfl, rfl, hAm, hbl⟩ := hrel
    have i0 : (0 : Int) ≤ (i : Int) := by omega
    have hbs := hbl.size
    by_cases hlt : i < R
    · have i1 : (i : Int) < (R : Int) := by omega
      obtain ⟨ba, offa, a1, k1, e0, hba, p0, hk1, hrw⟩ := (h.up hbl).row hs hlt
      injection e0 with e0
      injection e0 with e1 e2
      subst e1 e2
      have HTM := Lib.hid (unitM_take (m := m) (n := n) (R := R) hlt)
      have HUR := Lib.hid (unitL_row hs hlt)
      have hxl := hs.2 i hlt
      generalize m.getD i [] = x at *
      obtain ⟨wo, hwo⟩ : ∃ wo, wo = wr := ⟨_, rfl⟩
      rw [← hwo] at hAm hbl hbs p0 hrw hba ⊢
      clear hwo
      have hap := Ap.lit0 wo (Nat.le_refl wo.heap.size)
      go_wp2_with (at_builtin; go_must (refine wpl_apRow rfl (.tmp 18) (.tmp 22) _ rfl Tryz.underlying36 wo.heap.size _ [] x rfl hap (by simp) _ n k1 rfl (hrw.up (below_new _ _)) hn0 (by simp; omega) ?_); intro g2 cap2 w2 hA2 hb2; rw [List.length_nil, Nat.zero_add, List.nil_append] at hA2; rw [List.length_nil, Nat.zero_add])
      have hbo0 := (below_new wo (.cells #[] 56)).trans (hb2.mono (by simp))
      clear hap hb2
      go_loopw [5, 6, 7] (fun s5 s6 _ wq => ∃ (k : Nat) (u' : Value), k ≤ R ∧ s6 = .int .i64 (k : Int) ∧ s5 = u' ∧ Ap wq wo.heap.size u' (x ++ unitL i k) ∧ Below wo.heap.size wo wq)
        (fun _ s6 _ _ => R - (intOf s6).toNat)
      case atStart => exact ⟨0, _, Nat.zero_le _, rfl, rfl, by simpa [unitL] using hA2, hbo0⟩
      case round =>
        clear hA2 hbo0
        obtain ⟨k, u', hk, rfl, rfl, hAp, hbo⟩ := hrel
        have k0 : (0 : Int) ≤ (k : Int) := by omega
        have hbos := hbo.size
        have hol : (x ++ unitL i k).length ≤ 1099511627776 := by rw [List.length_append, unitL_len]; omega
        have hll : (x ++ unitL i k).length = n + k := by rw [List.length_append, unitL_len, hxl]
        have HLL := Lib.hid hll
        clear hll
        by_cases hkR : k < R
        · have k1' : (k : Int) < (R : Int) := by omega
          have HUS := Lib.hid (unitL_succ i k)
          by_cases hki : k = i
          all_goals
            first
              | (have hT : ((k : Int) == (i : Int)) = true := by rw [beq_iff_eq]; omega)
              | (have hT : ((k : Int) == (i : Int)) = false := by rw [beq_eq_false_iff_ne]; omega)
            have HKI := Lib.hid hki
            clear hki
            go_wp2_with fail
            refine (rof_any _ _ (by decide) (by decide)).mono ?_
            rintro e w3 ⟨v3, rfl, hv3, hb3⟩
            obtain ⟨s3, a3, n3, c3, rfl⟩ := hv3.shape
            have hAp3 := hAp.up hb3
            have hbo3 := Bl.up hbo hb3
            clear hAp hb3 hT
            go_wp2_with (at_builtin; go_must (refine wpl_apI rfl (.tmp 33) (.tmp 36) _ rfl Tryz.underlying36 wo.heap.size _ (x ++ unitL i k) rfl (hAp3.alloc _) (by have := hbo3.size; simp; omega) w3.heap.size _ _ _ s3 a3 n3 c3 _ rfl (heap_alloc_new _ _) (hv3.alloc _) hol ?_); intro g4 cap4 w4 hAp4 hb4; rw [HLL.out] at hAp4 ⊢)
            go_roundw
            case rel =>
              refine ⟨k + 1, _, by omega, by go_num, rfl, ?_, (Bl.alloc hbo3 _).trans hb4⟩
              rw [HUS.out, ← List.append_assoc]
              first
                | (rw [if_pos HKI.out]; exact hAp4)
                | (rw [if_neg HKI.out]; exact hAp4)
            case measure => simp [intOf]; omega
        · have hkR' : k = R := by omega
          have k1' : ¬ (k : Int) < (R : Int) := by omega
          have hAp' := hAp
          rw [hkR', HUR.out] at hAp'
          have hR2 := hAp'.rw
          have hur : (unitRow m n R i).length = n + R := by rw [← HUR.out, List.length_append, unitL_len, hxl]
          obtain ⟨ax, cx, e, -⟩ := id hR2
          subst e
          rw [hur] at hR2 ⊢
          have hAm2 := hAm.up hbo
          have hlt' : ((unitM m n R).take i).length = i := by rw [List.length_take]; simp [unitM]; omega
          have hml2 : ((unitM m n R).take i).length ≤ 1099511627776 := by omega
          clear hAp hAp' hAm p0 hrw
          go_wp2_with (at_builtin; go_must (refine wpl_apR rfl (.tmp 38) (.tmp 40) _ rfl Tryz.underlying27 w.heap.size _ ((unitM m n R).take i) rfl (hAm2.alloc _) (by simp; omega) wr.heap.size _ _ _ _ _ _ (unitRow m n R i) hur rfl (heap_alloc_new _ _) (hR2.up (below_new _ _)) hml2 ?_); intro g5 cap5 w5 hAm5 hb5; rw [hlt'] at hAm5 ⊢)
          go_roundw
          case rel => exact ⟨i + 1, _, by omega, by go_num, rfl, by rw [HTM.out]; exact hAm5, ((hbl.trans (hbo.mono hbs)).alloc (by omega) _).trans hb5⟩
          case measure => simp [intOf]; omega
    · have hiR : i = R := by omega
      have i1 : ¬ (i : Int) < (R : Int) := by omega
      have hMu := hAm.1.mx (Below.refl _ _)
      rw [hiR, List.take_of_length_le (by simp [unitM])] at hMu
      clear hAm
      go_wp2_with fail
      refine (CE.out _ _ hMu).mono ?_
      rintro e w5 ⟨g, cap, rfl, row, col, A, hP, hc, hrow, hAm5, hb5⟩
      have hke := ker_same hs hP hc HK.out
      have hsA := hP.sh
      have hM5 := hAm5.1.mx (Below.refl _ _)
      have hbl5 := Bl.up hbl hb5
      replace z0 := keepc hbl5 z0
      clear hMu hP hc hAm5 hb5 hbl CE
      have HKE := Lib.hid hke
      clear hke
      go_wp2_with fail
      go_loopw [8, 9, 10] (fun s8 s9 _ wq => ∃ (i : Nat) (u : Value), i ≤ R ∧ s9 = .int .i64 (i : Int) ∧ s8 = u ∧ Am2 wq w5.heap.size u (kerL n (A.take i)) ∧ Below w5.heap.size w5 wq)
        (fun _ s9 _ _ => R - (intOf s9).toNat)
      case atStart => exact ⟨0, _, Nat.zero_le _, rfl, rfl, Am2.lit0 _ (Nat.le_refl _), below_new _ _⟩
      case round =>
        obtain ⟨j, u', hj, rfl, rfl, hAm, hbo⟩ := hrel
        have j0 : (0 : Int) ≤ (j : Int) := by omega
        have z1 := keepc hbo z0
        have hol : (kerL n (A.take j)).length ≤ 1099511627776 := by have := kerL_length n (A.take j); rw [List.length_take] at this; omega
        by_cases hjR : j < R
        · have j1 : (j : Int) < (R : Int) := by omega
          obtain ⟨ba, offa, a1, k1, e0, hba, p0, hk1, hrw⟩ := (hM5.up hbo).row hsA hjR
          injection e0 with e0
          injection e0 with e1 e2
          subst e1 e2
          rw [Nat.zero_add] at p0
          have htk := kerL_take n A j (by rw [hsA.1]; exact hjR)
          have hlr := hsA.2 j hjR
          generalize A.getD j [] = rr at *
          obtain ⟨bb, offb, cb, hv⟩ := hrw.some (by omega)
          injection hv with e1 e2 e3
          subst e1 e3
          clear e2
          have hpre := hrw.pre (n := n) (by omega)
          have hsuf := hrw.suf (n := n) (by omega)
          have hzc := Lib.hid fun W (hW : Below wr.heap.size wr W) => rzero_any _ (rr.take n) W (hpre.up hW) (by rw [List.length_take]; omega)
          have i0 : (0 : Int) ≤ (n : Int) := by omega
          have i1 : (n : Int) ≤ (k1 : Int) := by omega
          have i2 : ¬ (k1 : Int) < (n : Int) := by omega
          have i3 : (n : Int) ≤ (n : Int) + (R : Int) := by omega
          have i4 : n < k1 := by omega
          have i5 : n < n + R := by omega
          have hln : (rr.drop n).length = R := by rw [List.length_drop, hlr]; omega
          have HLN := Lib.hid hln
          have hnk : ¬ k1 = n := by omega
          rw [show n + R - n = R by omega] at hsuf
          clear hlr hpre hln hrw
          cases hz : (rr.take n).any nz with
          | true =>
            rw [hz] at hzc htk
            rw [if_pos rfl] at htk
            have HT := Lib.hid htk
            clear htk hz
            go_wp2_with (go_at_call 28; refine (hzc.out _ (Below.refl _ _)).mono ?_; rintro e w3 ⟨rfl, hb3⟩)
            go_roundw
            case rel => exact ⟨j + 1, _, by omega, by go_num, rfl, by rw [HT.out]; exact hAm.up hb3, Bl.up hbo hb3⟩
            case measure => simp [intOf]; omega
          | false =>
            rw [hz] at hzc htk
            rw [if_neg (by decide)] at htk
            have HT := Lib.hid htk
            clear htk hz
            go_wp2_with fail
            refine (hzc.out _ (Below.refl _ _)).mono ?_
            rintro e w3 ⟨rfl, hb3⟩
            have hAm3 := hAm.up hb3
            have hbo3 := Bl.up hbo hb3
            have hsuf3 := hsuf.up hb3
            have p3 := keepc hb3 p0
            have hsz3 := hbo3.size
            clear hb3 hAm hbo hsuf p0 z1
            go_wp2_with (at_builtin; go_must (refine wpl_apR rfl (.tmp 62) (.tmp 69) _ rfl Tryz.underlying27 w5.heap.size _ (kerL n (A.take j)) rfl (hAm3.alloc _) (by simp; omega) w3.heap.size _ _ _ _ R _ (rr.drop n) HLN.out rfl (heap_alloc_new _ _) (hsuf3.up (below_new _ _)) hol ?_); intro g4 cap4 w4 hAm4 hb4)
            go_roundw
            case rel => exact ⟨j + 1, _, by omega, by go_num, rfl, by rw [HT.out]; exact hAm4, (Bl.alloc hbo3 _).trans hb4⟩
            case measure => simp [intOf]; omega
        · have hjr : j = R := by omega
          have j1 : ¬ (j : Int) < (R : Int) := by omega
          have hM6 := hAm.1.mx (Below.refl _ _)
          rw [hjr, List.take_of_length_le (by rw [hsA.1]; exact Nat.le_refl _), HKE.out] at hM6
          have hblf := Bl.up hbl5 hbo
          clear hAm
          go_wp2_with fail
          go_ret
          exact ⟨_, rfl, hM6, hblf⟩
end Go.Proofs.YtdbpkoddfcdhdaaGreat

namespace Go.Proofs.YtdbpkoddfcdhdaaGreat
open Go.RowKit
attribute [local go_sem ↓] Go.wp_at_zero Go.wp_at_succ

theorem rechelon_nil (v : Value) (w : World) (h : Mx w v []) :
    Calls Tryz.prog 27 #[v] w fun e w' => ∃ a c, e = .returned (.slice a 0 c) ∧ Below w.heap.size w w' := by
  go_enter Tryz.func27, Tryz.ntmps27
  go_wp2_with fail
  refine (rcopied_any v [] 0 1 w h ⟨rfl, fun i hi => absurd hi (Nat.not_lt_zero i)⟩ (by decide) (by decide) (by decide)).mono ?_
  rintro e w1 ⟨g, cap, rfl, -, hb⟩
  go_wp2_with fail
  go_ret
  exact ⟨_, _, rfl, hb⟩

theorem rhermite_nil (v : Value) (w : World) (h : Mx w v []) :
    Calls Tryz.prog 9 #[v] w fun e w' => ∃ a c, e = .returned (.slice a 0 c) ∧ Below w.heap.size w w' := by
  go_enter Tryz.func9, Tryz.ntmps9
  go_wp2_with fail
  refine (rechelon_nil v w h).mono ?_
  rintro e w1 ⟨a, c, rfl, hb⟩
  go_wp2_with fail
  go_loopw [4, 5] (fun s4 s5 wq => ∃ a c, s4 = .slice a 0 c ∧ s5 = .int .i64 0 ∧ Below w.heap.size w wq) (fun _ _ _ => 0)
  case atStart => exact ⟨_, _, rfl, rfl, Bl.alloc hb _⟩
  case round =>
    obtain ⟨_, _, rfl, rfl, hb2⟩ := hrel
    go_wp2_with fail
    go_ret
    exact ⟨_, _, rfl, hb2⟩

theorem rsmith_nil (v : Value) (w : World) (h : Mx w v []) :
    Calls Tryz.prog 14 #[v] w fun e w' => ∃ v', e = .returned v' ∧ Rw w' v' [] ∧ Below w.heap.size w w' := by
  have CH := Lib.hid fun W (hW : Below w.heap.size w W) => rhermite_nil v W (h.up hW)
  go_enter Tryz.func14, Tryz.ntmps14
  go_wp2_with fail
  refine (rof_any 1 _ (by decide) (by decide)).mono ?_
  rintro e w1 ⟨v1, rfl, hv1, hb1⟩
  obtain ⟨s1, a1, n1, c1, rfl⟩ := hv1.shape
  have hB1 := (below_new w (.cells #[] 56)).trans (hb1.mono (by simp))
  clear hb1
  go_wp2_with fail
  refine (CH.out _ (Bl.alloc hB1 _)).mono ?_
  rintro e w2 ⟨a, c, rfl, hb2⟩
  have hB2 := Bl.up (Bl.alloc hB1 _) hb2
  clear hb2 hB1 CH
  go_wp2_with fail
  go_loopw [3, 6] (fun s3 s6 wq => ∃ a, s3 = .slice a 0 0 ∧ s6 = .int .i64 1 ∧ Below w.heap.size w wq) (fun _ _ _ => 0)
  case atStart => exact ⟨_, rfl, rfl, hB2⟩
  case round =>
    obtain ⟨_, rfl, rfl, hb2⟩ := hrel
    go_wp2_with fail
    go_ret
    exact ⟨_, rfl, ⟨_, 0, rfl, Nat.le_refl _, .inl rfl⟩, hb2⟩

theorem Smith_nil (v : Value) (w : World) (h : Mx w v []) :
    Calls Tryz.prog 11 #[v] w fun e w' => ∃ v', e = .returned (.tuple #[v', .int .i64 0]) ∧ Rw w' v' [] ∧ Below w.heap.size w w' := by
  refine (Smith_ok v [] w h (by decide) refM_nil (fun x => x = []) (fun _ => 0) ?_ ?_ (fun _ _ _ l => l = []) ?_).mono ?_
  · exact ⟨fun h => .inl h, fun {h} e hd => by subst e; exact absurd hd (by decide)⟩
  · intro W hW
    refine (hermite_nil v W (h.up hW)).mono ?_
    rintro e w' ⟨rfl, rfl⟩
    exact ⟨_, [], rfl, rfl, ⟨none, 0, rfl, Nat.le_refl _, .inl rfl⟩, Below.refl _ _⟩
  · rintro x rfl -
    refine ⟨?_, rfl⟩
    exact ⟨fun {i k l} e => by subst e; exact ⟨rfl, fun j => by simp [sz, words], fun j hj => absurd hj (Nat.not_lt_zero j)⟩, fun {i k l} _ _ hk => absurd hk (Nat.not_lt_zero k), fun {i k l} e _ => e⟩
  · rintro e w' ⟨v', x, k, l, rfl, -, -, rfl, hR, hb⟩
    exact ⟨v', rfl, hR, hb⟩
end Go.Proofs.YtdbpkoddfcdhdaaGreat
