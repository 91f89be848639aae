/-
  The reference: Echelon.
-/
import Derived.Deep.LoopGhost
import Derived.Test.YtdbpkoddfcdhdaaGreatPH
import Derived.Test.YtdbpkoddfcdhdaaGreatRD
import Derived.Test.YtdbpkoddfcdhdaaGreatRE
import Derived.Test.YtdbpkoddfcdhdaaGreatRC
set_option linter.unusedSimpArgs false
set_option linter.unusedVariables false

namespace Go.Proofs.YtdbpkoddfcdhdaaGreat
open Go.RowKit
attribute [local go_sem ↓] Go.wp_at_zero Go.wp_at_succ

theorem Am2.int {w : World} {base g R N cap : Nat} {m : List (List Int)} (h : Am2 w base (.slice (some ⟨g, 0, none⟩) R cap) m) (hs : Shape R N m) {i k : Nat} (hi : i < R) (hk : k < N) :
    ∃ b off cp s c n q, w.cell? ⟨g, i, none⟩ = some (.slice (some ⟨b, off, none⟩) N cp) ∧ w.cell? ⟨b, off + k * 2, none⟩ = some (.bool s) ∧ w.cell? ⟨b, off + k * 2 + 1, none⟩ = some (.slice c n q) ∧ It w (.agg #[.bool s, .slice c n q]) (en m i k) ∧ Rw w (.slice (some ⟨b, off, none⟩) N cp) (m.getD i []) ∧ w.frozen? ⟨g, i, none⟩ = false := by
  obtain ⟨ba, offa, ar, k1, e0, hba, p0, hk1, hrow⟩ := (h.1.mx (Below.refl _ _)).row hs hi
  injection e0 with e0
  injection e0 with e1 e2
  subst e1 e2
  rw [Nat.zero_add] at p0
  obtain ⟨bb, offb, s, c, nn, q, rfl, hbb, q0, q1, q2⟩ := hrow.get hk
  exact ⟨bb, offb, k1, s, c, nn, q, p0, q0, q1, q2, hrow, (h.slot (by rw [hs.1]; exact hi)).2.2⟩

theorem Am2.rw {w : World} {base g R cap : Nat} {m : List (List Int)} (h : Am2 w base (.slice (some ⟨g, 0, none⟩) R cap) m) {v : Value} {l : List Int} (hr : Rw w v l) (i : Nat) (u : Value) : Rw (w.setCell ⟨g, i, none⟩ u) v l :=
  hr.but (h.2 g rfl).sl ((But.refl g w).set _ _)
theorem Am2.own {w : World} {base g R N cap : Nat} {m : List (List Int)} (h : Am2 w base (.slice (some ⟨g, 0, none⟩) R cap) m) (hs : Shape R N m) {i : Nat} (hi : i < R) : base ≤ g := (h.slot (i := i) (by rw [hs.1]; exact hi)).1
theorem Am2.set2 {w : World} {base g n cap : Nat} {m : List (List Int)} (h : Am2 w base (.slice (some ⟨g, 0, none⟩) n cap) m) {i : Nat} {x : List Int} {c : Option Addr} {k N : Nat} (hi : i < m.length) (hx : x.length = N) (hr : Rw w (.slice c N k) x) :
    Am2 (w.setCell ⟨g, i, none⟩ (.slice c N k)) base (.slice (some ⟨g, 0, none⟩) n cap) (m.set i x) := by
  subst hx; exact h.set hi hr
theorem bl_set {w wr : World} {g i : Nat} {v : Value} (h : Below w.heap.size w wr) (hg : w.heap.size ≤ g) : Below w.heap.size w (wr.setCell ⟨g, i, none⟩ v) := h.setCell (by exact hg) v

/-- One of two operations comes up. -/
theorem wpAnyT_two {P : Program} {ops : Array Oper} {Q : Exit → Act → World → Prop} {md : Region.Mode} {S : World → Prop} {st : List Nat} {i j : Nat} {oi oj : Oper} {fuel : Nat} {listed : Array Bool} {a : Act} {w : World} (hr : Region.ready md ops listed = [i, j]) (hoi : ops[i]? = some oi) (hoj : ops[j]? = some oj)
    (hi : ∀ K' : Act → World → Prop, Shut (∀ a w, (clean st (listed.setIfInBounds i true) = true → S w) → wpAnyT P md ops Q S st fuel (listed.setIfInBounds i true) a w → K' a w) → if Region.wanted oi (yielded ops a.tmps) = true then Oper.wp P oi a w K' Q else K' (a.put oi.dst undef) w)
    (hj : ∀ K' : Act → World → Prop, Shut (∀ a w, (clean st (listed.setIfInBounds j true) = true → S w) → wpAnyT P md ops Q S st fuel (listed.setIfInBounds j true) a w → K' a w) → if Region.wanted oj (yielded ops a.tmps) = true then Oper.wp P oj a w K' Q else K' (a.put oj.dst undef) w) :
    wpAnyT P md ops Q S st (fuel + 1) listed a w :=
  ⟨fun h0 => (by rw [hr] at h0; cases h0), fun l hl => by
    rw [hr] at hl
    rcases List.mem_cons.1 hl with rfl | hl
    · exact wpOp_step hoi (fun K' hK => hi K' (fun a w hS hW => hK a w ⟨hS, hW⟩))
    · rcases List.mem_cons.1 hl with rfl | hl
      · exact wpOp_step hoj (fun K' hK => hj K' (fun a w hS hW => hK a w ⟨hS, hW⟩))
      · cases hl⟩

set_option maxRecDepth 100000 in
set_option maxHeartbeats 8000000 in
theorem rechelon_any {R N : Nat} {P1 : Nat → Nat → List (List Int) → Prop} {PL : Nat → Nat → Nat → List (List Int) → Prop} {PS : Nat → Nat → Nat → Nat → List (List Int) → Prop} {P3 : Nat → Nat → Nat → List (List Int) → Prop} (pl : EPlan R N P1 PL PS P3)
    (v : Value) (m : List (List Int)) (w : World) (h : Mx w v m) (hs : Shape R N m) (h0 : P1 0 0 m) (hN0 : 0 < N) (hR0 : 0 < R) (hN : N ≤ 1000) (hR : R ≤ 1000) :
    Calls Tryz.prog 27 #[v] w fun e w' => ∃ g cap, e = .returned (.slice (some ⟨g, 0, none⟩) R cap) ∧ ∃ row col A, P1 row col A ∧ (col = N ∨ row = R) ∧ row ≤ R ∧ Am2 w' w.heap.size (.slice (some ⟨g, 0, none⟩) R cap) A ∧ Below w.heap.size w w' := by
  have hv := h
  obtain ⟨a, ca, rfl, -, -⟩ := hv
  have hne : ((R : Int) == 0) = false := by rw [beq_eq_false_iff_ne]; omega
  have z0 : (0 : Int) < (R : Int) := by omega
  go_enter Tryz.func27, Tryz.ntmps27
  go_wp2_with fail
  refine (rcopied_any _ m R N _ h hs hN0 hN hR).mono ?_
  rintro e w1 ⟨g, cap, rfl, hAm1, hb1⟩
  go_wp2_with fail
  go_loopw [4, 5] (fun s4 s5 wq => ∃ (row col : Nat) (m : List (List Int)), s4 = .int .i64 row ∧ s5 = .int .i64 col ∧ row ≤ R ∧ col ≤ N ∧ P1 row col m ∧ Am2 wq w.heap.size (.slice (some ⟨g, 0, none⟩) R cap) m ∧ Below w.heap.size w wq)
    (fun _ s5 _ => N - (intOf s5).toNat)
  case atStart => exact ⟨0, 0, m, rfl, rfl, Nat.zero_le _, Nat.zero_le _, h0, hAm1, hb1⟩
  case round =>
    clear hAm1 hb1 h0 hs h
    obtain ⟨row, col, m, rfl, rfl, hrow, hcol, hP, hAm, hbl⟩ := hrel
    obtain ⟨hs, hsm⟩ := pl.s1 hP
    obtain ⟨b0, o0, k0, -, -, -, -, p0, -⟩ := hAm.int hs hR0 hN0
    have hgb := hAm.own hs hR0
    by_cases hcn : col < N
    · have i1 : (col : Int) < (N : Int) := by omega
      have i10 : (0 : Int) ≤ (col : Int) := by omega
      by_cases hrR : row < R
      · have i2 : (row : Int) < (R : Int) := by omega
        have i20 : (0 : Int) ≤ (row : Int) := by omega
        obtain ⟨t0, hL0⟩ := pl.start hP hcn hrR
        clear hP
        have hMx := hAm.1.mx (Below.refl _ _)
        go_wp2_with fail
        refine (rleast_any _ m R N row col _ hMx hs hcn hrow hN hR (fun i k => Nat.le_trans (hsm i k) (by decide))).mono ?_
        rintro e w2 ⟨b, rfl, hLe, hb2⟩
        replace hAm := hAm.up hb2
        replace hbl := Bl.up hbl hb2
        clear hb2 p0 hMx hs hsm
        go_wp2_with fail
        go_loopg [6] t0 (fun t s6 wq => ∃ (b : Int) (m : List (List Int)), s6 = .int .i64 b ∧ Least m R row col b ∧ PL row col t m ∧ Am2 wq w.heap.size (.slice (some ⟨g, 0, none⟩) R cap) m ∧ Below w.heap.size w wq)
        case atStart => exact ⟨b, m, rfl, hLe, hL0, hAm, hbl⟩
        case round =>
          clear hLe hL0 hAm hbl
          (try clear m)
          obtain ⟨b, m, rfl, hLe, hL, hAm, hbl⟩ := hrel
          obtain ⟨hs, hsm⟩ := pl.sL hL
          rcases id hLe with ⟨rfl, hz⟩ | ⟨k, rfl, hk1, hk2, hk3, hk4⟩
          · have hno := pl.none hL hz
            clear hz hL
            go_wp2_with fail
            go_roundw
            case rel => exact ⟨row, col + 1, m, rfl, by go_num, by omega, by omega, hno, hAm, hbl⟩
            case measure => simp [intOf]; omega
          · have hS := pl.swap hL hrR hk1 hk2 hk3 hk4
            have HS := Lib.hid hS
            clear hk3 hk4 hS hLe
            have j0 : (0 : Int) ≤ (k : Int) := by omega
            have j1 : (k : Int) < (R : Int) := by omega
            have j2 : ¬ (k : Int) < 0 := by omega
            obtain ⟨b1, o1, k1, -, -, -, -, p0, -, -, -, p4, p5⟩ := hAm.int hs hrR hcn
            obtain ⟨b2, o2, k2, -, -, -, -, r0, -, -, -, r4, r5⟩ := hAm.int hs hk2 hcn
            go_upto_region 12 with fail
            have hAm1 := hAm.set2 (i := row) (by rw [hs.1]; exact hrR) (hs.2 k hk2) r4
            have hbl1 := bl_set (i := row) (v := .slice (some ⟨b2, o2, none⟩) N k2) hbl hgb
            have hs1 : Shape R N (m.set row (m.getD k [])) := hs.set hrR (hs.2 k hk2)
            have p41 := hAm.rw p4 row (.slice (some ⟨b2, o2, none⟩) N k2)
            clear p0 p4 p5 r0 r4 r5 hAm hbl
            generalize wr.setCell ⟨g, row, none⟩ (.slice (some ⟨b2, o2, none⟩) N k2) = w3 at *
            obtain ⟨b3, o3, k3, -, -, -, -, r0, -, -, -, r4, r5⟩ := hAm1.int hs1 hk2 hcn
            have hAm2 := hAm1.set2 (i := k) (by rw [hs1.1]; exact hk2) (hs.2 row hrR) p41
            have hbl2 := bl_set (i := k) (v := .slice (some ⟨b1, o1, none⟩) N k1) hbl1 hgb
            clear hAm1 hbl1 p41
            go_upto_region 13 with fail
            clear r0 r4 r5 hs1
            generalize w3.setCell ⟨g, k, none⟩ (.slice (some ⟨b1, o1, none⟩) N k1) = w4 at *
            change Am2 w4 w.heap.size _ (swapM m row k) at hAm2
            generalize swapM m row k = ms at *
            clear hs hsm hL
            go_wp2_with fail
            go_loopw [8, 9] (fun s8 s9 wq => ∃ (i : Nat) (m : List (List Int)) (cl : Bool), s8 = .bool cl ∧ s9 = .int .i64 i ∧ row < i ∧ i ≤ R ∧ PS row col gk i m ∧ (cl = true → ∀ j, row < j → j < i → en m j col = 0) ∧ (cl = false → ∃ j, row < j ∧ j < i ∧ en m j col ≠ 0) ∧ Am2 wq w.heap.size (.slice (some ⟨g, 0, none⟩) R cap) m ∧ Below w.heap.size w wq)
              (fun _ s9 _ => R - (intOf s9).toNat)
            case atStart => exact ⟨row + 1, ms, true, rfl, by go_num, by omega, by omega, HS.out, fun _ j h1 h2 => by omega, fun h => (by cases h), hAm2, hbl2⟩
            case round =>
              clear hAm2 hbl2 HS
              (try clear ms)
              obtain ⟨i, m, cl, rfl, rfl, hri, hiR, hS, hc1, hc2, hAm, hbl⟩ := hrel
              obtain ⟨hs, hsm, hp0⟩ := pl.sS hS
              obtain ⟨b1, o1, k1, s1, c1, n1, q1, p0, p1, p2, p3, p4, p5⟩ := hAm.int hs hrR hcn
              by_cases hlt : i < R
              · have i3 : (i : Int) < (R : Int) := by omega
                have i30 : (0 : Int) ≤ (i : Int) := by omega
                obtain ⟨b2, o2, k2, s2, c2, n2, q2, r0, r1, r2, r3, r4, r5⟩ := hAm.int hs hlt hcn
                have hst := pl.step hS hri hlt
                have hC : (cl = true → ∀ j, row < j → j < i → en (m.set i (plusR (m.getD i []) (-(en m i col / en m row col)) (m.getD row []))) j col = 0) ∧ (cl = false → ∃ j, row < j ∧ j < i ∧ en (m.set i (plusR (m.getD i []) (-(en m i col / en m row col)) (m.getD row []))) j col ≠ 0) := by
                  refine ⟨fun h j h1 h2 => ?_, fun h => ?_⟩
                  · rw [en_set (by rw [hs.1]; exact hlt), if_neg (by omega)]; exact hc1 h j h1 h2
                  · obtain ⟨j, h1, h2, h3⟩ := hc2 h
                    exact ⟨j, h1, h2, by rw [en_set (by rw [hs.1]; exact hlt), if_neg (by omega)]; exact h3⟩
                have HC := Lib.hid hC
                have HST := Lib.hid hst
                clear hc1 hc2 hC hst hS
                have hlen : (m.getD i []).length ≤ (m.getD row []).length := by rw [hs.2 row hrR, hs.2 i hlt]; exact Nat.le_refl _
                have hlN : (m.getD i []).length ≤ 1099511627776 := by rw [hs.2 i hlt]; omega
                have hpl : (plusR (m.getD i []) (-(en m i col / en m row col)) (m.getD row [])).length = N := by unfold plusR; rw [List.length_map, List.length_range]; exact hs.2 i hlt
                have hsx := hsm i col
                have hsy := hsm row col
                change sz (en m i col) ≤ _ at hsx
                change sz (en m row col) ≤ _ at hsy
                have hsq : sz (en m i col / en m row col) ≤ 137438953472 := Nat.le_trans (sz_mono (Int.natAbs_ediv_le_natAbs _ _)) hsx
                go_upto_region 17 with fail
                go_cut [10] (fun s10 wd => ∃ B : Nat, s10 = .pointer (some ⟨B, 0, none⟩) ∧ wr.heap.size ≤ B ∧ Below wr.heap.size wr wd ∧ Vx wd B (en m i col / en m row col))
                case first =>
                  have HBL := Lib.hid hbl
                  have HDR := Lib.hid fun W (hW : Below wr.heap.size wr W) => rdiv_any _ _ (en m i col) (en m row col) W (r3.up hW) (p3.up hW) hp0 (Nat.le_trans hsx (by decide)) (Nat.le_trans hsy (by decide))
                  clear hbl HC HST hAm r4 p4 r5 p5 hlen hlN hpl hsx hsy hsm hs
                  generalize en m i col = x at *
                  generalize en m row col = y at *
                  refine wp_region_T (by kernel_rfl) [16] (S := fun w' => w'.cell? ⟨g, i, none⟩ = some (.slice (some ⟨b2, o2, none⟩) N k2) ∧ w'.cell? ⟨g, row, none⟩ = some (.slice (some ⟨b1, o1, none⟩) N k1) ∧ w'.cell? ⟨b1, o1 + col * 2, none⟩ = some (.bool s1) ∧ w'.cell? ⟨b1, o1 + col * 2 + 1, none⟩ = some (.slice c1 n1 q1) ∧ w'.cell? ⟨b2, o2 + col * 2, none⟩ = some (.bool s2) ∧ w'.cell? ⟨b2, o2 + col * 2 + 1, none⟩ = some (.slice c2 n2 q2)) ⟨r0, p0, p1, p2, r1, r2⟩ (fun hHeld => ?_)
                  (refine tP 0 rfl ?_; (try simp only [lay, List.getElem_toArray, List.getElem_cons_succ, List.getElem_cons_zero]))
                  (refine tP 1 rfl ?_; (try simp only [lay, List.getElem_toArray, List.getElem_cons_succ, List.getElem_cons_zero]))
                  (refine tP 2 rfl ?_; (try simp only [lay, List.getElem_toArray, List.getElem_cons_succ, List.getElem_cons_zero]))
                  (refine tK 3 rfl ?_; (try simp only [lay, List.getElem_toArray, List.getElem_cons_succ, List.getElem_cons_zero]))
                  (refine tP 4 rfl ?_; (try simp only [lay, List.getElem_toArray, List.getElem_cons_succ, List.getElem_cons_zero]))
                  (refine tP 5 rfl ?_; (try simp only [lay, List.getElem_toArray, List.getElem_cons_succ, List.getElem_cons_zero]))
                  (refine tK 6 rfl ?_; (try simp only [lay, List.getElem_toArray, List.getElem_cons_succ, List.getElem_cons_zero]))
                  (refine tP 7 rfl ?_; (try simp only [lay, List.getElem_toArray, List.getElem_cons_succ, List.getElem_cons_zero]))
                  (refine tP 8 rfl ?_; (try simp only [lay, List.getElem_toArray, List.getElem_cons_succ, List.getElem_cons_zero]))
                  (refine tP 9 rfl ?_; (try simp only [lay, List.getElem_toArray, List.getElem_cons_succ, List.getElem_cons_zero]))
                  (refine tK 10 rfl ?_; (try simp only [lay, List.getElem_toArray, List.getElem_cons_succ, List.getElem_cons_zero]))
                  (refine tP 11 rfl ?_; (try simp only [lay, List.getElem_toArray, List.getElem_cons_succ, List.getElem_cons_zero]))
                  (refine tP 12 rfl ?_; (try simp only [lay, List.getElem_toArray, List.getElem_cons_succ, List.getElem_cons_zero]))
                  (refine tK 13 rfl ?_; (try simp only [lay, List.getElem_toArray, List.getElem_cons_succ, List.getElem_cons_zero]))
                  refine wpAnyT_two (i := 14) (j := 15) (by as_aux_lemma => kernel_rfl) rfl rfl (fun K hK => ?_) (fun K hK => ?_)
                  · (try simp only [lay, List.getElem_toArray, List.getElem_cons_succ, List.getElem_cons_zero])
                    go_simp
                    refine (HDR.out _ (Bl.drew (Below.refl _ _))).mono ?_
                    rintro e w2 ⟨rq, rfl, hv2, hb2⟩
                    obtain ⟨s6, a6, n6, c6, rfl⟩ := hv2.shape
                    replace r0 := keepc hb2 (cellD r0)
                    replace p0 := keepc hb2 (cellD p0)
                    replace p1 := keepc hb2 (cellD p1)
                    replace p2 := keepc hb2 (cellD p2)
                    replace r1 := keepc hb2 (cellD r1)
                    replace r2 := keepc hb2 (cellD r2)
                    clear hHeld
                    go_wp2_with fail
                    refine hK.out _ _ (fun _ => ⟨r0, p0, p1, p2, r1, r2⟩) ?_
                    clear hK
                    (try simp only [lay, List.getElem_toArray, List.getElem_cons_succ, List.getElem_cons_zero])
                    have hHeld : w2.cell? ⟨g, i, none⟩ = some (.slice (some ⟨b2, o2, none⟩) N k2) ∧ w2.cell? ⟨g, row, none⟩ = some (.slice (some ⟨b1, o1, none⟩) N k1) ∧ w2.cell? ⟨b1, o1 + col * 2, none⟩ = some (.bool s1) ∧ w2.cell? ⟨b1, o1 + col * 2 + 1, none⟩ = some (.slice c1 n1 q1) ∧ w2.cell? ⟨b2, o2 + col * 2, none⟩ = some (.bool s2) ∧ w2.cell? ⟨b2, o2 + col * 2 + 1, none⟩ = some (.slice c2 n2 q2) := ⟨r0, p0, p1, p2, r1, r2⟩
                    (refine wpAnyT_one (i := 15) (by as_aux_lemma => kernel_rfl) rfl (fun K hK => ?_); (try simp only [lay, List.getElem_toArray, List.getElem_cons_succ, List.getElem_cons_zero]); go_simp)
                    have hb3 := below_new w2 (.cells #[.bool false, .slice none 0 0] 56)
                    replace r0 := keepc hb3 r0
                    replace p0 := keepc hb3 p0
                    replace p1 := keepc hb3 p1
                    replace p2 := keepc hb3 p2
                    replace r1 := keepc hb3 r1
                    replace r2 := keepc hb3 r2
                    go_wp2_with fail
                    refine hK.out _ _ (fun _ => ⟨r0, p0, p1, p2, r1, r2⟩) ?_
                    clear hK
                    (try simp only [lay, List.getElem_toArray, List.getElem_cons_succ, List.getElem_cons_zero])
                    have v5 : Vx (w2.alloc (.cells #[.bool false, .slice none 0 0] 56)) w2.heap.size 0 := Vx.new0 rfl
                    have hv0 := hv2
                    replace hv2 := hv2.alloc (.cells #[.bool false, .slice none 0 0] 56)
                    obtain ⟨s5, a5, n5, c5, u0, u1, u2, u3, -⟩ := v5.cells
                    (refine wpAnyT_one (i := 16) (by as_aux_lemma => kernel_rfl) rfl (fun K hK => ?_); (try simp only [lay, List.getElem_toArray, List.getElem_cons_succ, List.getElem_cons_zero]); go_simp)
                    go_wp2_with fail
                    refine hK.out _ _ (fun h => absurd h (by decide)) ?_
                    clear hK
                    (try simp only [lay, List.getElem_toArray, List.getElem_cons_succ, List.getElem_cons_zero])
                    refine wpAnyT_done (by kernel_rfl) ?_ _
                    have hz := hb2.size
                    have hlo : wr.heap.size ≤ w2.heap.size := hz
                    have bl9 := Bl.alloc (Bl.up (Bl.drew (Below.refl wr.heap.size wr)) hb2) (.cells #[.bool s6, .slice a6 n6 c6] 56)
                    have v9 : Vx (w2.alloc (.cells #[.bool s6, .slice a6 n6 c6] 56)) w2.heap.size _ := Vx.new rfl hv0
                    clear u0 u1 u2 u3 hv2 hb2 hb3 r0 p0 p1 p2 r1 r2 v5 hHeld
                    go_wp2_with fail
                    go_meet
                    case rel => exact ⟨_, rfl, hlo, bl9, v9⟩
                  · (try simp only [lay, List.getElem_toArray, List.getElem_cons_succ, List.getElem_cons_zero])
                    go_simp
                    have hb3 := below_new wr.drew (.cells #[.bool false, .slice none 0 0] 56)
                    have v5 : Vx (wr.drew.alloc (.cells #[.bool false, .slice none 0 0] 56)) wr.heap.size 0 := Vx.new0 rfl
                    replace r0 := keepc hb3 (cellD r0)
                    replace p0 := keepc hb3 (cellD p0)
                    replace p1 := keepc hb3 (cellD p1)
                    replace p2 := keepc hb3 (cellD p2)
                    replace r1 := keepc hb3 (cellD r1)
                    replace r2 := keepc hb3 (cellD r2)
                    clear hHeld
                    go_wp2_with fail
                    refine hK.out _ _ (fun _ => ⟨r0, p0, p1, p2, r1, r2⟩) ?_
                    clear hK
                    (try simp only [lay, List.getElem_toArray, List.getElem_cons_succ, List.getElem_cons_zero])
                    have hHeld : (wr.drew.alloc (.cells #[.bool false, .slice none 0 0] 56)).cell? ⟨g, i, none⟩ = some (.slice (some ⟨b2, o2, none⟩) N k2) ∧ (wr.drew.alloc (.cells #[.bool false, .slice none 0 0] 56)).cell? ⟨g, row, none⟩ = some (.slice (some ⟨b1, o1, none⟩) N k1) ∧ (wr.drew.alloc (.cells #[.bool false, .slice none 0 0] 56)).cell? ⟨b1, o1 + col * 2, none⟩ = some (.bool s1) ∧ (wr.drew.alloc (.cells #[.bool false, .slice none 0 0] 56)).cell? ⟨b1, o1 + col * 2 + 1, none⟩ = some (.slice c1 n1 q1) ∧ (wr.drew.alloc (.cells #[.bool false, .slice none 0 0] 56)).cell? ⟨b2, o2 + col * 2, none⟩ = some (.bool s2) ∧ (wr.drew.alloc (.cells #[.bool false, .slice none 0 0] 56)).cell? ⟨b2, o2 + col * 2 + 1, none⟩ = some (.slice c2 n2 q2) := ⟨r0, p0, p1, p2, r1, r2⟩
                    have hlt5 := v5.lt
                    (refine wpAnyT_one (i := 14) (by as_aux_lemma => kernel_rfl) rfl (fun K hK => ?_); (try simp only [lay, List.getElem_toArray, List.getElem_cons_succ, List.getElem_cons_zero]); go_simp)
                    refine (HDR.out _ (Bl.alloc (Bl.drew (Below.refl _ _)) _)).mono ?_
                    rintro e w2 ⟨rq, rfl, hv2, hb2⟩
                    obtain ⟨s6, a6, n6, c6, rfl⟩ := hv2.shape
                    replace r0 := keepc hb2 r0
                    replace p0 := keepc hb2 p0
                    replace p1 := keepc hb2 p1
                    replace p2 := keepc hb2 p2
                    replace r1 := keepc hb2 r1
                    replace r2 := keepc hb2 r2
                    replace v5 := v5.up hb2
                    go_wp2_with fail
                    refine hK.out _ _ (fun _ => ⟨r0, p0, p1, p2, r1, r2⟩) ?_
                    clear hK
                    (try simp only [lay, List.getElem_toArray, List.getElem_cons_succ, List.getElem_cons_zero])
                    obtain ⟨s5, a5, n5, c5, u0, u1, u2, u3, -⟩ := v5.cells
                    clear hHeld
                    (refine wpAnyT_one (i := 16) (by as_aux_lemma => kernel_rfl) rfl (fun K hK => ?_); (try simp only [lay, List.getElem_toArray, List.getElem_cons_succ, List.getElem_cons_zero]); go_simp)
                    go_wp2_with fail
                    refine hK.out _ _ (fun h => absurd h (by decide)) ?_
                    clear hK
                    (try simp only [lay, List.getElem_toArray, List.getElem_cons_succ, List.getElem_cons_zero])
                    refine wpAnyT_done (by kernel_rfl) ?_ _
                    have bl9 := Bl.st (B' := wr.heap.size) (s := s6) (a := a6) (n := n6) (c := c6) (Bl.up (Bl.alloc (Bl.drew (Below.refl wr.heap.size wr)) (.cells #[.bool false, .slice none 0 0] 56)) hb2) (Nat.le_refl _)
                    have v9 := Vx.put v5.va hv2
                    clear u0 u1 u2 u3 hv2 hb2 hb3 r0 p0 p1 p2 r1 r2 v5
                    go_wp2_with fail
                    go_meet
                    case rel => exact ⟨_, rfl, Nat.le_refl _, bl9, v9⟩
                case rest =>
                  obtain ⟨B, rfl, hlB, hbc, vq⟩ := hcut
                  replace hAm := hAm.up hbc
                  replace hbl := Bl.up hbl hbc
                  replace p0 := keepc hbc p0
                  replace r0 := keepc hbc r0
                  replace p4 := p4.up hbc
                  replace r4 := r4.up hbc
                  clear hbc p1 p2 p3 r1 r2 r3 p5 r5
                  obtain ⟨s5, a5, n5, c5, u0, u1, u2, u3, iu⟩ := vq.cells
                  clear u2 u3
                  go_upto_region 18 with fail
                  refine wp_region_T (by kernel_rfl) [14] (S := fun w' => w'.cell? ⟨g, i, none⟩ = some (.slice (some ⟨b2, o2, none⟩) N k2) ∧ w'.cell? ⟨g, row, none⟩ = some (.slice (some ⟨b1, o1, none⟩) N k1) ∧ w'.cell? ⟨B, 0, none⟩ = some (.bool s5) ∧ w'.cell? ⟨B, 1, none⟩ = some (.slice a5 n5 c5)) ⟨r0, p0, u0, u1⟩ (fun hHeld => ?_)
                  (refine tP 0 rfl ?_; (try simp only [lay, List.getElem_toArray, List.getElem_cons_succ, List.getElem_cons_zero]))
                  (refine tP 1 rfl ?_; (try simp only [lay, List.getElem_toArray, List.getElem_cons_succ, List.getElem_cons_zero]))
                  (refine tP 2 rfl ?_; (try simp only [lay, List.getElem_toArray, List.getElem_cons_succ, List.getElem_cons_zero]))
                  (refine tP 3 rfl ?_; (try simp only [lay, List.getElem_toArray, List.getElem_cons_succ, List.getElem_cons_zero]))
                  (refine tP 4 rfl ?_; (try simp only [lay, List.getElem_toArray, List.getElem_cons_succ, List.getElem_cons_zero]))
                  (refine tK 5 rfl ?_; (try simp only [lay, List.getElem_toArray, List.getElem_cons_succ, List.getElem_cons_zero]))
                  (refine tK 6 rfl ?_; (try simp only [lay, List.getElem_toArray, List.getElem_cons_succ, List.getElem_cons_zero]))
                  (refine tP 8 rfl ?_; (try simp only [lay, List.getElem_toArray, List.getElem_cons_succ, List.getElem_cons_zero]))
                  (refine tP 9 rfl ?_; (try simp only [lay, List.getElem_toArray, List.getElem_cons_succ, List.getElem_cons_zero]))
                  (refine tP 10 rfl ?_; (try simp only [lay, List.getElem_toArray, List.getElem_cons_succ, List.getElem_cons_zero]))
                  (refine tK 11 rfl ?_; (try simp only [lay, List.getElem_toArray, List.getElem_cons_succ, List.getElem_cons_zero]))
                  (refine wpAnyT_one (i := 7) (by as_aux_lemma => kernel_rfl) rfl (fun K hK => ?_); (try simp only [lay, List.getElem_toArray, List.getElem_cons_succ, List.getElem_cons_zero]); go_simp)
                  refine (rneg_any _ (en m i col / en m row col) _ iu.drew (Nat.le_trans hsq (by decide))).mono ?_
                  rintro e w3 ⟨r3, rfl, hv3, hb3⟩
                  obtain ⟨s6, a6, n6, c6, rfl⟩ := hv3.shape
                  replace r0 := keepc hb3 (cellD r0)
                  replace p0 := keepc hb3 (cellD p0)
                  replace u0 := keepc hb3 (cellD u0)
                  replace u1 := keepc hb3 (cellD u1)
                  replace hAm := hAm.drew.up hb3
                  replace p4 := p4.drew.up hb3
                  replace r4 := r4.drew.up hb3
                  replace hbl := Bl.up (Bl.drew hbl) hb3
                  go_wp2_with fail
                  refine hK.out _ _ (fun _ => ⟨r0, p0, u0, u1⟩) ?_
                  have hHeld3 : w3.cell? ⟨g, i, none⟩ = some (.slice (some ⟨b2, o2, none⟩) N k2) ∧ w3.cell? ⟨g, row, none⟩ = some (.slice (some ⟨b1, o1, none⟩) N k1) ∧ w3.cell? ⟨B, 0, none⟩ = some (.bool s5) ∧ w3.cell? ⟨B, 1, none⟩ = some (.slice a5 n5 c5) := ⟨r0, p0, u0, u1⟩
                  clear hK; (try clear hHeld)
                  (try simp only [lay, List.getElem_toArray, List.getElem_cons_succ, List.getElem_cons_zero])
                  (refine wpAnyT_one (i := 12) (by as_aux_lemma => kernel_rfl) rfl (fun K hK => ?_); (try simp only [lay, List.getElem_toArray, List.getElem_cons_succ, List.getElem_cons_zero]); go_simp)
                  refine (plusR_any _ _ _ (-(en m i col / en m row col)) (m.getD i []) (m.getD row []) _ r4 hv3 p4 hlen hlN (by rw [sz_neg]; exact Nat.le_trans hsq (by decide)) (fun k => Nat.le_trans (hsm i k) (by decide)) (fun k => Nat.le_trans (hsm row k) (by decide))).mono ?_
                  rintro e w4 ⟨r4, rfl, hv4, hb4⟩
                  obtain ⟨a7, n7, c7, rfl⟩ := hv4.shape
                  replace r0 := keepc hb4 r0
                  replace p0 := keepc hb4 p0
                  replace u0 := keepc hb4 u0
                  replace u1 := keepc hb4 u1
                  replace hAm := hAm.up hb4
                  replace hbl := Bl.up hbl hb4
                  go_wp2_with fail
                  refine hK.out _ _ (fun _ => ⟨r0, p0, u0, u1⟩) ?_
                  have hHeld4 : w4.cell? ⟨g, i, none⟩ = some (.slice (some ⟨b2, o2, none⟩) N k2) ∧ w4.cell? ⟨g, row, none⟩ = some (.slice (some ⟨b1, o1, none⟩) N k1) ∧ w4.cell? ⟨B, 0, none⟩ = some (.bool s5) ∧ w4.cell? ⟨B, 1, none⟩ = some (.slice a5 n5 c5) := ⟨r0, p0, u0, u1⟩
                  clear hK; (try clear hHeld3)
                  (try simp only [lay, List.getElem_toArray, List.getElem_cons_succ, List.getElem_cons_zero])
                  (refine tP 13 rfl ?_; (try simp only [lay, List.getElem_toArray, List.getElem_cons_succ, List.getElem_cons_zero]))
                  have fr := (hAm.slot (i := i) (by rw [hs.1]; exact hlt)).2.2
                  (refine wpAnyT_one (i := 14) (by as_aux_lemma => kernel_rfl) rfl (fun K hK => ?_); (try simp only [lay, List.getElem_toArray, List.getElem_cons_succ, List.getElem_cons_zero]); go_simp)
                  go_wp2_with fail
                  refine hK.out _ _ (fun h => absurd h (by decide)) ?_
                  clear hK hHeld4
                  (try simp only [lay, List.getElem_toArray, List.getElem_cons_succ, List.getElem_cons_zero])
                  refine wpAnyT_done (by kernel_rfl) ?_ _
                  obtain rfl : n7 = N := by rw [← hpl]; exact (Rw.len hv4).symm
                  have hAm5 := hAm.set2 (i := i) (by rw [hs.1]; exact hlt) hpl hv4
                  have hbl5 := bl_set (i := i) (v := .slice a7 n7 c7) hbl hgb
                  clear hAm hbl hv3 hv4 hb3 hb4 fr p0 p4 r0 r4 u0 u1 iu vq hlB
                  generalize w4.setCell ⟨g, i, none⟩ (.slice a7 n7 c7) = w5 at *
                  have hs5 := (pl.sS HST.out).1
                  generalize m.set i (plusR (m.getD i []) (-(en m i col / en m row col)) (m.getD row [])) = m5 at *
                  clear hs hsm hsx hsy hsq hpl hlen hlN hp0
                  obtain ⟨b3, o3, k3, s3, c3, n3, q3, r0, r1, r2, r3, r4, r5⟩ := hAm5.int hs5 hlt hcn
                  cases cl
                  · have hcc := HC.out.2 rfl
                    have HCC := Lib.hid hcc
                    clear hcc
                    go_wp2_with fail
                    go_roundw
                    case rel =>
                      obtain ⟨j, h1, h2, h3⟩ := HCC.out
                      exact ⟨i + 1, m5, false, rfl, by go_num, by omega, by omega, HST.out, fun h => (by cases h), fun _ => ⟨j, h1, by omega, h3⟩, hAm5, hbl5⟩
                    case measure => simp [intOf]; omega
                  · have hcc := HC.out.1 rfl
                    have HCC := Lib.hid hcc
                    clear hcc
                    by_cases hx0 : en m5 i col = 0
                    case' pos => have hz : (cmpI (en m5 i col) 0 == 0) = true := by rw [hx0]; rfl
                    case' neg => have hz : (cmpI (en m5 i col) 0 == 0) = false := by rw [beq_eq_false_iff_ne]; exact fun h => hx0 (cmpI_zero.1 h)
                    all_goals
                      have HX := Lib.hid hx0
                      clear hx0
                      generalize hxe : en m5 i col = x at *
                      have HXE := Lib.hid hxe
                      clear hxe
                      go_wp2_with fail
                      refine (rsign_any _ x _ r3).mono ?_
                      rintro e w6 ⟨rfl, hb6⟩
                      replace hAm5 := hAm5.up hb6
                      replace hbl5 := Bl.up hbl5 hb6
                      clear hb6 r0 r1 r2 r3 r4 r5
                      go_wp2_with fail
                      go_roundw
                      case measure => simp [intOf]; omega
                      case rel =>
                        first
                          | exact ⟨i + 1, m5, true, rfl, by go_num, by omega, by omega, HST.out, fun _ j h1 h2 => (by
                              rcases Nat.lt_or_ge j i with c | c
                              · exact HCC.out j h1 c
                              · obtain rfl : j = i := by omega
                                exact HXE.out.trans HX.out), fun h => (by cases h), hAm5, hbl5⟩
                          | exact ⟨i + 1, m5, false, rfl, by go_num, by omega, by omega, HST.out, fun h => (by cases h), fun _ => ⟨i, hri, Nat.lt_succ_self _, fun h => HX.out (HXE.out.symm.trans h)⟩, hAm5, hbl5⟩
              · have hiR' : i = R := by omega
                have i3 : ¬ (i : Int) < (R : Int) := by omega
                cases cl
                · obtain ⟨j, h1, h2, h3⟩ := hc2 rfl
                  rw [hiR'] at hS h2
                  obtain ⟨t', ht', hL'⟩ := pl.again hS ⟨j, h1, h2, h3⟩
                  clear hc1 hc2 h1 h2 h3 p0 p1 p2 p3 p4 p5 hS
                  have hMx := hAm.1.mx (Below.refl _ _)
                  go_wp2_with fail
                  refine (rleast_any _ m R N row col _ hMx hs hcn hrow hN hR (fun i k => Nat.le_trans (hsm i k) (by decide))).mono ?_
                  rintro e w7 ⟨b, rfl, hLe, hb7⟩
                  replace hAm := hAm.up hb7
                  replace hbl := Bl.up hbl hb7
                  clear hb7 hMx hsm
                  go_wp2_with fail
                  go_roundg t'
                  case measure => exact ht'
                  case rel => exact ⟨b, m, rfl, hLe, hL', hAm, hbl⟩
                · have hz := hc1 rfl
                  rw [hiR'] at hS hz
                  have hS' := Lib.hid hS
                  have HZ := Lib.hid hz
                  clear hc1 hc2 hS hz hiR'
                  have hsy := hsm row col
                  change sz (en m row col) ≤ _ at hsy
                  have HEN : ∃ x, x = en m row col := ⟨_, rfl⟩
                  obtain ⟨x, hx⟩ := HEN
                  have HX := Lib.hid hx
                  rw [← hx] at p3
                  clear hx
                  go_upto_if 117 with fail
                  refine (rsign_any _ x _ p3).mono ?_
                  rintro e w8 ⟨rfl, hb8⟩
                  replace hAm := hAm.up hb8
                  replace hbl := Bl.up hbl hb8
                  replace p0 := keepc hb8 p0
                  replace p4 := p4.up hb8
                  clear hb8 p1 p2 p3 p5
                  go_upto_if 117 with fail
                  go_cut [] (fun wd => ∃ m' : List (List Int), P3 row col 0 m' ∧ Am2 wd w.heap.size (.slice (some ⟨g, 0, none⟩) R cap) m' ∧ Below w.heap.size w wd)
                  case first =>
                    by_cases hneg : x < 0
                    · have hd : cmpI x 0 < 0 := by have h := cmpI_neg x 0; rw [decide_eq_true hneg] at h; exact of_decide_eq_true h
                      have hng := pl.neg hS'.out HZ.out (by rw [← HX.out]; exact hneg)
                      have HNG := Lib.hid hng
                      clear hneg hng HX
                      have hlN : (m.getD row []).length ≤ 1099511627776 := by rw [hs.2 row hrR]; omega
                      have hpl : (timesR (-1) (m.getD row [])).length = N := by unfold timesR; rw [List.length_map, List.length_range]; exact hs.2 row hrR
                      go_upto_region 24 with fail
                      refine wp_region_T (by kernel_rfl) [9] (S := fun w' => w'.cell? ⟨g, row, none⟩ = some (.slice (some ⟨b1, o1, none⟩) N k1)) p0 (fun hHeld => ?_)
                      (refine tP 0 rfl ?_; (try simp only [lay, List.getElem_toArray, List.getElem_cons_succ, List.getElem_cons_zero]))
                      (refine tP 1 rfl ?_; (try simp only [lay, List.getElem_toArray, List.getElem_cons_succ, List.getElem_cons_zero]))
                      (refine tP 3 rfl ?_; (try simp only [lay, List.getElem_toArray, List.getElem_cons_succ, List.getElem_cons_zero]))
                      (refine tP 4 rfl ?_; (try simp only [lay, List.getElem_toArray, List.getElem_cons_succ, List.getElem_cons_zero]))
                      (refine tP 5 rfl ?_; (try simp only [lay, List.getElem_toArray, List.getElem_cons_succ, List.getElem_cons_zero]))
                      (refine tK 6 rfl ?_; (try simp only [lay, List.getElem_toArray, List.getElem_cons_succ, List.getElem_cons_zero]))
                      (refine wpAnyT_one (i := 2) (by as_aux_lemma => kernel_rfl) rfl (fun K hK => ?_); (try simp only [lay, List.getElem_toArray, List.getElem_cons_succ, List.getElem_cons_zero]); go_simp)
                      refine (rof_any (-1) _ (by decide) (by decide)).mono ?_
                      rintro e w3 ⟨r3, rfl, hv3, hb3⟩
                      obtain ⟨s6, a6, n6, c6, rfl⟩ := hv3.shape
                      replace p0 := keepc hb3 (cellD p0)
                      replace hAm := hAm.drew.up hb3
                      replace p4 := p4.drew.up hb3
                      replace hbl := Bl.up (Bl.drew hbl) hb3
                      go_wp2_with fail
                      refine hK.out _ _ (fun _ => p0) ?_
                      have hHeld3 : w3.cell? ⟨g, row, none⟩ = some (.slice (some ⟨b1, o1, none⟩) N k1) := p0
                      clear hK; (try clear hHeld)
                      (try simp only [lay, List.getElem_toArray, List.getElem_cons_succ, List.getElem_cons_zero])
                      (refine wpAnyT_one (i := 7) (by as_aux_lemma => kernel_rfl) rfl (fun K hK => ?_); (try simp only [lay, List.getElem_toArray, List.getElem_cons_succ, List.getElem_cons_zero]); go_simp)
                      refine (times_any _ _ (-1) (m.getD row []) _ hv3 p4 hlN (by decide) (fun k => Nat.le_trans (hsm row k) (by decide))).mono ?_
                      rintro e w4 ⟨r4, rfl, hv4, hb4⟩
                      obtain ⟨a7, n7, c7, rfl⟩ := hv4.shape
                      replace p0 := keepc hb4 p0
                      replace hAm := hAm.up hb4
                      replace hbl := Bl.up hbl hb4
                      go_wp2_with fail
                      refine hK.out _ _ (fun _ => p0) ?_
                      have hHeld4 : w4.cell? ⟨g, row, none⟩ = some (.slice (some ⟨b1, o1, none⟩) N k1) := p0
                      clear hK; (try clear hHeld3)
                      (try simp only [lay, List.getElem_toArray, List.getElem_cons_succ, List.getElem_cons_zero])
                      (refine tP 8 rfl ?_; (try simp only [lay, List.getElem_toArray, List.getElem_cons_succ, List.getElem_cons_zero]))
                      have fr := (hAm.slot (i := row) (by rw [hs.1]; exact hrR)).2.2
                      (refine wpAnyT_one (i := 9) (by as_aux_lemma => kernel_rfl) rfl (fun K hK => ?_); (try simp only [lay, List.getElem_toArray, List.getElem_cons_succ, List.getElem_cons_zero]); go_simp)
                      go_wp2_with fail
                      refine hK.out _ _ (fun h => absurd h (by decide)) ?_
                      clear hK hHeld4
                      (try simp only [lay, List.getElem_toArray, List.getElem_cons_succ, List.getElem_cons_zero])
                      refine wpAnyT_done (by kernel_rfl) ?_ _
                      obtain rfl : n7 = N := by rw [← hpl]; exact (Rw.len hv4).symm
                      have hAm5 := hAm.set2 (i := row) (by rw [hs.1]; exact hrR) hpl hv4
                      have hbl5 := bl_set (i := row) (v := .slice a7 n7 c7) hbl hgb
                      clear hAm hbl hv3 hv4 hb3 hb4 fr p0 p4
                      generalize w4.setCell ⟨g, row, none⟩ (.slice a7 n7 c7) = w5 at *
                      go_wp2_with fail
                      go_meet
                      case rel => exact ⟨_, HNG.out, hAm5, hbl5⟩
                    · have hd : ¬ cmpI x 0 < 0 := by have h := cmpI_neg x 0; rw [decide_eq_false hneg] at h; exact of_decide_eq_false h
                      have hps := pl.pos hS'.out HZ.out (by have := (pl.sS hS'.out).2.2; rw [← HX.out] at this ⊢; omega)
                      clear hneg HX
                      go_wp2_with fail
                      go_meet
                      case rel => exact ⟨m, hps, hAm, hbl⟩
                  case rest =>
                    clear hAm hbl p0 p4 hS' HZ HX hs hsm hsy hp0
                    (try clear m)
                    obtain ⟨m, hQ, hAm, hbl⟩ := hcut
                    go_wp2_with fail
                    go_loopw [11] (fun s11 wq => ∃ (i : Nat) (m : List (List Int)), s11 = .int .i64 i ∧ i ≤ row ∧ P3 row col i m ∧ Am2 wq w.heap.size (.slice (some ⟨g, 0, none⟩) R cap) m ∧ Below w.heap.size w wq)
                      (fun s11 _ => row - (intOf s11).toNat)
                    case atStart => exact ⟨0, m, rfl, Nat.zero_le _, hQ, hAm, hbl⟩
                    case round =>
                      clear hAm hbl hQ
                      (try clear m)
                      obtain ⟨i, m, rfl, hir, hQ, hAm, hbl⟩ := hrel
                      by_cases hlt : i < row
                      · have i3 : (i : Int) < (row : Int) := by omega
                        have i30 : (0 : Int) ≤ (i : Int) := by omega
                        have i31 : (i : Int) < (R : Int) := by omega
                        have hiR : i < R := by omega
                        obtain ⟨hs, hsm, hp0⟩ := pl.s3 hQ
                        obtain ⟨b1, o1, k1, s1, c1, n1, q1, p0, p1, p2, p3, p4, p5⟩ := hAm.int hs hrR hcn
                        obtain ⟨b2, o2, k2, s2, c2, n2, q2, r0, r1, r2, r3, r4, r5⟩ := hAm.int hs hiR hcn
                        have hst := pl.red hQ hrR hlt
                        have HST := Lib.hid hst
                        clear hst hQ p5 r5
                        have hlen : (m.getD i []).length ≤ (m.getD row []).length := by rw [hs.2 row hrR, hs.2 i hiR]; exact Nat.le_refl _
                        have hlN : (m.getD i []).length ≤ 1099511627776 := by rw [hs.2 i hiR]; omega
                        have hpl : (plusR (m.getD i []) (-(en m i col / en m row col)) (m.getD row [])).length = N := by unfold plusR; rw [List.length_map, List.length_range]; exact hs.2 i hiR
                        have hsx := hsm i col
                        have hsy := hsm row col
                        change sz (en m i col) ≤ _ at hsx
                        change sz (en m row col) ≤ _ at hsy
                        have hsq : sz (en m i col / en m row col) ≤ 137438953472 := Nat.le_trans (sz_mono (Int.natAbs_ediv_le_natAbs _ _)) hsx
                        go_upto_region 28 with fail
                        refine wp_region_T (by kernel_rfl) [28] (S := fun w' => w'.cell? ⟨g, i, none⟩ = some (.slice (some ⟨b2, o2, none⟩) N k2) ∧ w'.cell? ⟨g, row, none⟩ = some (.slice (some ⟨b1, o1, none⟩) N k1) ∧ w'.cell? ⟨b1, o1 + col * 2, none⟩ = some (.bool s1) ∧ w'.cell? ⟨b1, o1 + col * 2 + 1, none⟩ = some (.slice c1 n1 q1) ∧ w'.cell? ⟨b2, o2 + col * 2, none⟩ = some (.bool s2) ∧ w'.cell? ⟨b2, o2 + col * 2 + 1, none⟩ = some (.slice c2 n2 q2)) ⟨r0, p0, p1, p2, r1, r2⟩ (fun hHeld => ?_)
                        (refine tP 0 rfl ?_; (try simp only [lay, List.getElem_toArray, List.getElem_cons_succ, List.getElem_cons_zero]))
                        (refine tP 1 rfl ?_; (try simp only [lay, List.getElem_toArray, List.getElem_cons_succ, List.getElem_cons_zero]))
                        (refine tP 2 rfl ?_; (try simp only [lay, List.getElem_toArray, List.getElem_cons_succ, List.getElem_cons_zero]))
                        (refine tP 3 rfl ?_; (try simp only [lay, List.getElem_toArray, List.getElem_cons_succ, List.getElem_cons_zero]))
                        (refine tP 4 rfl ?_; (try simp only [lay, List.getElem_toArray, List.getElem_cons_succ, List.getElem_cons_zero]))
                        (refine tK 5 rfl ?_; (try simp only [lay, List.getElem_toArray, List.getElem_cons_succ, List.getElem_cons_zero]))
                        (refine tP 6 rfl ?_; (try simp only [lay, List.getElem_toArray, List.getElem_cons_succ, List.getElem_cons_zero]))
                        (refine tP 7 rfl ?_; (try simp only [lay, List.getElem_toArray, List.getElem_cons_succ, List.getElem_cons_zero]))
                        (refine tP 8 rfl ?_; (try simp only [lay, List.getElem_toArray, List.getElem_cons_succ, List.getElem_cons_zero]))
                        (refine tK 9 rfl ?_; (try simp only [lay, List.getElem_toArray, List.getElem_cons_succ, List.getElem_cons_zero]))
                        (refine tP 10 rfl ?_; (try simp only [lay, List.getElem_toArray, List.getElem_cons_succ, List.getElem_cons_zero]))
                        (refine tP 11 rfl ?_; (try simp only [lay, List.getElem_toArray, List.getElem_cons_succ, List.getElem_cons_zero]))
                        (refine tK 12 rfl ?_; (try simp only [lay, List.getElem_toArray, List.getElem_cons_succ, List.getElem_cons_zero]))
                        (refine tP 13 rfl ?_; (try simp only [lay, List.getElem_toArray, List.getElem_cons_succ, List.getElem_cons_zero]))
                        (refine tP 14 rfl ?_; (try simp only [lay, List.getElem_toArray, List.getElem_cons_succ, List.getElem_cons_zero]))
                        (refine tP 15 rfl ?_; (try simp only [lay, List.getElem_toArray, List.getElem_cons_succ, List.getElem_cons_zero]))
                        (refine tK 16 rfl ?_; (try simp only [lay, List.getElem_toArray, List.getElem_cons_succ, List.getElem_cons_zero]))
                        (refine tP 17 rfl ?_; (try simp only [lay, List.getElem_toArray, List.getElem_cons_succ, List.getElem_cons_zero]))
                        (refine tP 18 rfl ?_; (try simp only [lay, List.getElem_toArray, List.getElem_cons_succ, List.getElem_cons_zero]))
                        (refine tK 19 rfl ?_; (try simp only [lay, List.getElem_toArray, List.getElem_cons_succ, List.getElem_cons_zero]))
                        (refine tP 22 rfl ?_; (try simp only [lay, List.getElem_toArray, List.getElem_cons_succ, List.getElem_cons_zero]))
                        (refine tP 23 rfl ?_; (try simp only [lay, List.getElem_toArray, List.getElem_cons_succ, List.getElem_cons_zero]))
                        (refine tP 24 rfl ?_; (try simp only [lay, List.getElem_toArray, List.getElem_cons_succ, List.getElem_cons_zero]))
                        (refine tK 25 rfl ?_; (try simp only [lay, List.getElem_toArray, List.getElem_cons_succ, List.getElem_cons_zero]))
                        (refine wpAnyT_one (i := 20) (by as_aux_lemma => kernel_rfl) rfl (fun K hK => ?_); (try simp only [lay, List.getElem_toArray, List.getElem_cons_succ, List.getElem_cons_zero]); go_simp)
                        refine (rdiv_any _ _ (en m i col) (en m row col) _ r3.drew p3.drew hp0 (Nat.le_trans hsx (by decide)) (Nat.le_trans hsy (by decide))).mono ?_
                        rintro e w2 ⟨r2, rfl, hv2, hb2⟩
                        obtain ⟨s5, a5, n5, c5, rfl⟩ := hv2.shape
                        replace r0 := keepc hb2 (cellD r0)
                        replace p0 := keepc hb2 (cellD p0)
                        replace p1 := keepc hb2 (cellD p1)
                        replace p2 := keepc hb2 (cellD p2)
                        replace r1 := keepc hb2 (cellD r1)
                        replace r2 := keepc hb2 (cellD r2)
                        replace hAm := hAm.drew.up hb2
                        replace p4 := p4.drew.up hb2
                        replace r4 := r4.drew.up hb2
                        replace hbl := Bl.up (Bl.drew hbl) hb2
                        go_wp2_with fail
                        refine hK.out _ _ (fun _ => ⟨r0, p0, p1, p2, r1, r2⟩) ?_
                        have hHeld2 : w2.cell? ⟨g, i, none⟩ = some (.slice (some ⟨b2, o2, none⟩) N k2) ∧ w2.cell? ⟨g, row, none⟩ = some (.slice (some ⟨b1, o1, none⟩) N k1) ∧ w2.cell? ⟨b1, o1 + col * 2, none⟩ = some (.bool s1) ∧ w2.cell? ⟨b1, o1 + col * 2 + 1, none⟩ = some (.slice c1 n1 q1) ∧ w2.cell? ⟨b2, o2 + col * 2, none⟩ = some (.bool s2) ∧ w2.cell? ⟨b2, o2 + col * 2 + 1, none⟩ = some (.slice c2 n2 q2) := ⟨r0, p0, p1, p2, r1, r2⟩
                        clear hK; (try clear hHeld)
                        (try simp only [lay, List.getElem_toArray, List.getElem_cons_succ, List.getElem_cons_zero])
                        (refine wpAnyT_one (i := 21) (by as_aux_lemma => kernel_rfl) rfl (fun K hK => ?_); (try simp only [lay, List.getElem_toArray, List.getElem_cons_succ, List.getElem_cons_zero]); go_simp)
                        refine (rneg_any _ (en m i col / en m row col) _ hv2 (Nat.le_trans hsq (by decide))).mono ?_
                        rintro e w3 ⟨r3, rfl, hv3, hb3⟩
                        obtain ⟨s6, a6, n6, c6, rfl⟩ := hv3.shape
                        replace r0 := keepc hb3 r0
                        replace p0 := keepc hb3 p0
                        replace p1 := keepc hb3 p1
                        replace p2 := keepc hb3 p2
                        replace r1 := keepc hb3 r1
                        replace r2 := keepc hb3 r2
                        replace hAm := hAm.up hb3
                        replace p4 := p4.up hb3
                        replace r4 := r4.up hb3
                        replace hbl := Bl.up hbl hb3
                        go_wp2_with fail
                        refine hK.out _ _ (fun _ => ⟨r0, p0, p1, p2, r1, r2⟩) ?_
                        have hHeld3 : w3.cell? ⟨g, i, none⟩ = some (.slice (some ⟨b2, o2, none⟩) N k2) ∧ w3.cell? ⟨g, row, none⟩ = some (.slice (some ⟨b1, o1, none⟩) N k1) ∧ w3.cell? ⟨b1, o1 + col * 2, none⟩ = some (.bool s1) ∧ w3.cell? ⟨b1, o1 + col * 2 + 1, none⟩ = some (.slice c1 n1 q1) ∧ w3.cell? ⟨b2, o2 + col * 2, none⟩ = some (.bool s2) ∧ w3.cell? ⟨b2, o2 + col * 2 + 1, none⟩ = some (.slice c2 n2 q2) := ⟨r0, p0, p1, p2, r1, r2⟩
                        clear hK; (try clear hHeld2)
                        (try simp only [lay, List.getElem_toArray, List.getElem_cons_succ, List.getElem_cons_zero])
                        (refine wpAnyT_one (i := 26) (by as_aux_lemma => kernel_rfl) rfl (fun K hK => ?_); (try simp only [lay, List.getElem_toArray, List.getElem_cons_succ, List.getElem_cons_zero]); go_simp)
                        refine (plusR_any _ _ _ (-(en m i col / en m row col)) (m.getD i []) (m.getD row []) _ r4 hv3 p4 hlen hlN (by rw [sz_neg]; exact Nat.le_trans hsq (by decide)) (fun k => Nat.le_trans (hsm i k) (by decide)) (fun k => Nat.le_trans (hsm row k) (by decide))).mono ?_
                        rintro e w4 ⟨r4, rfl, hv4, hb4⟩
                        obtain ⟨a7, n7, c7, rfl⟩ := hv4.shape
                        replace r0 := keepc hb4 r0
                        replace p0 := keepc hb4 p0
                        replace p1 := keepc hb4 p1
                        replace p2 := keepc hb4 p2
                        replace r1 := keepc hb4 r1
                        replace r2 := keepc hb4 r2
                        replace hAm := hAm.up hb4
                        replace hbl := Bl.up hbl hb4
                        go_wp2_with fail
                        refine hK.out _ _ (fun _ => ⟨r0, p0, p1, p2, r1, r2⟩) ?_
                        have hHeld4 : w4.cell? ⟨g, i, none⟩ = some (.slice (some ⟨b2, o2, none⟩) N k2) ∧ w4.cell? ⟨g, row, none⟩ = some (.slice (some ⟨b1, o1, none⟩) N k1) ∧ w4.cell? ⟨b1, o1 + col * 2, none⟩ = some (.bool s1) ∧ w4.cell? ⟨b1, o1 + col * 2 + 1, none⟩ = some (.slice c1 n1 q1) ∧ w4.cell? ⟨b2, o2 + col * 2, none⟩ = some (.bool s2) ∧ w4.cell? ⟨b2, o2 + col * 2 + 1, none⟩ = some (.slice c2 n2 q2) := ⟨r0, p0, p1, p2, r1, r2⟩
                        clear hK; (try clear hHeld3)
                        (try simp only [lay, List.getElem_toArray, List.getElem_cons_succ, List.getElem_cons_zero])
                        (refine tP 27 rfl ?_; (try simp only [lay, List.getElem_toArray, List.getElem_cons_succ, List.getElem_cons_zero]))
                        have fr := (hAm.slot (i := i) (by rw [hs.1]; exact hiR)).2.2
                        (refine wpAnyT_one (i := 28) (by as_aux_lemma => kernel_rfl) rfl (fun K hK => ?_); (try simp only [lay, List.getElem_toArray, List.getElem_cons_succ, List.getElem_cons_zero]); go_simp)
                        go_wp2_with fail
                        refine hK.out _ _ (fun h => absurd h (by decide)) ?_
                        clear hK hHeld4
                        (try simp only [lay, List.getElem_toArray, List.getElem_cons_succ, List.getElem_cons_zero])
                        refine wpAnyT_done (by kernel_rfl) ?_ _
                        obtain rfl : n7 = N := by rw [← hpl]; exact (Rw.len hv4).symm
                        have hAm5 := hAm.set2 (i := i) (by rw [hs.1]; exact hiR) hpl hv4
                        have hbl5 := bl_set (i := i) (v := .slice a7 n7 c7) hbl hgb
                        clear hAm hbl hv2 hv3 hv4 hb2 hb3 hb4 fr p0 p1 p2 p3 p4 r0 r1 r2 r3 r4
                        generalize w4.setCell ⟨g, i, none⟩ (.slice a7 n7 c7) = w5 at *
                        go_wp2_with fail
                        go_roundw
                        case rel => exact ⟨i + 1, _, by go_num, by omega, HST.out, hAm5, hbl5⟩
                        case measure => simp [intOf]; omega
                      · have hir' : i = row := by omega
                        have i3 : ¬ (i : Int) < (row : Int) := by omega
                        rw [hir'] at hQ
                        have hnx := pl.next hQ
                        clear hQ hir'
                        go_wp2_with fail
                        go_roundw
                        case rel => exact ⟨row + 1, col + 1, m, by go_num, by go_num, by omega, by omega, hnx, hAm, hbl⟩
                        case measure => simp [intOf]; omega
      · have hr : row = R := by omega
        have i2 : ¬ (row : Int) < (R : Int) := by omega
        go_wp2_with fail
        go_ret
        exact ⟨g, cap, rfl, row, col, m, hP, .inr hr, hrow, hAm, hbl⟩
    · have hc : col = N := by omega
      have i1 : ¬ (col : Int) < (N : Int) := by omega
      go_wp2_with fail
      go_ret
      exact ⟨g, cap, rfl, row, col, m, hP, .inl hc, hrow, hAm, hbl⟩
end Go.Proofs.YtdbpkoddfcdhdaaGreat
