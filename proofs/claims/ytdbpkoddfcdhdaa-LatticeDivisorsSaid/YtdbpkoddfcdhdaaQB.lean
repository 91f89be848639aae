/-
  The reference: Transposed.
-/
import Derived.Test.YtdbpkoddfcdhdaaPU
import Derived.Test.YtdbpkoddfcdhdaaQA
set_option linter.unusedSimpArgs false
set_option linter.unusedVariables false

namespace Go.Proofs.Ytdbpkoddfcdhdaa
open Go.RowKit
attribute [local go_sem ↓] Go.wp_at_zero Go.wp_at_succ

theorem colM_len2 (m : List (List Int)) (k : Nat) : (colM m k).length = m.length := by simp [colM]
theorem colM_take2 (m : List (List Int)) (k i : Nat) (h : i < m.length) : (colM m k).take (i + 1) = (colM m k).take i ++ [(m.getD i []).getD k 0] := by
  have hl : i < (colM m k).length := by rw [colM_len2]; exact h
  rw [List.take_succ_eq_append_getElem hl]
  simp [colM, h]

set_option maxRecDepth 100000 in
set_option maxHeartbeats 8000000 in
theorem rtrans_any (v : Value) (m : List (List Int)) (R n : Nat) (w : World) (h : Mx w v m) (hs : Shape R n m) (hR0 : 0 < R) (hR : R ≤ 1000) (hn : n ≤ 1000) :
    Calls Try.prog 23 #[v] w fun e w' => ∃ v', e = .returned v' ∧ Mx w' v' (trM m) ∧ Below w.heap.size w w' := by
  have htr : trM m = (List.range n).map (colM m) := by unfold trM; rw [hs.2 0 hR0]
  rw [htr]
  clear htr
  obtain ⟨a, ca, rfl, -, hMi⟩ := id h
  obtain ⟨xb, xo, rfl, hxb, hxc⟩ := hMi.at (by rw [hs.1]; exact hR0)
  have hml := hs.1
  rw [hml]
  obtain ⟨cc, kc, z0, -⟩ := hxc 0 (by rw [hml]; exact hR0)
  rw [hs.2 0 hR0] at z0
  replace z0 : w.cell? ⟨xb, xo, none⟩ = some (.slice cc n kc) := z0
  have u0 : (0 : Int) < (R : Int) := by omega
  clear hMi
  go_enter Try.func23, Try.ntmps23
  go_wp2_with fail
  go_loopw [3, 4, 5, 6] (fun s3 s _ _ wq => ∃ (k : Nat) (u : Value), k ≤ n ∧ s = .int .i64 k ∧ s3 = u ∧ Am2 wq w.heap.size u ((List.range k).map (colM m)) ∧ Below w.heap.size w wq)
    (fun _ s _ _ _ => n - (intOf s).toNat)
  case atStart => exact ⟨0, _, Nat.zero_le _, rfl, rfl, Am2.lit0 _ (Nat.le_refl _), below_new _ _⟩
  case round =>
    obtain ⟨k, u, hk, rfl, rfl, hAm, hbl⟩ := hrel
    replace z0 := keepc hbl z0
    have k0 : (0 : Int) ≤ (k : Int) := by omega
    by_cases hlt : k < n
    · have k1 : (k : Int) < (n : Int) := by omega
      have hz1 := hbl.size
      go_wp2_with fail
      obtain ⟨wo, hwo⟩ : ∃ wo, wo = wr := ⟨_, rfl⟩
      rw [← hwo] at hAm hbl hz1 z0 ⊢
      clear hwo
      go_loopw [5, 6] (fun s5 s wq => ∃ (i : Nat) (o : List Int) (u' : Value), i ≤ R ∧ s = .int .i64 i ∧ o = (colM m k).take i ∧ s5 = u' ∧ Ap wq wo.heap.size u' o ∧ Below wo.heap.size wo wq)
        (fun _ s _ => R - (intOf s).toNat)
      case atStart => exact ⟨0, [], _, Nat.zero_le _, rfl, rfl, rfl, Ap.lit0 _ (Nat.le_refl _), below_new _ _⟩
      case round =>
        obtain ⟨i, o, u', hi, rfl, ho, rfl, hAp, hbo⟩ := hrel
        have HO := Lib.hid ho
        have hol : o.length ≤ 1099511627776 := by rw [ho, List.length_take, colM_len2]; omega
        clear ho
        have i0 : (0 : Int) ≤ (i : Int) := by omega
        by_cases hin : i < R
        · have i1 : (i : Int) < (R : Int) := by omega
          have HTK := Lib.hid (colM_take2 m k i (by omega))
          obtain ⟨ci, ki, r0, r1⟩ := hxc i (by omega)
          rw [hs.2 i hin] at r0 r1
          have hrl := hs.2 i hin
          have hbw := Bl.up hbl hbo
          replace r0 := keepc hbw r0
          replace r1 := r1.up hbw
          obtain ⟨rr, hrr⟩ : ∃ rr, rr = m.getD i [] := ⟨_, rfl⟩
          rw [← hrr] at r1 hrl HTK
          clear hrr
          obtain ⟨bb, offb, cb, hv⟩ := r1.some (by omega)
          injection hv with e1 e2 e3
          subst e1 e3
          clear e2
          obtain ⟨-, -, s2, a2, n2, q2, x0, x1, x2⟩ := r1.elem hlt
          clear hrl r1 hxc
          generalize rr.getD k 0 = x at *
          have hszo := hbo.size
          go_wp2_with (at_builtin; go_must (refine wpl_apI rfl (.tmp 23) (.tmp 31) _ rfl Try.underlying36 wo.heap.size _ o rfl (hAp.alloc _) (by simp; omega) wr.heap.size _ _ _ s2 a2 n2 q2 x rfl (heap_alloc_new _ _) (x2.alloc _) hol ?_); intro g cap' w4 hAp4 hb4)
          go_roundw
          case rel => exact ⟨i + 1, _, _, by omega, by go_num, by rw [HTK.out, ← HO.out], rfl, hAp4, (Bl.alloc hbo _).trans hb4⟩
          case measure => simp [intOf]; omega
        · have hi' : i = R := by omega
          subst hi'
          have hor : o = colM m k := by rw [HO.out]; exact List.take_of_length_le (by rw [colM_len2]; omega)
          have i1 : ¬ (i : Int) < (i : Int) := by omega
          have hcl : (colM m k).length = i := by rw [colM_len2]; exact hml
          have hR := hAp.rw
          rw [hor] at hR
          obtain ⟨ax, cx, e, -⟩ := id hR
          subst e
          rw [hcl] at hR hAp ⊢
          have hAm2 := hAm.up hbo
          have hsz := hbo.size
          have hml2 : ((List.range k).map (colM m)).length ≤ 1099511627776 := by simp; omega
          clear hin hor HO hol hAp hxc
          go_wp2_with (at_builtin; go_must (refine wpl_apR rfl (.tmp 33) (.tmp 35) _ rfl Try.underlying29 w.heap.size _ ((List.range k).map (colM m)) rfl (hAm2.alloc _) (by simp; omega) wr.heap.size _ _ _ _ _ _ (colM m k) hcl rfl (heap_alloc_new _ _) (hR.up (below_new _ _)) hml2 ?_); intro g cap' w4 hAm4 hb4)
          go_roundw
          case rel => exact ⟨k + 1, _, by omega, by go_num, rfl, by (rw [List.length_map, List.length_range] at hAm4); rw [List.range_succ, List.map_append]; exact hAm4, ((hbl.trans (hbo.mono hz1)).alloc (by omega) _).trans hb4⟩
          case measure => simp [intOf]; omega
    · have hkn : k = n := by omega
      subst hkn
      have k1 : ¬ (k : Int) < (k : Int) := by omega
      have hM := hAm.1.mx (Below.refl _ _)
      clear hAm hlt hxc
      go_wp2_with fail
      go_ret
      exact ⟨_, rfl, hM, hbl⟩
end Go.Proofs.Ytdbpkoddfcdhdaa
