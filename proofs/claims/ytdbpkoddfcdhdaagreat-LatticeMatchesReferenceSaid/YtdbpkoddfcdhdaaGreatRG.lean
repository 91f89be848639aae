/-
  The reference: Hermite.
  The reference: In.
-/
import Derived.Test.YtdbpkoddfcdhdaaGreatRF
import Derived.Test.YtdbpkoddfcdhdaaGreatRE
import Derived.Test.YtdbpkoddfcdhdaaGreatPT
import Derived.Test.YtdbpkoddfcdhdaaGreatPH
set_option linter.unusedSimpArgs false
set_option linter.unusedVariables false

namespace Go.Proofs.YtdbpkoddfcdhdaaGreat
open Go.RowKit
attribute [local go_sem ↓] Go.wp_at_zero Go.wp_at_succ

theorem gB_mono {R E : Nat} {r : Nat} : ∀ {s}, r ≤ s → gB R E r ≤ gB R E s := by
  intro s h
  induction s with
  | zero => obtain rfl : r = 0 := by omega
            exact Nat.le_refl _
  | succ s ih =>
    rcases Nat.eq_or_lt_of_le h with e | e
    · subst e; exact Nat.le_refl _
    · exact Nat.le_trans (ih (by omega)) (gB_up R E s)

theorem herm_of_e {R N E row col : Nat} {m A : List (List Int)} (h : E1 R N m E row col A) (he : col = N ∨ row = R) :
    (A.take row).length = row ∧ (∃ piv, Herm R N m (A.take row) (gB R E R) piv) ∧ ∀ i, i < R → (A.getD i []).any nz = decide (i < row) := by
  obtain ⟨⟨piv, hn⟩, h0⟩ := h.done he
  have hrow := h.r
  have hl : (A.take row).length = row := by rw [List.length_take, h.sh.1, Nat.min_eq_left hrow]
  have hr : ∀ i, i < row → (A.take row).getD i [] = A.getD i [] := fun i hi => by
    simp only [List.getD_eq_getElem?_getD]
    rw [List.getElem?_take_of_lt hi]
  have hen : ∀ i k, i < row → en (A.take row) i k = en A i k := fun i k hi => by unfold en; rw [hr i hi]
  refine ⟨hl, ⟨piv, ?_⟩, fun i hi => ?_⟩
  · refine ⟨by omega, ?_, ?_, fun v => ?_, fun j k => ?_⟩
    · rw [hl]
      exact ⟨hl, fun i hi => by rw [hr i hi]; exact h.sh.2 i (by omega)⟩
    · rw [hl]
      exact ⟨hn.lt, hn.mono, fun i hi => by rw [hen i _ hi]; exact hn.pos i hi, fun i k hi hk => by rw [hen i k hi]; exact hn.zero i k hi hk, fun j i hji hi => by rw [hen j _ (by omega), hen i _ hi]; exact hn.red j i hji hi⟩
    · rw [hl]
      constructor
      · intro hv
        exact (h.sl v).1 ((Lat.ext (fun i k hi _ => hen i k hi) hv).more hrow)
      · intro hv
        exact Lat.ext (fun i k hi _ => (hen i k hi).symm) (((h.sl v).2 hv).cut hrow h0)
    · rcases Nat.lt_or_ge j row with hj | hj
      · rw [hen j k hj]; exact (h.bt j k).mono (gB_mono hrow)
      · unfold en
        rw [show (A.take row).getD j [] = [] by simp [List.getD_eq_getElem?_getD, List.getElem?_eq_none (show (A.take row).length ≤ j by rw [hl]; exact hj)]]
        exact Bt.zero
  · by_cases c : i < row
    · rw [decide_eq_true c]
      have hp := hn.pos i c
      have hq := hn.lt i c
      rw [List.any_eq_true]
      refine ⟨en A i (piv i), ?_, ?_⟩
      · have hlen : piv i < (A.getD i []).length := by rw [h.sh.2 i hi]; exact hq
        unfold en
        rw [List.getD_eq_getElem?_getD (l := A.getD i []), List.getElem?_eq_getElem hlen]
        exact List.getElem_mem _
      · unfold nz; simp; omega
    · rw [decide_eq_false c]
      refine any_false (d := 0) fun j hj => ?_
      have h2 : (A.getD i []).getD j 0 = 0 := h0 i j (by omega) hi (by rw [← h.sh.2 i hi]; exact hj)
      rw [h2]; decide

set_option maxRecDepth 100000 in
set_option maxHeartbeats 4000000 in
theorem rhermite_any {R N E : Nat} {m : List (List Int)} (hE0 : 0 < E) (hG : ∀ r, r ≤ R → gB R E r ≤ 1000000000000)
    (v : Value) (w : World) (h : Mx w v m) (hs : Shape R N m) (hN0 : 0 < N) (hR0 : 0 < R) (hN : N ≤ 1000) (hR : R ≤ 1000) (hb : ∀ j k, Bt (en m j k) E) :
    Calls Tryz.prog 9 #[v] w fun e w' => ∃ v' h, e = .returned v' ∧ (∃ piv, Herm R N m h (gB R E R) piv) ∧ Mx w' v' h ∧ Below w.heap.size w w' := by
  go_enter Tryz.func9, Tryz.ntmps9
  go_wp2_with fail
  refine (rechelon_any (eplan hE0 hG) v m w h hs (e1_start hs hb) hN0 hR0 hN hR).mono ?_
  rintro e w1 ⟨g, cap, rfl, row, col, A, hP, hc, hrow, hAm, hbw⟩
  obtain ⟨hl, hH, hz⟩ := herm_of_e hP hc
  have hsA := hP.sh
  have hMx := hAm.1.mx (Below.refl _ _)
  have HH := Lib.hid (And.intro hl (And.intro hH hz))
  have HBW := Lib.hid hbw
  clear hP hc hl hH hz hAm hbw h hs hb hG hE0
  go_wp2_with fail
  go_loopw [4, 5] (fun s4 s5 wq => ∃ (i : Nat) (u : Value) (o : List (List Int)), i ≤ R ∧ s5 = .int .i64 i ∧ s4 = u ∧ o = A.take (min i row) ∧ Am2 wq w1.heap.size u o ∧ Below w1.heap.size w1 wq)
    (fun _ s5 _ => R - (intOf s5).toNat)
  case atStart => exact ⟨0, _, [], Nat.zero_le _, rfl, rfl, by simp, Am2.lit0 _ (Nat.le_refl _), below_new _ _⟩
  case round =>
    obtain ⟨i, u, o, hi, rfl, rfl, ho, hAm, hbo⟩ := hrel
    have HO := Lib.hid ho
    have hol : o.length ≤ 1099511627776 := by rw [ho, List.length_take]; have := Nat.min_le_left i row; omega
    clear ho
    have i0 : (0 : Int) ≤ (i : Int) := by omega
    by_cases hlt : i < R
    · have i1 : (i : Int) < (R : Int) := by omega
      obtain ⟨ba, offa, ar, k1, e0, hba, p0, hk1, hrw⟩ := (hMx.up hbo).row hsA hlt
      injection e0 with e0
      injection e0 with e1 e2
      subst e1 e2
      rw [Nat.zero_add] at p0
      have hrl := hsA.2 i hlt
      have hzi := HH.out.2.2 i hlt
      have hxN : (A.getD i []).length ≤ 1099511627776 := by rw [hrl]; omega
      by_cases hir : i < row
      · rw [decide_eq_true hir] at hzi
        have htk : A.take (min (i + 1) row) = A.take (min i row) ++ [A.getD i []] := by
          rw [Nat.min_eq_left (by omega), Nat.min_eq_left (by omega), List.take_succ_eq_append_getElem (by rw [hsA.1]; exact hlt)]
          simp [List.getD_eq_getElem?_getD, hsA.1, hlt]
        have HTK := Lib.hid htk
        clear htk
        generalize A.getD i [] = x at *
        go_wp2_with fail
        refine (rzero_any _ x _ hrw hxN).mono ?_
        rintro e w2 ⟨rfl, hb2⟩
        rw [hzi]
        replace hAm := hAm.up hb2
        replace hbo := Bl.up hbo hb2
        replace p0 := keepc hb2 p0
        replace hrw := hrw.up hb2
        clear hb2 hzi
        go_wp2_with (at_builtin; go_must (refine wpl_apR rfl (.tmp 21) (.tmp 26) _ rfl Tryz.underlying27 w1.heap.size _ o rfl (hAm.alloc _) (by have := hbo.size; simp; omega) w2.heap.size _ _ _ _ N _ x hrl rfl (heap_alloc_new _ _) (hrw.up (below_new _ _)) hol ?_); intro g4 cap4 w4 hAm4 hb4)
        go_roundw
        case rel => exact ⟨i + 1, _, _, by omega, by go_num, rfl, by rw [HTK.out, ← HO.out], hAm4, (Bl.alloc hbo _).trans hb4⟩
        case measure => simp [intOf]; omega
      · rw [decide_eq_false hir] at hzi
        have htk : A.take (min (i + 1) row) = A.take (min i row) := by
          rw [Nat.min_eq_right (by omega), Nat.min_eq_right (by omega)]
        have HTK := Lib.hid htk
        clear htk
        generalize A.getD i [] = x at *
        go_wp2_with fail
        refine (rzero_any _ x _ hrw hxN).mono ?_
        rintro e w2 ⟨rfl, hb2⟩
        rw [hzi]
        replace hAm := hAm.up hb2
        replace hbo := Bl.up hbo hb2
        clear hb2 hzi p0 hrw
        go_wp2_with fail
        go_roundw
        case rel => exact ⟨i + 1, _, o, by omega, by go_num, rfl, by rw [HTK.out, ← HO.out], hAm, hbo⟩
        case measure => simp [intOf]; omega
    · have i1 : ¬ (i : Int) < (R : Int) := by omega
      have hoe : o = A.take row := by rw [HO.out, Nat.min_eq_right (by omega)]
      subst hoe
      obtain ⟨-, ⟨piv, hp⟩, -⟩ := HH.out
      go_wp2_with fail
      go_ret
      exact ⟨_, rfl, _, ⟨piv, hp⟩, hAm.1.mx (Below.refl _ _), Bl.up HBW.out hbo⟩
end Go.Proofs.YtdbpkoddfcdhdaaGreat

namespace Go.Proofs.YtdbpkoddfcdhdaaGreat
open Go.RowKit
attribute [local go_sem ↓] Go.wp_at_zero Go.wp_at_succ

/-- What is left of a vector when i rows are done. -/
structure LI (r N : Nat) (h : List (List Int)) (piv : Nat → Nat) (l : List Int) (F G i : Nat) (left : List Int) : Prop where
  len : left.length = N
  lat : Lat r N (en h) (fun k => left.getD k 0) ↔ Lat r N (en h) (fun k => l.getD k 0)
  red : ∀ j, j < i → 0 ≤ left.getD (piv j) 0 ∧ left.getD (piv j) 0 < en h j (piv j)
  bt : ∀ k, Bt (left.getD k 0) (F + i * (G + 1))

theorem Bt.lessp {a b q : Int} {A B : Nat} (ha : Bt a A) (hb : Bt b B) (hq : 2 * q.natAbs < 2 ^ A) : Bt (a + -q * b) (A + (B + 1)) := by
  unfold Bt at *
  have h1 := quarter (a := q.natAbs) (b := b.natAbs) hq (Nat.le_of_lt hb)
  have h2 : (-q * b).natAbs = q.natAbs * b.natAbs := by rw [Int.neg_mul, Int.natAbs_neg]; exact Int.natAbs_mul _ _
  have h3 : (a + -q * b).natAbs ≤ a.natAbs + (-q * b).natAbs := Int.natAbs_add_le _ _
  have h4 : 2 ^ A ≤ 2 ^ (A + B) := Nat.pow_le_pow_right (by omega) (by omega)
  rw [show A + (B + 1) = A + B + 1 by omega, Nat.pow_succ]
  omega

theorem LI.step {r N F G i : Nat} {h : List (List Int)} {piv : Nat → Nat} {l left : List Int} (hn : Hnf r N (en h) piv) (hs : Shape r N h) (hb : ∀ j k, Bt (en h j k) G) (L : LI r N h piv l F G i left) (hi : i < r) :
    LI r N h piv l F G (i + 1) (plusR left (-(left.getD (piv i) 0 / en h i (piv i))) (h.getD i [])) := by
  have hp := hn.pos i hi
  have hpl := hn.lt i hi
  obtain ⟨q, hq⟩ : ∃ q, q = left.getD (piv i) 0 / en h i (piv i) := ⟨_, rfl⟩
  rw [← hq]
  have hat : ∀ k, k < N → (plusR left (-q) (h.getD i [])).getD k 0 = left.getD k 0 + -q * en h i k := fun k hk => by
    rw [plusR_at, if_pos (by rw [L.len]; exact hk)]; rfl
  refine ⟨by rw [plusR_len]; exact L.len, ?_, fun j hj => ?_, fun k => ?_⟩
  · rw [← L.lat]
    constructor
    · intro hv
      exact (hv.add ((Lat.row (m := en h) hi).smul q)).congr fun k hk => by rw [hat k hk, Int.neg_mul]; omega
    · intro hv
      exact (hv.add ((Lat.row (m := en h) hi).smul (-q))).congr fun k hk => by rw [hat k hk]
  · rw [hat _ (hn.lt j (by omega))]
    by_cases e : j = i
    · subst e
      have h1 := Int.emod_nonneg (left.getD (piv j) 0) (b := en h j (piv j)) (by omega)
      have h2 := Int.emod_lt_of_pos (left.getD (piv j) 0) hp
      have h3 := Int.mul_ediv_add_emod (left.getD (piv j) 0) (en h j (piv j))
      rw [← hq] at h3
      rw [Int.neg_mul, Int.mul_comm q]
      omega
    · rw [hn.zero i (piv j) hi (hn.mono j i (by omega) hi), Int.mul_zero, Int.add_zero]
      exact L.red j (by omega)
  · rcases Nat.lt_or_ge k N with hk | hk
    · rw [hat k hk]
      have hqb : 2 * q.natAbs < 2 ^ (F + i * (G + 1)) := by
        have h1 := Int.natAbs_ediv_le_natAbs (left.getD (piv i) 0) (en h i (piv i))
        rw [← hq] at h1
        have h2 := L.bt (piv i)
        unfold Bt at h2
        omega
      have := Bt.lessp (L.bt k) (hb i k) hqb
      rw [Nat.succ_mul, ← Nat.add_assoc]
      exact this
    · rw [plusR_at, if_neg (by rw [L.len]; omega)]; exact Bt.zero

theorem LI.done {r N F G : Nat} {h : List (List Int)} {piv : Nat → Nat} {l left : List Int} (hn : Hnf r N (en h) piv) (L : LI r N h piv l F G r left) :
    (!left.any nz) = true ↔ Lat r N (en h) (fun k => l.getD k 0) := by
  rw [← L.lat]
  constructor
  · intro h1
    rw [Bool.not_eq_true'] at h1
    refine ⟨fun _ => 0, fun k hk => ?_⟩
    rw [sumN_zero fun i hi => Int.zero_mul _]
    have h2 := List.any_eq_false.1 h1 (left[k]'(by rw [L.len]; exact hk)) (List.getElem_mem _)
    simp only [List.getD_eq_getElem?_getD, List.getElem?_eq_getElem (show k < left.length by rw [L.len]; exact hk), Option.getD_some]
    unfold nz at h2
    simpa using h2
  · intro hL
    rw [Bool.not_eq_true']
    refine any_false (d := 0) fun k hk => ?_
    have h0 : left.getD k 0 = 0 := Classical.byContradiction fun hne => by
      obtain ⟨i, q, hi, h1, h2, h3⟩ := hn.lead hL ⟨k, by rw [← L.len]; exact hk, hne⟩
      have h4 := L.red i hi
      have h5 := hn.pos i hi
      rw [h3] at h4
      have h6 : q = 0 := by
        rcases Int.lt_trichotomy q 0 with c | c | c
        · have := Int.mul_lt_mul_of_pos_right c h5; omega
        · exact c
        · have := Int.mul_le_mul_of_nonneg_right (show (1 : Int) ≤ q by omega) (Int.le_of_lt h5); omega
      rw [h3, h6] at h2
      simp at h2
    rw [h0]; decide

set_option maxRecDepth 100000 in
set_option maxHeartbeats 4000000 in
theorem rin_any {R N E F : Nat} {m : List (List Int)} (hE0 : 0 < E) (hG : ∀ r, r ≤ R → gB R E r ≤ 1000000000000)
    (v u : Value) (l : List Int) (w : World) (h : Mx w v m) (hu : Rw w u l) (hl : l.length = N) (hs : Shape R N m) (hN0 : 0 < N) (hR0 : 0 < R) (hN : N ≤ 1000) (hR : R ≤ 1000) (hb : ∀ j k, Bt (en m j k) E) (hF : ∀ k, Bt (l.getD k 0) F) (hFG : F + R * (gB R E R + 1) ≤ 4398046511104) :
    Calls Tryz.prog 20 #[v, u] w fun e w' => ∃ b : Bool, e = .returned (.bool b) ∧ (b = true ↔ Lat R N (en m) (fun k => l.getD k 0)) ∧ Below w.heap.size w w' := by
  obtain ⟨au, nu, cu, rfl⟩ := hu.shape
  obtain rfl : nu = N := by rw [← hl]; exact (Rw.len hu).symm
  go_enter Tryz.func20, Tryz.ntmps20
  go_wp2_with fail
  refine (rhermite_any hE0 hG v w h hs hN0 hR0 hN hR hb).mono ?_
  rintro e w1 ⟨v', H, rfl, ⟨piv, hh⟩, hM, hb1⟩
  replace hu := hu.up hb1
  have hgG := hG R (Nat.le_refl _)
  generalize gB R E R = G at *
  clear hG hE0 hb hs h
  have hle := hh.le
  have hn := hh.hn
  have hsH := hh.sh
  have hbH := hh.bt
  have hlat := hh.lat (fun k => l.getD k 0)
  have HLAT := Lib.hid hlat
  clear hlat hh
  obtain ⟨a, ca, rfl, -, -⟩ := id hM
  generalize hr : H.length = r at *
  have HB1 := Lib.hid hb1
  have hL0 : LI r nu H piv l F G 0 l := ⟨hl, Iff.rfl, fun j hj => absurd hj (Nat.not_lt_zero j), fun k => (hF k).mono (by omega)⟩
  have HL0 := Lib.hid hL0
  have HN := Lib.hid hn
  clear hb1 hr hL0 hn hF
  have hap := Ap.lit0 w1 (Nat.le_refl w1.heap.size)
  go_wp2_with (at_builtin; go_must (refine wpl_apRow rfl (.tmp 11) (.tmp 12) _ rfl Tryz.underlying36 w1.heap.size _ [] l rfl hap (by simp) _ nu cu rfl (hu.up (below_new _ _)) hN0 (by simp; omega) ?_); intro g2 cap2 w2 hA2 hb2; rw [List.length_nil, Nat.zero_add, List.nil_append] at hA2; rw [List.length_nil, Nat.zero_add])
  have hlr := hA2.rw
  have hbl := (below_new w1 (.cells #[] 56)).trans (hb2.mono (by simp))
  clear hA2 hb2 hap hu
  go_loopw [6, 7] (fun s6 s7 wq => ∃ (i : Nat) (left : List Int) (a6 : Option Addr) (c6 : Nat), i ≤ r ∧ s7 = .int .i64 i ∧ s6 = .slice a6 nu c6 ∧ LI r nu H piv l F G i left ∧ Rw wq (.slice a6 nu c6) left ∧ Below w1.heap.size w1 wq)
    (fun _ s7 _ => r - (intOf s7).toNat)
  case atStart => exact ⟨0, l, _, _, Nat.zero_le _, rfl, rfl, HL0.out, hlr, hbl⟩
  case round =>
    clear hlr hbl
    obtain ⟨i, left, a6, c6, hi, rfl, rfl, hL, hlr, hbl⟩ := hrel
    have i0 : (0 : Int) ≤ (i : Int) := by omega
    by_cases hlt : i < r
    · have i1 : (i : Int) < (r : Int) := by omega
      obtain ⟨ba, offa, ar, k1, rfl, hba, p0, hk1, hrw⟩ := (hM.up hbl).row hsH hlt
      have hp := HN.out.pos i hlt
      have hpl := HN.out.lt i hlt
      have hst := hL.step HN.out hsH hbH hlt
      have HST := Lib.hid hst
      have hz := fun k (hk : k < piv i) => HN.out.zero i k hlt hk
      have HZ := Lib.hid hz
      have hsl : ∀ k, sz (left.getD k 0) ≤ 137438953472 := fun k => sz_bits (hL.bt k) (by have := Nat.mul_le_mul_right (G + 1) (show i ≤ R by omega); omega)
      have hlen := hL.len
      clear hst hz hL
      go_wp2_with fail
      obtain ⟨wo, hwo⟩ : ∃ wo, wo = wr := ⟨_, rfl⟩
      rw [← hwo] at hlr hbl p0 hrw ⊢
      clear hwo
      go_loopw [8] (fun s8 wq => ∃ c : Nat, c ≤ piv i ∧ s8 = .int .i64 c ∧ Below wo.heap.size wo wq)
        (fun s8 _ => piv i - (intOf s8).toNat)
      case atStart => exact ⟨0, Nat.zero_le _, rfl, Below.refl _ _⟩
      case round =>
        obtain ⟨c, hc, rfl, hbo⟩ := hrel
        have hcN : c < nu := by omega
        have j0 : (0 : Int) ≤ (c : Int) := by omega
        have j1 : (c : Int) < (nu : Int) := by omega
        obtain ⟨bb, offb, s, c2, nn, q, rfl, hbb, q0, q1, q2⟩ := hrw.get hcN
        replace p0 := keepc hbo p0
        replace q0 := keepc hbo q0
        replace q1 := keepc hbo q1
        replace q2 := q2.up hbo
        change It wr _ (en H i c) at q2
        by_cases hcp : c < piv i
        · have hx := HZ.out c hcp
          have hz : (cmpI (en H i c) 0 == 0) = true := by rw [hx]; rfl
          clear hx
          generalize en H i c = x at *
          go_wp2_with fail
          refine (rsign_any _ x _ q2).mono ?_
          rintro e w3 ⟨rfl, hb3⟩
          replace hbo := Bl.up hbo hb3
          clear hb3 p0 q0 q1 q2
          go_wp2_with fail
          go_roundw
          case rel => exact ⟨c + 1, by omega, by go_num, hbo⟩
          case measure => simp [intOf]; omega
        · have hce : c = piv i := by omega
          rw [← hce] at HST hp
          have hz : (cmpI (en H i c) 0 == 0) = false := by rw [beq_eq_false_iff_ne]; exact fun h => by have := cmpI_zero.1 h; omega
          have hp0 : en H i c ≠ 0 := by omega
          clear HZ hcp hce hp
          have hsx : sz (en H i c) ≤ 137438953472 := sz_bits (hbH i c) (by omega)
          have hsm : ∀ k, sz ((H.getD i []).getD k 0) ≤ 137438953472 := fun k => sz_bits (hbH i k) (by omega)
          have hleN : left.length ≤ (H.getD i []).length := by rw [hsH.2 i hlt, hlen]; exact Nat.le_refl _
          have hlN : left.length ≤ 1099511627776 := by rw [hlen]; omega
          have hsq : sz (left.getD c 0 / en H i c) ≤ 137438953472 := Nat.le_trans (sz_mono (Int.natAbs_ediv_le_natAbs _ _)) (hsl c)
          have hsy := hsl c
          have hpln : (plusR left (-(left.getD c 0 / en H i c)) (H.getD i [])).length = nu := by rw [plusR_len]; exact hlen
          replace hlr := hlr.up hbo
          have hrw2 := hrw.up hbo
          replace hbl := Bl.up hbl hbo
          clear hbo hrw
          obtain ⟨bd, offd, s5, c5, n5, q5, rfl, hbd, r0, r1, r2⟩ := hlr.get hcN
          go_wp2_with fail
          refine (rsign_any _ (en H i c) _ q2).mono ?_
          rintro e w3 ⟨rfl, hb3⟩
          replace hbl := Bl.up hbl hb3
          replace p0 := keepc hb3 p0
          replace q0 := keepc hb3 q0
          replace q1 := keepc hb3 q1
          replace r0 := keepc hb3 r0
          replace r1 := keepc hb3 r1
          replace q2 := q2.up hb3
          replace r2 := r2.up hb3
          replace hlr := hlr.up hb3
          replace hrw2 := hrw2.up hb3
          clear hb3
          go_upto_region 9 with fail
          refine wp_region_T (by kernel_rfl) [] (S := fun w' => w'.cell? ⟨ba, offa + i, none⟩ = some (.slice (some ⟨bb, offb, none⟩) nu k1) ∧ w'.cell? ⟨bb, offb + c * 2, none⟩ = some (.bool s) ∧ w'.cell? ⟨bb, offb + c * 2 + 1, none⟩ = some (.slice c2 nn q) ∧ w'.cell? ⟨bd, offd + c * 2, none⟩ = some (.bool s5) ∧ w'.cell? ⟨bd, offd + c * 2 + 1, none⟩ = some (.slice c5 n5 q5)) ⟨p0, q0, q1, r0, r1⟩ (fun hHeld => ?_)
          (refine tP 0 rfl ?_; (try simp only [lay, List.getElem_toArray, List.getElem_cons_succ, List.getElem_cons_zero]))
          (refine tP 1 rfl ?_; (try simp only [lay, List.getElem_toArray, List.getElem_cons_succ, List.getElem_cons_zero]))
          (refine tP 2 rfl ?_; (try simp only [lay, List.getElem_toArray, List.getElem_cons_succ, List.getElem_cons_zero]))
          (refine tP 3 rfl ?_; (try simp only [lay, List.getElem_toArray, List.getElem_cons_succ, List.getElem_cons_zero]))
          (refine tK 4 rfl ?_; (try simp only [lay, List.getElem_toArray, List.getElem_cons_succ, List.getElem_cons_zero]))
          (refine tP 5 rfl ?_; (try simp only [lay, List.getElem_toArray, List.getElem_cons_succ, List.getElem_cons_zero]))
          (refine tP 6 rfl ?_; (try simp only [lay, List.getElem_toArray, List.getElem_cons_succ, List.getElem_cons_zero]))
          (refine tP 7 rfl ?_; (try simp only [lay, List.getElem_toArray, List.getElem_cons_succ, List.getElem_cons_zero]))
          (refine tK 8 rfl ?_; (try simp only [lay, List.getElem_toArray, List.getElem_cons_succ, List.getElem_cons_zero]))
          (refine tP 9 rfl ?_; (try simp only [lay, List.getElem_toArray, List.getElem_cons_succ, List.getElem_cons_zero]))
          (refine tP 10 rfl ?_; (try simp only [lay, List.getElem_toArray, List.getElem_cons_succ, List.getElem_cons_zero]))
          (refine tK 11 rfl ?_; (try simp only [lay, List.getElem_toArray, List.getElem_cons_succ, List.getElem_cons_zero]))
          (refine tP 14 rfl ?_; (try simp only [lay, List.getElem_toArray, List.getElem_cons_succ, List.getElem_cons_zero]))
          (refine tP 15 rfl ?_; (try simp only [lay, List.getElem_toArray, List.getElem_cons_succ, List.getElem_cons_zero]))
          (refine tP 16 rfl ?_; (try simp only [lay, List.getElem_toArray, List.getElem_cons_succ, List.getElem_cons_zero]))
          (refine tK 17 rfl ?_; (try simp only [lay, List.getElem_toArray, List.getElem_cons_succ, List.getElem_cons_zero]))
          (refine wpAnyT_one (i := 12) (by as_aux_lemma => kernel_rfl) rfl (fun K hK => ?_); (try simp only [lay, List.getElem_toArray, List.getElem_cons_succ, List.getElem_cons_zero]); go_simp)
          refine (rdiv_any _ _ (left.getD c 0) (en H i c) _ r2.drew q2.drew hp0 (Nat.le_trans hsy (by decide)) (Nat.le_trans hsx (by decide))).mono ?_
          rintro e w4 ⟨r4, rfl, hv4, hb4⟩
          obtain ⟨s8, a8, n8, m8, rfl⟩ := hv4.shape
          replace p0 := keepc hb4 (cellD p0)
          replace q0 := keepc hb4 (cellD q0)
          replace q1 := keepc hb4 (cellD q1)
          replace r0 := keepc hb4 (cellD r0)
          replace r1 := keepc hb4 (cellD r1)
          replace hlr := hlr.drew.up hb4
          replace hrw2 := hrw2.drew.up hb4
          replace hbl := Bl.up (Bl.drew hbl) hb4
          go_wp2_with fail
          refine hK.out _ _ (fun _ => ⟨p0, q0, q1, r0, r1⟩) ?_
          have hHeld4 : w4.cell? ⟨ba, offa + i, none⟩ = some (.slice (some ⟨bb, offb, none⟩) nu k1) ∧ w4.cell? ⟨bb, offb + c * 2, none⟩ = some (.bool s) ∧ w4.cell? ⟨bb, offb + c * 2 + 1, none⟩ = some (.slice c2 nn q) ∧ w4.cell? ⟨bd, offd + c * 2, none⟩ = some (.bool s5) ∧ w4.cell? ⟨bd, offd + c * 2 + 1, none⟩ = some (.slice c5 n5 q5) := ⟨p0, q0, q1, r0, r1⟩
          clear hK; (try clear hHeld)
          (try simp only [lay, List.getElem_toArray, List.getElem_cons_succ, List.getElem_cons_zero])
          (refine wpAnyT_one (i := 13) (by as_aux_lemma => kernel_rfl) rfl (fun K hK => ?_); (try simp only [lay, List.getElem_toArray, List.getElem_cons_succ, List.getElem_cons_zero]); go_simp)
          refine (rneg_any _ (left.getD c 0 / en H i c) _ hv4 (Nat.le_trans hsq (by decide))).mono ?_
          rintro e w5 ⟨r5, rfl, hv5, hb5⟩
          obtain ⟨s9, a9, n9, m9, rfl⟩ := hv5.shape
          replace p0 := keepc hb5 p0
          replace q0 := keepc hb5 q0
          replace q1 := keepc hb5 q1
          replace r0 := keepc hb5 r0
          replace r1 := keepc hb5 r1
          replace hlr := hlr.up hb5
          replace hrw2 := hrw2.up hb5
          replace hbl := Bl.up hbl hb5
          go_wp2_with fail
          refine hK.out _ _ (fun _ => ⟨p0, q0, q1, r0, r1⟩) ?_
          have hHeld5 : w5.cell? ⟨ba, offa + i, none⟩ = some (.slice (some ⟨bb, offb, none⟩) nu k1) ∧ w5.cell? ⟨bb, offb + c * 2, none⟩ = some (.bool s) ∧ w5.cell? ⟨bb, offb + c * 2 + 1, none⟩ = some (.slice c2 nn q) ∧ w5.cell? ⟨bd, offd + c * 2, none⟩ = some (.bool s5) ∧ w5.cell? ⟨bd, offd + c * 2 + 1, none⟩ = some (.slice c5 n5 q5) := ⟨p0, q0, q1, r0, r1⟩
          clear hK; (try clear hHeld4)
          (try simp only [lay, List.getElem_toArray, List.getElem_cons_succ, List.getElem_cons_zero])
          (refine wpAnyT_one (i := 18) (by as_aux_lemma => kernel_rfl) rfl (fun K hK => ?_); (try simp only [lay, List.getElem_toArray, List.getElem_cons_succ, List.getElem_cons_zero]); go_simp)
          refine (plusR_any _ _ _ (-(left.getD c 0 / en H i c)) left (H.getD i []) _ hlr hv5 hrw2 hleN hlN (by rw [sz_neg]; exact Nat.le_trans hsq (by decide)) (fun k => Nat.le_trans (hsl k) (by decide)) (fun k => Nat.le_trans (hsm k) (by decide))).mono ?_
          rintro e w6 ⟨r6, rfl, hv6, hb6⟩
          obtain ⟨s10, a10, n10, rfl⟩ := hv6.shape
          replace p0 := keepc hb6 p0
          replace q0 := keepc hb6 q0
          replace q1 := keepc hb6 q1
          replace r0 := keepc hb6 r0
          replace r1 := keepc hb6 r1
          replace hlr := hlr.up hb6
          replace hrw2 := hrw2.up hb6
          replace hbl := Bl.up hbl hb6
          go_wp2_with fail
          refine hK.out _ _ (fun _ => ⟨p0, q0, q1, r0, r1⟩) ?_
          have hHeld6 : w6.cell? ⟨ba, offa + i, none⟩ = some (.slice (some ⟨bb, offb, none⟩) nu k1) ∧ w6.cell? ⟨bb, offb + c * 2, none⟩ = some (.bool s) ∧ w6.cell? ⟨bb, offb + c * 2 + 1, none⟩ = some (.slice c2 nn q) ∧ w6.cell? ⟨bd, offd + c * 2, none⟩ = some (.bool s5) ∧ w6.cell? ⟨bd, offd + c * 2 + 1, none⟩ = some (.slice c5 n5 q5) := ⟨p0, q0, q1, r0, r1⟩
          clear hK; (try clear hHeld5)
          (try simp only [lay, List.getElem_toArray, List.getElem_cons_succ, List.getElem_cons_zero])
          (refine tP 19 rfl ?_; (try simp only [lay, List.getElem_toArray, List.getElem_cons_succ, List.getElem_cons_zero]))
          refine wpAnyT_done (by kernel_rfl) ?_ _
          obtain rfl : a10 = nu := by rw [← hpln]; exact (Rw.len hv6).symm
          clear hHeld6 p0 q0 q1 r0 r1 q2 r2 hv4 hv5 hb4 hb5 hb6
          go_wp2_with fail
          go_roundw
          case rel => exact ⟨i + 1, _, _, _, by omega, by go_num, rfl, HST.out, hv6, hbl⟩
          case measure => simp [intOf]; omega
    · have i1 : ¬ (i : Int) < (r : Int) := by omega
      have hir : i = r := by omega
      rw [hir] at hL
      have hd := hL.done HN.out
      have hlen := hL.len
      clear hL hir
      go_wp2_with fail
      refine (rzero_any _ left _ hlr (by omega)).mono ?_
      rintro e w3 ⟨rfl, hb3⟩
      have hdd := hd.trans HLAT.out
      generalize (!left.any nz) = b at *
      have HD := Lib.hid hdd
      clear hdd hd
      go_wp2_with fail
      go_ret
      exact ⟨b, rfl, HD.out, Bl.up HB1.out (Bl.up hbl hb3)⟩
end Go.Proofs.YtdbpkoddfcdhdaaGreat
