/-
  The reference: chosen.
  The reference: minor.
-/
import Derived.Test.YtdbpkoddfcdhdaaGreatSA
import Derived.Test.YtdbpkoddfcdhdaaGreatQD
import Derived.Test.YtdbpkoddfcdhdaaGreatPU
import Derived.Test.YtdbpkoddfcdhdaaGreatPH
set_option linter.unusedSimpArgs false
set_option linter.unusedVariables false

namespace Go.Proofs.YtdbpkoddfcdhdaaGreat
open Go.RowKit
attribute [local go_sem ↓] Go.wp_at_zero Go.wp_at_succ

theorem chA_len (n k : Nat) : ∀ (d : Nat) (now : List Nat), (chA n k d now).length + 1 ≤ 2 ^ d
  | 0, now => by simp [chA]
  | d + 1, now => by
    have h1 := chA_len n k d now
    have h2 := chA_len n k d (now ++ [n - (d + 1)])
    rw [chA, List.length_append]
    have : 2 ^ (d + 1) = 2 ^ d + 2 ^ d := by rw [Nat.pow_succ]; omega
    split
    · rw [List.length_singleton]; omega
    · omega
theorem chC_len (n k d : Nat) (now : List Nat) : (chC n k d now).length ≤ 2 ^ d := by
  unfold chC
  split
  · exact Nat.one_le_two_pow
  · have := chA_len n k d now; omega

theorem Nw.one (w : World) (T : Nat) (x : Nat) : Nw (w.alloc (.cells #[.int .i64 (x : Int)] T)) (.slice (some ⟨w.heap.size, 0, none⟩) 1 1) [x] :=
  ⟨_, 0, 1, rfl, Nat.le_refl _, by simp, fun i hi => by
    obtain rfl : i = 0 := by simpa using hi
    rw [World.cell?_alloc_at _ _ _ _ rfl]; rfl⟩
def ChoR (L : List (List Nat)) (base : Nat) (w : World) (e : Ending) (w' : World) : Prop := ∃ v, e = .returned v ∧ OmL w' base v L ∧ Below base w w' ∧ KeepN w w'

set_option maxRecDepth 100000 in
set_option maxHeartbeats 2000000 in
theorem rchosen_any (n k : Nat) (hk0 : 0 < k) (hk : k ≤ 1000) (hn : n ≤ 30) : ∀ (d : Nat), d ≤ n → ∀ (now : List Nat) (base : Nat) (vo vn : Value) (L : List (List Nat)) (fr : Int) (w : World), fr = ((n - d : Nat) : Int) → OmL w base vo L → base ≤ w.heap.size → Nw w vn now → now.length ≤ k → L.length + 2 ^ (d + 1) ≤ 1099511627776 →
    Calls Tryz.prog 36 #[vo, vn, .int .i64 fr, .int .i64 (n : Int), .int .i64 (k : Int)] w (ChoR (L ++ chC n k d now) base w) := by
  intro d
  induction d using Nat.strongRecOn with
  | _ d ih =>
    intro hd now base vo vn L fr w hfr hO hbase hN hnk hl
    have IH := Lib.hid ih
    clear ih
    obtain ⟨bn, on, cn, rfl, -, -, -⟩ := id hN
    by_cases he : now.length = k
    · have h1 : ((now.length : Int) == (k : Int)) = true := by rw [beq_iff_eq]; omega
      have hC : chC n k d now = [now] := by unfold chC; rw [if_pos he]
      rw [hC]
      have hkl : now.length ≤ 1000 := by omega
      have hn0 : 0 < now.length := by omega
      have HE := Lib.hid he
      have hL : L.length ≤ 1099511627776 := Nat.le_trans (Nat.le_add_right _ _) hl
      clear he hC hnk hl IH hfr
      have hsh := hN.len
      obtain ⟨p, hp⟩ : ∃ p, p = now.length := ⟨_, rfl⟩
      rw [← hp] at h1 hsh hN hkl hn0 ⊢
      have HP := Lib.hid hp
      clear hp hsh
      go_enter Tryz.func36, Tryz.ntmps36
      go_wp2_with (first
        | (at_builtin; refine wpl_apN rfl (.tmp 17) (.tmp 18) _ rfl Tryz.underlying69 w.heap.size _ [] rfl (On.lit0 w (Nat.le_refl _)) (by simp) _ now rfl (hN.up (below_new _ _)) (show 0 + now.length ≤ _ by rw [← HP.out]; omega) ?_; intro v1 w1 hO1 hb1; rw [List.nil_append] at hO1; have hN1 := hO1.nw (by rw [← HP.out]; exact hn0); obtain ⟨b1, o1, c1, rfl, -⟩ := id hN1; rw [← HP.out] at hN1 ⊢; have hbw := (below_new w (.cells #[] 3)).trans hb1; clear hO1 hb1)
        | (at_builtin; refine wpl_apNsL rfl (.tmp 16) (.tmp 20) _ rfl Tryz.underlying67 base _ L rfl ((hO.up hbw).up (below_new _ _)) (by have := hbw.size; simp; omega) w1.heap.size _ _ _ _ _ _ now HP.out.symm rfl (heap_alloc_new _ _) (hN1.up (below_new _ _)) hL ?_; intro g cap w2 hO2 hb2 hk2))
      go_ret
      exact ⟨_, rfl, .inr hO2, ((hbw.mono hbase).trans ((below_new w1 _).mono (Nat.le_trans hbase hbw.size))).trans hb2, ((KeepN.of hbw).trans (KeepN.of (below_new w1 _))).trans hk2⟩
    · have h1 : ((now.length : Int) == (k : Int)) = false := by rw [beq_eq_false_iff_ne]; omega
      have hC : chC n k d now = chA n k d now := by unfold chC; rw [if_neg he]
      rw [hC]
      have hlt : now.length < k := by omega
      obtain ⟨f, hf⟩ : ∃ f, f = n - d := ⟨_, rfl⟩
      rw [← hf] at hfr
      subst hfr
      have hfn : f ≤ n := by omega
      have hfd : n - f = d := by omega
      obtain ⟨p, hp⟩ : ∃ p, p = now.length := ⟨_, rfl⟩
      rw [← hp] at h1 hN ⊢
      have HP := Lib.hid hp
      have HN := Lib.hid hN
      have HF := Lib.hid hf
      have HL := Lib.hid hl
      clear hp he hC hnk hN hf hl
      go_enter Tryz.func36, Tryz.ntmps36
      go_wp2_with fail
      go_loopw [0, 11] (fun s0 s11 wq => ∃ (c : Nat) (u : Value) (L' : List (List Nat)), f ≤ c ∧ c ≤ n ∧ s11 = .int .i64 c ∧ s0 = u ∧ OmL wq base u L' ∧ L' ++ chA n k (n - c) now = L ++ chA n k d now ∧ Below base w wq ∧ KeepN w wq)
        (fun _ s11 _ => n - (intOf s11).toNat)
      case atStart => exact ⟨f, _, L, Nat.le_refl _, hfn, rfl, rfl, hO, by rw [hfd], Below.refl _ _, KeepN.refl _⟩
      case round =>
        obtain ⟨c, u, L', hc1, hc2, rfl, rfl, hO', hL', hb, hk'⟩ := hrel
        have HE := Lib.hid hL'
        have hlen := congrArg List.length hL'
        rw [List.length_append, List.length_append] at hlen
        have hA := chA_len n k d now
        have hl := HL.out
        rw [Nat.pow_succ] at hl
        clear hL' hO
        have c0 : (0 : Int) ≤ (c : Int) := by omega
        have hbs := hb.size
        have hbw : base ≤ wr.heap.size := Nat.le_trans hbase hbs
        by_cases hcn : c < n
        · have c1 : (c : Int) < (n : Int) := by omega
          have hN' := hk' _ _ HN.out
          have hd' : n - c = (n - (c + 1)) + 1 := by omega
          have hA2 : chA n k (n - c) now = chC n k (n - (c + 1)) (now ++ [c]) ++ chA n k (n - (c + 1)) now := by
            rw [hd', chA_succ, show n - (n - (c + 1) + 1) = c by omega]
          have HA2 := Lib.hid hA2
          have hpw : 2 ^ (n - (c + 1) + 1) ≤ 2 ^ d := Nat.pow_le_pow_right (by decide) (by have := HF.out; omega)
          have hl2 : L'.length + 2 ^ (n - (c + 1) + 1) ≤ 1099511627776 := by omega
          have hcd : n - (c + 1) < d := by have := HF.out; omega
          have hpk : p < k := by have := HP.out; omega
          clear hA2 hpw hlen hA hl hd'
          go_wp2_with (first
            | (at_builtin; refine wpl_apN rfl (.tmp 29) (.tmp 30) _ rfl Tryz.underlying69 wr.heap.size _ [] rfl (On.lit0 wr (Nat.le_refl _)) (by simp) _ now rfl (hN'.up (below_new _ _)) (show 0 + now.length ≤ _ by rw [← HP.out]; omega) ?_; intro v1 w1 hO1 hb1; rw [List.nil_append] at hO1; have hbw1 := (below_new wr (.cells #[] 3)).trans hb1; clear hb1)
            | (at_builtin; refine wpl_apN rfl (.tmp 31) (.tmp 33) _ rfl Tryz.underlying69 wr.heap.size _ now rfl (hO1.alloc _) (by have := hbw1.size; simp; omega) _ [c] rfl (Nw.one w1 _ c) (by rw [← HP.out]; simp; omega) ?_; intro v2 w2 hO2 hb2; have hN2 := hO2.nw (by simp); have hbw2 := (Bl.alloc hbw1 _).trans hb2; clear hO1 hb2 hbw1))
          refine (IH.out (n - (c + 1)) hcd (by omega) (now ++ [c]) base _ _ L' ((c : Int) + 1) w2 (by omega) (hO'.up hbw2) (by have := hbw2.size; omega) hN2 (by rw [List.length_append, ← HP.out]; simp; omega) hl2).mono ?_
          rintro e w3 ⟨v3, rfl, hO3, hb3, hk3⟩
          have hR : (L' ++ chC n k (n - (c + 1)) (now ++ [c])) ++ chA n k (n - (c + 1)) now = L ++ chA n k d now := by rw [List.append_assoc, ← HA2.out]; exact HE.out
          have HR := Lib.hid hR
          clear hR HE HA2 hl2 hcd
          go_wp2_with fail
          go_roundw
          case rel => exact ⟨c + 1, _, _, by omega, by omega, by go_num, rfl, hO3, HR.out, (hb.trans (hbw2.mono hbw)).trans hb3, (hk'.trans (KeepN.of hbw2)).trans hk3⟩
          case measure => simp [intOf]; omega
        · have c1 : ¬ (c : Int) < (n : Int) := by omega
          obtain rfl : c = n := by omega
          have hE := HE.out
          rw [show c - c = 0 by omega, chA, List.append_nil] at hE
          subst hE
          clear HE
          go_wp2_with fail
          go_ret
          exact ⟨_, rfl, hO', hb, hk'⟩
end Go.Proofs.YtdbpkoddfcdhdaaGreat

namespace Go.Proofs.YtdbpkoddfcdhdaaGreat
open Go.RowKit
attribute [local go_sem ↓] Go.wp_at_zero Go.wp_at_succ

def subR (m : List (List Int)) (cols : List Nat) (x : Nat) : List Int := (List.range cols.length).map fun b => en m x (cols.getD b 0)
def subM (m : List (List Int)) (rows cols : List Nat) : List (List Int) := (List.range rows.length).map fun a => subR m cols (rows.getD a 0)
theorem subR_len (m : List (List Int)) (cols : List Nat) (x : Nat) : (subR m cols x).length = cols.length := by simp [subR]
theorem subR_take (m : List (List Int)) (cols : List Nat) (x : Nat) {j : Nat} (h : j < cols.length) : (subR m cols x).take (j + 1) = (subR m cols x).take j ++ [en m x (cols.getD j 0)] := range_take _ _ _ h
theorem subM_take (m : List (List Int)) (rows cols : List Nat) {i : Nat} (h : i < rows.length) : (subM m rows cols).take (i + 1) = (subM m rows cols).take i ++ [subR m cols (rows.getD i 0)] := by
  rw [List.take_succ_eq_append_getElem (by simpa [subM] using h)]
  simp [subM]
theorem subM_en {m : List (List Int)} {rows cols : List Nat} {a b : Nat} (ha : a < rows.length) (hb : b < cols.length) : en (subM m rows cols) a b = en m (rows.getD a 0) (cols.getD b 0) := by
  unfold en subM subR
  simp [List.getD_eq_getElem?_getD, ha, hb, en]
theorem subM_shape (m : List (List Int)) (rows cols : List Nat) : Shape rows.length cols.length (subM m rows cols) :=
  ⟨by simp [subM], fun a ha => by simp [subM, List.getD_eq_getElem?_getD, ha, subR]⟩
theorem subM_bt {m : List (List Int)} {rows cols : List Nat} {E : Nat} (hb : ∀ i j, Bt (en m i j) E) (a b : Nat) : Bt (en (subM m rows cols) a b) E := by
  by_cases h : a < rows.length ∧ b < cols.length
  · rw [subM_en h.1 h.2]; exact hb _ _
  · have : en (subM m rows cols) a b = 0 := by
      unfold en
      rcases Nat.lt_or_ge a rows.length with ha | ha
      · have hb' : cols.length ≤ b := by omega
        rw [show (subM m rows cols).getD a [] = subR m cols (rows.getD a 0) by simp [subM, List.getD_eq_getElem?_getD, ha]]
        simp [List.getD_eq_getElem?_getD, List.getElem?_eq_none (show (subR m cols (rows[a]?.getD 0)).length ≤ b by rw [subR_len]; exact hb')]
      · rw [show (subM m rows cols).getD a [] = [] by simp [List.getD_eq_getElem?_getD, List.getElem?_eq_none (show (subM m rows cols).length ≤ a by simpa [subM] using ha)]]
        simp
    rw [this]; exact Bt.zero
theorem subM_det {m : List (List Int)} {rows cols : List Nat} {k : Nat} (hr : rows.length = k) (hc : cols.length = k) : det k (en (subM m rows cols)) = mnL m k rows cols :=
  det_congr k fun a b ha hb => subM_en (by omega) (by omega)

set_option maxRecDepth 100000 in
set_option maxHeartbeats 4000000 in
theorem rminor_any {E R N k : Nat} (hE : dB E 4 ≤ 1000000) (hk : k ≤ 4) (v vr vc : Value) (m : List (List Int)) (rows cols : List Nat) (w : World) (h : Mx w v m) (hs : Shape R N m) (hR : R ≤ 1000) (hN : N ≤ 1000) (hbt : ∀ i j, Bt (en m i j) E)
    (hr : Nw w vr rows) (hc : Nw w vc cols) (lr : rows.length = k) (lc : cols.length = k) (br : ∀ a, a < k → rows.getD a 0 < R) (bc : ∀ a, a < k → cols.getD a 0 < N) :
    Calls Tryz.prog 38 #[v, vr, vc] w fun e w' => ∃ r, e = .returned r ∧ It w' r (mnL m k rows cols) ∧ Below w.heap.size w w' := by
  obtain ⟨bR, oR, cR, rfl, -, hbR, hcR⟩ := id hr
  obtain ⟨bC, oC, cC, rfl, -, hbC, hcC⟩ := id hc
  rw [lr] at hcR ⊢
  rw [lc] at hcC ⊢
  obtain ⟨aM, cM, rfl, -, -⟩ := id h
  rw [hs.1] at h ⊢
  have HLR := Lib.hid lr
  have HLC := Lib.hid lc
  have HBR := Lib.hid br
  have HBC := Lib.hid bc
  have HCR := Lib.hid hcR
  have HCC := Lib.hid hcC
  have HD := Lib.hid (subM_det (m := m) lr lc)
  have hsh := subM_shape m rows cols
  rw [lr, lc] at hsh
  have hv0 := Vx.new0 (w := w) (T := 56) rfl
  clear lr lc br bc hr hc hcR hcC
  go_enter Tryz.func38, Tryz.ntmps38
  go_wp2_with fail
  go_loopw [7, 8, 9, 10] (fun s7 s8 _ _ wq => ∃ (i : Nat) (u : Value), i ≤ k ∧ s8 = .int .i64 i ∧ s7 = u ∧ Am2 wq (w.heap.size + 1) u ((subM m rows cols).take i) ∧ Below (w.heap.size + 1) (w.alloc (.cells #[.bool false, .slice none 0 0] 56)) wq)
    (fun _ s8 _ _ _ => k - (intOf s8).toNat)
  case atStart => exact ⟨0, _, Nat.zero_le _, rfl, rfl, by simpa using Am2.lit0 (w.alloc (.cells #[.bool false, .slice none 0 0] 56)) (Nat.le_refl _), by have := below_new (w.alloc (.cells #[.bool false, .slice none 0 0] 56)) (.cells #[] 36); simpa using this⟩
  case round =>
    obtain ⟨i, u, hi, rfl, rfl, hAm, hbl⟩ := hrel
    have i0 : (0 : Int) ≤ (i : Int) := by omega
    have hv0' := hv0.up (show Below _ _ wr by simpa using hbl)
    have hsz := hbl.size
    have hszw : w.heap.size < wr.heap.size := by simp at hsz; omega
    by_cases hlt : i < k
    · have i1 : (i : Int) < (k : Int) := by omega
      go_wp2_with fail
      obtain ⟨wo, hwo⟩ : ∃ wo, wo = wr := ⟨_, rfl⟩
      rw [← hwo] at hAm hbl hv0' hsz hszw ⊢
      clear hwo
      have hbo0 : Below w.heap.size w wo := (below_new w _).trans (hbl.mono (Nat.le_succ _))
      have hcr := keepc hbo0 (HCR.out i hlt)
      have hx := HBR.out i hlt
      obtain ⟨x, hxe⟩ : ∃ x, x = rows.getD i 0 := ⟨_, rfl⟩
      rw [← hxe] at hcr hx
      have hTM := subM_take m rows cols (i := i) (by rw [HLR.out]; exact hlt)
      rw [← hxe] at hTM
      have HTM := Lib.hid hTM
      clear hTM hxe
      obtain ⟨ba, offa, ar, k1, rfl, hba, p0, hk1, hrw⟩ := (h.up hbo0).row hs hx
      have x0 : (0 : Int) ≤ (x : Int) := by omega
      have x1 : (x : Int) < (R : Int) := by omega
      have hml := hs.2 x hx
      go_loopw [9, 10] (fun s9 s10 wq => ∃ (j : Nat) (o : List Int) (u' : Value), j ≤ k ∧ s10 = .int .i64 j ∧ s9 = u' ∧ o = (subR m cols x).take j ∧ Ap wq wo.heap.size u' o ∧ Below wo.heap.size wo wq)
        (fun _ s10 _ => k - (intOf s10).toNat)
      case atStart => exact ⟨0, [], _, Nat.zero_le _, rfl, rfl, rfl, Ap.lit0 _ (Nat.le_refl _), below_new _ _⟩
      case round =>
        obtain ⟨j, o, u', hj, rfl, rfl, ho, hAp, hbo⟩ := hrel
        have HO := Lib.hid ho
        have hol : o.length ≤ 1099511627776 := by rw [ho, List.length_take, subR_len, HLC.out]; omega
        clear ho
        have j0 : (0 : Int) ≤ (j : Int) := by omega
        by_cases hjn : j < k
        · have j1 : (j : Int) < (k : Int) := by omega
          have hTR := subR_take m cols x (j := j) (by rw [HLC.out]; exact hjn)
          have hcc := keepc (Bl.up hbo0 hbo) (HCC.out j hjn)
          have hy := HBC.out j hjn
          generalize cols.getD j 0 = y at *
          have HTR := Lib.hid hTR
          clear hTR
          have y0 : (0 : Int) ≤ (y : Int) := by omega
          have y1 : (y : Int) < (N : Int) := by omega
          obtain ⟨bb, offb, s, c, nn, q, rfl, hbb, q0, q1, q2⟩ := hrw.get hy
          replace q0 := keepc hbo q0
          replace q1 := keepc hbo q1
          replace q2 := q2.up hbo
          replace p0' := keepc hbo p0
          replace hcr' := keepc hbo hcr
          change It wr _ (en m x y) at q2
          generalize en m x y = z at *
          unfold nv1 at hcc hcr'
          go_upto_region 9 with fail
          refine wp_region_T (by kernel_rfl) [14] (S := fun w' => w'.cell? ⟨bR, oR + i, none⟩ = some (.int .i64 (x : Int)) ∧ w'.cell? ⟨bC, oC + j, none⟩ = some (.int .i64 (y : Int)) ∧ w'.cell? ⟨ba, offa + x, none⟩ = some (.slice (some ⟨bb, offb, none⟩) N k1) ∧ w'.cell? ⟨bb, offb + y * 2, none⟩ = some (.bool s) ∧ w'.cell? ⟨bb, offb + y * 2 + 1, none⟩ = some (.slice c nn q)) ⟨hcr', hcc, p0', q0, q1⟩ (fun hHeld => ?_)
          (refine tP 0 rfl ?_; (try simp only [lay, List.getElem_toArray, List.getElem_cons_succ, List.getElem_cons_zero]))
          (refine tP 1 rfl ?_; (try simp only [lay, List.getElem_toArray, List.getElem_cons_succ, List.getElem_cons_zero]))
          (refine tP 2 rfl ?_; (try simp only [lay, List.getElem_toArray, List.getElem_cons_succ, List.getElem_cons_zero]))
          (refine tP 3 rfl ?_; (try simp only [lay, List.getElem_toArray, List.getElem_cons_succ, List.getElem_cons_zero]))
          (refine tP 4 rfl ?_; (try simp only [lay, List.getElem_toArray, List.getElem_cons_succ, List.getElem_cons_zero]))
          (refine tK 5 rfl ?_; (try simp only [lay, List.getElem_toArray, List.getElem_cons_succ, List.getElem_cons_zero]))
          (refine tP 6 rfl ?_; (try simp only [lay, List.getElem_toArray, List.getElem_cons_succ, List.getElem_cons_zero]))
          (refine tK 7 rfl ?_; (try simp only [lay, List.getElem_toArray, List.getElem_cons_succ, List.getElem_cons_zero]))
          (refine tP 8 rfl ?_; (try simp only [lay, List.getElem_toArray, List.getElem_cons_succ, List.getElem_cons_zero]))
          (refine tP 9 rfl ?_; (try simp only [lay, List.getElem_toArray, List.getElem_cons_succ, List.getElem_cons_zero]))
          (refine tP 10 rfl ?_; (try simp only [lay, List.getElem_toArray, List.getElem_cons_succ, List.getElem_cons_zero]))
          (refine tK 11 rfl ?_; (try simp only [lay, List.getElem_toArray, List.getElem_cons_succ, List.getElem_cons_zero]))
          (refine tP 12 rfl ?_; (try simp only [lay, List.getElem_toArray, List.getElem_cons_succ, List.getElem_cons_zero]))
          (refine tK 13 rfl ?_; (try simp only [lay, List.getElem_toArray, List.getElem_cons_succ, List.getElem_cons_zero]))
          (refine wpAnyT_one (i := 14) (by as_aux_lemma => kernel_rfl) rfl (fun K hK => ?_); (try simp only [lay, List.getElem_toArray, List.getElem_cons_succ, List.getElem_cons_zero]); go_simp)
          refine hK.out _ _ (fun h => absurd h (by decide)) ?_
          clear hK hHeld
          (try simp only [lay, List.getElem_toArray, List.getElem_cons_succ, List.getElem_cons_zero])
          refine wpAnyT_one (i := 15) (by as_aux_lemma => kernel_rfl) rfl (fun K hK => ?_)
          refine step_apI (by rfl) (.tmp 25) (.tmp 39) _ (by rfl) Tryz.underlying36 wo.heap.size _ o (by rfl) (hAp.drew.alloc _) (by have := hbo.size; simp; omega) wr.heap.size _ _ _ s c nn q z (by rfl) (by exact heap_alloc_new _ _) (q2.drew.alloc _) hol ?_
          intro g cap w4 hAp4 hb4
          refine hK.out _ _ (fun h => absurd h (by decide)) ?_
          clear hK
          (try simp only [lay, List.getElem_toArray, List.getElem_cons_succ, List.getElem_cons_zero])
          (refine tP 16 rfl ?_; (try simp only [lay, List.getElem_toArray, List.getElem_cons_succ, List.getElem_cons_zero]))
          refine wpAnyT_done (by kernel_rfl) ?_ _
          clear p0' hcr' hcc q0 q1 q2
          go_wp2_with fail
          go_roundw
          case rel => exact ⟨j + 1, _, _, by omega, by go_num, rfl, by rw [HTR.out, ← HO.out], hAp4, (Bl.alloc (Bl.drew hbo) _).trans hb4⟩
          case measure => simp [intOf]; omega
        · have hjk : j = k := by omega
          subst hjk
          have hor : o = subR m cols x := by rw [HO.out]; exact List.take_of_length_le (by rw [subR_len, HLC.out]; exact Nat.le_refl _)
          have j1 : ¬ (j : Int) < (j : Int) := by omega
          have hR2 := hAp.rw
          rw [hor] at hR2
          obtain ⟨ax, cx, e, -⟩ := id hR2
          subst e
          rw [subR_len, HLC.out] at hR2 hAp ⊢
          have hlx : (subR m cols x).length = j := by rw [subR_len, HLC.out]
          have hAm2 := hAm.up hbo
          have hszo := hbo.size
          have hml2 : ((subM m rows cols).take i).length ≤ 1099511627776 := by rw [List.length_take]; omega
          have hlti : ((subM m rows cols).take i).length = i := by rw [List.length_take, hsh.1]; omega
          clear hor HO hol hAp hrw
          go_wp2_with (at_builtin; go_must (refine wpl_apR rfl (.tmp 41) (.tmp 43) _ rfl Tryz.underlying27 (w.heap.size + 1) _ ((subM m rows cols).take i) rfl (hAm2.alloc _) (by simp; omega) wr.heap.size _ _ _ _ _ _ (subR m cols x) hlx rfl (heap_alloc_new _ _) (hR2.up (below_new _ _)) hml2 ?_); intro g cap' w4 hAm4 hb4; rw [hlti] at hAm4 ⊢)
          go_roundw
          case rel => exact ⟨i + 1, _, by omega, by go_num, rfl, by rw [HTM.out]; exact hAm4, ((hbl.trans (hbo.mono (by simp at hsz; omega))).alloc (by omega) _).trans hb4⟩
          case measure => simp [intOf]; omega
    · have hik : i = k := by omega
      subst hik
      have i1 : ¬ (i : Int) < (i : Int) := by omega
      have hM := hAm.1.mx (Below.refl _ _)
      rw [List.take_of_length_le (by rw [hsh.1]; exact Nat.le_refl _)] at hM
      clear hAm
      obtain ⟨s2, a2, n2, c2, y0, y1, y2, y3, iy⟩ := hv0'.cells
      go_wp2_with fail
      refine (rdet_any E hE i hk _ (subM m rows cols) wr hM hsh (subM_bt hbt)).mono ?_
      rintro e w5 ⟨r, rfl, hr5, hb5⟩
      rw [HD.out] at hr5
      have hbw := ((below_new w (.cells #[.bool false, .slice none 0 0] 56)).trans (hbl.mono (Nat.le_succ _))).trans (hb5.mono (by omega))
      obtain ⟨s3, a3, n3, c3, rfl⟩ := hr5.shape
      replace hv0' := hv0'.up hb5
      clear y0 y1 y2 y3 iy hb5 hM
      obtain ⟨s2, a2, n2, c2, y0, y1, y2, y3, iy⟩ := hv0'.cells
      go_wp2_with fail
      refine ret_vx (B := w.heap.size) (z := mnL m i rows cols) rfl rfl rfl (Vx.put hv0'.va hr5) (fun v hv => ⟨v, rfl, hv, Bl.st hbw (Nat.le_refl _)⟩)
end Go.Proofs.YtdbpkoddfcdhdaaGreat
