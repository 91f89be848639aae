/-
  algoristlaw12.LatticeMatchesReference: the walk.
-/
import Derived.Test.YtdbpkoddfcdhdaaGreatPV
import Derived.Test.YtdbpkoddfcdhdaaGreatPO
import Derived.Test.YtdbpkoddfcdhdaaGreatSD
set_option linter.unusedSimpArgs false
set_option linter.unusedVariables false

namespace Go.Proofs.YtdbpkoddfcdhdaaGreat
open Go.RowKit
attribute [local go_sem ↓] Go.wp_at_zero Go.wp_at_succ

/-- What lasts: the matrix, the two results. -/
structure MtF (w : World) (vm : Value) (m H K : List (List Int)) (B : Nat) (aH aK : Option Addr) (nH nK cH cK : Nat) (W : World) : Prop where
  bl : Below w.heap.size w W
  mx : Mx W vm m
  h0 : W.cell? ⟨B, 0, none⟩ = some (.slice aH nH cH)
  h1 : W.cell? ⟨B, 1, none⟩ = some (.int .i64 0)
  k0 : W.cell? ⟨B + 1, 0, none⟩ = some (.slice aK nK cK)
  k1 : W.cell? ⟨B + 1, 1, none⟩ = some (.int .i64 0)
  mh : Mx W (.slice aH nH cH) H
  mkr : Mx W (.slice aK nK cK) K
theorem MtF.up {w : World} {vm : Value} {m H K : List (List Int)} {B : Nat} {aH aK : Option Addr} {nH nK cH cK : Nat} {W W' : World} (h : MtF w vm m H K B aH aK nH nK cH cK W) (hb : Below W.heap.size W W') : MtF w vm m H K B aH aK nH nK cH cK W' :=
  ⟨Bl.up h.bl hb, h.mx.up hb, keepc hb h.h0, keepc hb h.h1, keepc hb h.k0, keepc hb h.k1, h.mh.up hb, h.mkr.up hb⟩
theorem MtF.new {w W : World} {vm : Value} {m H K : List (List Int)} {aH aK : Option Addr} {cH cK T : Nat} (hb : Below w.heap.size w W) (hm : Mx W vm m) (hh : Mx W (.slice aH H.length cH) H) (hk : Mx W (.slice aK K.length cK) K) :
    MtF w vm m H K W.heap.size aH aK H.length K.length cH cK ((W.alloc (.cells #[.slice aH H.length cH, .int .i64 0] T)).alloc (.cells #[.slice aK K.length cK, .int .i64 0] T)) := by
  have b1 := below_new W (.cells #[.slice aH H.length cH, .int .i64 0] T)
  have b2 := below_new (W.alloc (.cells #[.slice aH H.length cH, .int .i64 0] T)) (.cells #[.slice aK K.length cK, .int .i64 0] T)
  have b := b1.trans (b2.mono (by simp))
  exact ⟨Bl.up hb b, hm.up b, cellN (by rw [World.cell?_alloc_at _ _ _ _ rfl]; rfl) _, cellN (by rw [World.cell?_alloc_at _ _ _ _ rfl]; rfl) _, by rw [World.cell?_alloc_at _ _ _ _ (by simp)]; rfl, by rw [World.cell?_alloc_at _ _ _ _ (by simp)]; rfl, hh.up b, hk.up b⟩

theorem same_mat {R N E : Nat} {H : List (List Int)} (hs : Shape R N H) (hR : R ≤ 5) (hN : N ≤ 5) (hE : E ≤ 34359738368) (hb : ∀ j k, Bt (en H j k) E) (va vb : Value) (w : World) (ha : Mx w va H) (hb' : Mx w vb H) :
    Calls Tryz.prog 12 #[va, vb] w fun e w' => e = .returned (.bool true) ∧ Below w.heap.size w w' := by
  have h1 : ∀ i, SmallR (H.getD i []) := fun i k => Nat.le_trans (sz30 (hb i k) hE) (by decide)
  have h2 : ∀ i, (H.getD i []).length ≤ 1099511627776 := fun i => by
    rcases Nat.lt_or_ge i R with hi | hi
    · rw [hs.2 i hi]; omega
    · rw [List.getD_eq_getElem?_getD, List.getElem?_eq_none (by rw [hs.1]; exact hi)]; decide
  have := rsameM_any va vb H H w ha hb' (by rw [hs.1]; omega) (by rw [hs.1]; omega) h1 h1 h2 h2
  rw [show sameMB H H = true from by simp [sameMB]] at this
  exact this
theorem same_row {l : List Int} {E : Nat} (hl : l.length ≤ 5) (hE : E ≤ 34359738368) (hb : ∀ k, Bt (l.getD k 0) E) (va vb : Value) (w : World) (ha : Rw w va l) (hb' : Rw w vb l) :
    Calls Tryz.prog 13 #[va, vb] w fun e w' => e = .returned (.bool true) ∧ Below w.heap.size w w' := by
  have h1 : SmallR l := fun k => Nat.le_trans (sz30 (hb k) hE) (by decide)
  have := rsameRow_any va vb l l w ha hb' (by omega) (by omega) h1 h1
  rw [show sameRowB l l = true from by simp [sameRowB]] at this
  exact this

set_option maxRecDepth 100000 in
set_option maxHeartbeats 8000000 in
theorem matchL_any (r c : Nat) (a : Option Addr) (cap : Nat) (V : List Int) (w : World) (hV : Cl w a V.length (fun i => .int .i8 (V.getD i 0))) (hv : ∀ i, -128 ≤ V.getD i 0 ∧ V.getD i 0 ≤ 127) (hN : V.length ≤ 9223372036854775807)
    (hr : r ≤ 255) (hc : c ≤ 255) :
    Calls Tryz.prog 3 #[.agg #[.int .u8 (r : Int), .int .u8 (c : Int), .slice a V.length cap]] w fun e w' => e = .returned (.bool true) ∧ Below w.heap.size w w' := by
  have CM := Lib.hid fun W (hW : Below w.heap.size w W) => rmade_any r c 4 5 a cap V W (hV.up hW) hv hN hr hc (by decide) (by decide) (by decide)
  have hnb : c % 5 < 5 := Nat.mod_lt _ (by decide)
  have hRb : r % (4 + 1) < 4 + 1 := Nat.mod_lt _ (by decide)
  have hbt := madeM_bt V (r % (4 + 1)) (1 + c % 5) hv
  have hsh := madeM_shape V (r % (4 + 1)) (1 + c % 5)
  obtain ⟨n, hn⟩ : ∃ n, n = 1 + c % 5 := ⟨_, rfl⟩
  obtain ⟨R, hR⟩ : ∃ R, R = r % (4 + 1) := ⟨_, rfl⟩
  have hn0 : 0 < n := by omega
  have hn1 : n ≤ 5 := by omega
  have hR1 : R ≤ 4 := by omega
  rw [← hn, ← hR] at hbt hsh
  simp only [← hn, ← hR] at CM
  generalize hm : madeM V R n = m at *
  clear hm hn hR hnb hRb hv hV hN
  go_enter Tryz.func3, Tryz.ntmps3
  go_wp2_with fail
  obtain ⟨W2, hW2⟩ : ∃ W2, W2 = w.alloc (.cells #[.int .u8 (r : Int), .int .u8 (c : Int), .slice a V.length cap] 24) := ⟨_, rfl⟩
  have b2 : Below w.heap.size w W2 := by rw [hW2]; exact below_new _ _
  have x0 : W2.cell? ⟨w.heap.size, 0, none⟩ = some (.int .u8 (r : Int)) := by rw [hW2, World.cell?_alloc_at _ _ _ _ rfl]; rfl
  have x1 : W2.cell? ⟨w.heap.size, 1, none⟩ = some (.int .u8 (c : Int)) := by rw [hW2, World.cell?_alloc_at _ _ _ _ rfl]; rfl
  have x2 : W2.cell? ⟨w.heap.size, 2, none⟩ = some (.slice a V.length cap) := by rw [hW2, World.cell?_alloc_at _ _ _ _ rfl]; rfl
  rw [← hW2]
  clear hW2
  refine (examples_any _).mono ?_
  rintro e W3 ⟨rfl, hb⟩
  replace b2 := Bl.up b2 hb
  replace x0 := keepc hb x0
  replace x1 := keepc hb x1
  replace x2 := keepc hb x2
  clear hb
  go_wp2_with fail
  refine (CM.out _ b2).mono ?_
  rintro e W4 ⟨vm, rfl, hM, hb⟩
  have hbl : Below w.heap.size w W4 := Bl.up b2 hb
  clear hb b2 x0 x1 x2 CM
  obtain ⟨am, cm, rfl, -, -⟩ := id hM
  rw [hsh.1] at hM ⊢
  have HBT := Lib.hid hbt
  have HSH := Lib.hid hsh
  clear hbt
  rcases Nat.eq_zero_or_pos R with hR0 | hR0
  · subst hR0
    have e : m = [] := List.eq_nil_of_length_eq_zero hsh.1
    subst e
    clear hsh
    have HMN : ∀ (W : World) (a : Option Addr) (c : Nat), Mx W (.slice a 0 c) [] := fun W a c => ⟨a, c, rfl, Nat.zero_le _, .inl rfl⟩
    have hbz : ∀ j k, Bt (en ([] : List (List Int)) j k) 1 := fun j k => by unfold en; simp; exact Bt.zero
    have HBZ := Lib.hid hbz
    have HNN := Lib.hid HMN
    clear HMN hbz HBT HSH
    go_wp2_with fail
    refine (Lhermite_any (.slice am 0 cm) W4 0 (fun H => H = []) (fun H hH i hi => by subst hH; exact absurd hi (Nat.not_lt_zero i))
      (fun W hW => (Hermite_nil _ W (hM.up hW)).mono (by rintro e w' ⟨rfl, hb⟩; exact ⟨_, [], rfl, rfl, ⟨none, 0, rfl, Nat.le_refl _, .inl rfl⟩, hb⟩))).mono ?_
    rintro e W5 ⟨vH, H, rfl, rfl, hMH, hb⟩
    obtain ⟨aH, cH, eH, -, -⟩ := id hMH
    rw [List.length_nil] at eH
    subst eH
    replace hM := hM.up hb
    replace hbl := Bl.up hbl hb
    clear hb
    go_wp2_with fail
    refine (Lkernel_any (.slice am 0 cm) W5 0 (fun H => H = []) (fun H hH i hi => by subst hH; exact absurd hi (Nat.not_lt_zero i))
      (fun W hW => (Kernel_nil _ W (hM.up hW)).mono (by rintro e w' ⟨rfl, hb⟩; exact ⟨_, [], rfl, rfl, ⟨none, 0, rfl, Nat.le_refl _, .inl rfl⟩, hb⟩))).mono ?_
    rintro e W6 ⟨vK, Km, rfl, rfl, hMK, hb⟩
    obtain ⟨aK, cK, eK, -, -⟩ := id hMK
    rw [List.length_nil] at eK
    subst eK
    have F : MtF w (.slice am 0 cm) [] [] [] W6.heap.size aH aK 0 0 cH cK ((W6.alloc (.cells #[.slice aH 0 cH, .int .i64 0] 31)).alloc (.cells #[.slice aK 0 cK, .int .i64 0] 31)) := MtF.new (H := []) (K := []) (Bl.up hbl hb) (hM.up hb) (hMH.up hb) hMK
    clear hb hM hMH hMK hbl
    go_wp2_with fail
    obtain ⟨W7, hW7⟩ : ∃ W7, W7 = ((W6.alloc (.cells #[.slice aH 0 cH, .int .i64 0] 31)).alloc (.cells #[.slice aK 0 cK, .int .i64 0] 31)) := ⟨_, rfl⟩
    rw [← hW7] at F ⊢
    clear hW7
    generalize W6.heap.size = B at *
    refine (rhermite_nil _ _ F.mx).mono ?_
    rintro e W8 ⟨aD, cD, rfl, hb⟩
    replace F := F.up hb
    clear hb
    go_wp2_with fail
    refine (Rank_nil _ _ F.mx).mono ?_
    rintro e W9 ⟨rfl, hb⟩
    replace F := F.up hb
    clear hb
    go_wp2_with fail
    refine (Smith_nil _ _ F.mx).mono ?_
    rintro e W10 ⟨vS, rfl, hRl, hb⟩
    replace F := F.up hb
    obtain ⟨aS, nS, cS, rfl⟩ := hRl.shape
    clear hb
    have h0 := F.h0
    have h1 := F.h1
    have k0 := F.k0
    have k1 := F.k1
    have C1 := Lib.hid fun W (hW : Below W10.heap.size W10 W) => same_mat (R := 0) (N := 0) (H := []) ⟨rfl, fun i hi => absurd hi (Nat.not_lt_zero i)⟩ (by decide) (by decide) (by decide) HBZ.out _ (.slice aD 0 cD) W (F.mh.up hW) (HNN.out W aD cD)
    have C2 := Lib.hid fun W (hW : Below W10.heap.size W10 W) => rsmith_nil _ W (F.mx.up hW)
    have C3 := Lib.hid fun vb W (hb : Rw W vb []) (hW : Below W10.heap.size W10 W) => same_row (l := []) (E := 1) (by decide) (by decide) (fun k => by simp; exact Bt.zero) _ vb W (hRl.up hW) hb
    go_upto_region 11 with fail
    refine wp_region_T (by kernel_rfl) [] (S := fun w' => w'.cell? ⟨B, 0, none⟩ = some (.slice aH 0 cH) ∧ w'.cell? ⟨B + 1, 0, none⟩ = some (.slice aK 0 cK)) ⟨h0, k0⟩ (fun hHeld => ?_)
    (refine tP 0 rfl ?_; (try simp only [lay, List.getElem_toArray, List.getElem_cons_succ, List.getElem_cons_zero]))
    (refine tK 1 rfl ?_; (try simp only [lay, List.getElem_toArray, List.getElem_cons_succ, List.getElem_cons_zero]))
    (refine tP 2 rfl ?_; (try simp only [lay, List.getElem_toArray, List.getElem_cons_succ, List.getElem_cons_zero]))
    (refine wpAnyT_one (i := 3) (by as_aux_lemma => kernel_rfl) rfl (fun K hK => ?_); (try simp only [lay, List.getElem_toArray, List.getElem_cons_succ, List.getElem_cons_zero]); go_simp)
    refine (C1.out _ (Bl.drew (Below.refl _ _))).mono ?_
    rintro e w1 ⟨rfl, hb1⟩
    have hb := Bl.up (Bl.drew (Below.refl W10.heap.size W10)) hb1
    refine hK.out _ _ (fun _ => ⟨keepc hb h0, keepc hb k0⟩) ?_
    have hHeld1 : w1.cell? ⟨B, 0, none⟩ = some (.slice aH 0 cH) ∧ w1.cell? ⟨B + 1, 0, none⟩ = some (.slice aK 0 cK) := ⟨keepc hb h0, keepc hb k0⟩
    clear hK hHeld hb1
    (try simp only [lay, List.getElem_toArray, List.getElem_cons_succ, List.getElem_cons_zero])
    (refine tP 4 rfl ?_; (try simp only [lay, List.getElem_toArray, List.getElem_cons_succ, List.getElem_cons_zero]))
    (refine tP 5 rfl ?_; (try simp only [lay, List.getElem_toArray, List.getElem_cons_succ, List.getElem_cons_zero]))
    (refine tP 6 rfl ?_; (try simp only [lay, List.getElem_toArray, List.getElem_cons_succ, List.getElem_cons_zero]))
    (refine wpAnyT_one (i := 7) (by as_aux_lemma => kernel_rfl) rfl (fun K hK => ?_); (try simp only [lay, List.getElem_toArray, List.getElem_cons_succ, List.getElem_cons_zero]); go_simp)
    refine (C2.out _ hb).mono ?_
    rintro e w2 ⟨v2, rfl, hv2, hb2⟩
    replace hb := Bl.up hb hb2
    refine hK.out _ _ (fun _ => ⟨keepc hb h0, keepc hb k0⟩) ?_
    have hHeld2 : w2.cell? ⟨B, 0, none⟩ = some (.slice aH 0 cH) ∧ w2.cell? ⟨B + 1, 0, none⟩ = some (.slice aK 0 cK) := ⟨keepc hb h0, keepc hb k0⟩
    clear hK hHeld1 hb2
    (try simp only [lay, List.getElem_toArray, List.getElem_cons_succ, List.getElem_cons_zero])
    (refine wpAnyT_one (i := 8) (by as_aux_lemma => kernel_rfl) rfl (fun K hK => ?_); (try simp only [lay, List.getElem_toArray, List.getElem_cons_succ, List.getElem_cons_zero]); go_simp)
    refine (C3.out _ _ hv2 hb).mono ?_
    rintro e w3 ⟨rfl, hb3⟩
    replace hb := Bl.up hb hb3
    refine hK.out _ _ (fun _ => ⟨keepc hb h0, keepc hb k0⟩) ?_
    have hHeld3 : w3.cell? ⟨B, 0, none⟩ = some (.slice aH 0 cH) ∧ w3.cell? ⟨B + 1, 0, none⟩ = some (.slice aK 0 cK) := ⟨keepc hb h0, keepc hb k0⟩
    clear hK hHeld2 hb3 hv2
    (try simp only [lay, List.getElem_toArray, List.getElem_cons_succ, List.getElem_cons_zero])
    (refine tP 9 rfl ?_; (try simp only [lay, List.getElem_toArray, List.getElem_cons_succ, List.getElem_cons_zero]))
    (refine tP 10 rfl ?_; (try simp only [lay, List.getElem_toArray, List.getElem_cons_succ, List.getElem_cons_zero]))
    (refine tP 11 rfl ?_; (try simp only [lay, List.getElem_toArray, List.getElem_cons_succ, List.getElem_cons_zero]))
    (refine tP 12 rfl ?_; (try simp only [lay, List.getElem_toArray, List.getElem_cons_succ, List.getElem_cons_zero]))
    (refine tP 13 rfl ?_; (try simp only [lay, List.getElem_toArray, List.getElem_cons_succ, List.getElem_cons_zero]))
    (refine tP 14 rfl ?_; (try simp only [lay, List.getElem_toArray, List.getElem_cons_succ, List.getElem_cons_zero]))
    (refine tP 15 rfl ?_; (try simp only [lay, List.getElem_toArray, List.getElem_cons_succ, List.getElem_cons_zero]))
    (refine tK 16 rfl ?_; (try simp only [lay, List.getElem_toArray, List.getElem_cons_succ, List.getElem_cons_zero]))
    (refine tP 17 rfl ?_; (try simp only [lay, List.getElem_toArray, List.getElem_cons_succ, List.getElem_cons_zero]))
    (refine tP 18 rfl ?_; (try simp only [lay, List.getElem_toArray, List.getElem_cons_succ, List.getElem_cons_zero]))
    (refine tP 19 rfl ?_; (try simp only [lay, List.getElem_toArray, List.getElem_cons_succ, List.getElem_cons_zero]))
    (refine tP 20 rfl ?_; (try simp only [lay, List.getElem_toArray, List.getElem_cons_succ, List.getElem_cons_zero]))
    (refine tU 21 rfl ?_; (try simp only [lay, List.getElem_toArray, List.getElem_cons_succ, List.getElem_cons_zero]))
    (refine tU 22 rfl ?_; (try simp only [lay, List.getElem_toArray, List.getElem_cons_succ, List.getElem_cons_zero]))
    (refine tU 23 rfl ?_; (try simp only [lay, List.getElem_toArray, List.getElem_cons_succ, List.getElem_cons_zero]))
    (refine tU 24 rfl ?_; (try simp only [lay, List.getElem_toArray, List.getElem_cons_succ, List.getElem_cons_zero]))
    (refine tU 25 rfl ?_; (try simp only [lay, List.getElem_toArray, List.getElem_cons_succ, List.getElem_cons_zero]))
    (refine tU 26 rfl ?_; (try simp only [lay, List.getElem_toArray, List.getElem_cons_succ, List.getElem_cons_zero]))
    (refine tU 27 rfl ?_; (try simp only [lay, List.getElem_toArray, List.getElem_cons_succ, List.getElem_cons_zero]))
    (refine tU 28 rfl ?_; (try simp only [lay, List.getElem_toArray, List.getElem_cons_succ, List.getElem_cons_zero]))
    (refine tU 29 rfl ?_; (try simp only [lay, List.getElem_toArray, List.getElem_cons_succ, List.getElem_cons_zero]))
    (refine tU 30 rfl ?_; (try simp only [lay, List.getElem_toArray, List.getElem_cons_succ, List.getElem_cons_zero]))
    (refine tP 31 rfl ?_; (try simp only [lay, List.getElem_toArray, List.getElem_cons_succ, List.getElem_cons_zero]))
    (refine tP 32 rfl ?_; (try simp only [lay, List.getElem_toArray, List.getElem_cons_succ, List.getElem_cons_zero]))
    (refine tP 33 rfl ?_; (try simp only [lay, List.getElem_toArray, List.getElem_cons_succ, List.getElem_cons_zero]))
    (refine tP 34 rfl ?_; (try simp only [lay, List.getElem_toArray, List.getElem_cons_succ, List.getElem_cons_zero]))
    (refine tP 35 rfl ?_; (try simp only [lay, List.getElem_toArray, List.getElem_cons_succ, List.getElem_cons_zero]))
    (refine tP 36 rfl ?_; (try simp only [lay, List.getElem_toArray, List.getElem_cons_succ, List.getElem_cons_zero]))
    refine wpAnyT_done (by kernel_rfl) ?_ _
    have hfin := Bl.up F.bl hb
    go_wp2_with fail
    go_ret
    exact ⟨rfl, hfin⟩
  · clear hsh
    have hRne : ((R : Int) == 0) = false := by rw [beq_eq_false_iff_ne]; omega
    have hRgt : (0 : Int) < (R : Int) := by omega
    go_wp2_with fail
    refine (Lhermite_any (.slice am R cm) W4 0 (fun H => (∃ piv, Herm R n m H 6480 piv) ∧ ∀ i, i < H.length → 0 < (H.getD i []).length) (fun H hH => hH.2)
      (fun W hW => (Hermite_g (E := 9) _ W (hM.up hW) HSH.out hR0 (by omega) hn0 (by omega) (by decide) (by decide) HBT.out).mono (by
        rintro e w' ⟨v', H, rfl, ⟨piv, hH⟩, hM, hb⟩
        exact ⟨v', H, rfl, ⟨⟨piv, hH⟩, fun i hi => by rw [hH.sh.2 i hi]; exact hn0⟩, hM, hb⟩))).mono ?_
    rintro e W5 ⟨vH, H, rfl, ⟨⟨piv, hH⟩, -⟩, hMH, hb⟩
    obtain ⟨aH, cH, rfl, -, -⟩ := id hMH
    replace hM := hM.up hb
    replace hbl := Bl.up hbl hb
    clear hb
    go_wp2_with fail
    refine (Lkernel_any (.slice am R cm) W5 0 (fun Km => KerOf R n m Km 6480 ∧ ∀ i, i < Km.length → 0 < (Km.getD i []).length) (fun Km hKm => hKm.2)
      (fun W hW => (Kernel_g (E := 9) _ W (hM.up hW) HSH.out hR0 (by omega) hn0 (by omega) (by decide) (by decide) HBT.out).mono (by
        rintro e w' ⟨v', Km, rfl, hex, hM, hb⟩
        exact ⟨v', Km, rfl, ⟨⟨hex⟩, fun i hi => by rw [(KerOf.shape ⟨hex⟩).2 i hi]; exact hR0⟩, hM, hb⟩))).mono ?_
    rintro e W6 ⟨vK, Km, rfl, ⟨hKm, -⟩, hMK, hb⟩
    obtain ⟨aK, cK, rfl, -, -⟩ := id hMK
    have F := MtF.new (T := 31) (Bl.up hbl hb) (hM.up hb) (hMH.up hb) hMK
    clear hb hM hMH hMK hbl
    have HK := Lib.hid hKm
    have HH := Lib.hid hH
    clear hKm hH
    go_wp2_with fail
    obtain ⟨W7, hW7⟩ : ∃ W7, W7 = ((W6.alloc (.cells #[.slice aH H.length cH, .int .i64 0] 31)).alloc (.cells #[.slice aK Km.length cK, .int .i64 0] 31)) := ⟨_, rfl⟩
    rw [← hW7] at F ⊢
    clear hW7
    generalize W6.heap.size = B at *
    refine (rhermite_any (E := 9) (by decide) (gB9 hR1).1 _ _ F.mx HSH.out hn0 hR0 (by omega) (by omega) HBT.out).mono ?_
    rintro e W8 ⟨vD, D, rfl, ⟨pivD, hD⟩, hMD, hb⟩
    obtain rfl : H = D := hD.same HH.out (fun _ => Iff.rfl)
    obtain ⟨aD, cD, rfl, -, -⟩ := id hMD
    replace F := F.up hb
    clear hb hD
    go_wp2_with fail
    refine (Rank_g (E := 9) _ _ F.mx HSH.out hR0 (by omega) hn0 (by omega) (by decide) (by decide) HBT.out).mono ?_
    rintro e W9 ⟨h, pivR, rfl, hh, hb⟩
    obtain rfl : H = h := hh.same HH.out (fun _ => Iff.rfl)
    replace F := F.up hb
    replace hMD := hMD.up hb
    clear hb hh
    go_wp2_with fail
    refine (Smith_g _ _ F.mx HSH.out hR0 (by omega) hn0 hn1 HBT.out).mono ?_
    rintro e W10 ⟨vS, l, rfl, el, hRl, hb⟩
    replace F := F.up hb
    replace hMD := hMD.up hb
    obtain ⟨aS, nS, cS, rfl⟩ := hRl.shape
    have hll := el.len HH.out.hn HH.out.md
    have EL := Lib.hid el
    clear hb el
    have h0 := F.h0
    have h1 := F.h1
    have k0 := F.k0
    have k1 := F.k1
    have hHl : H.length ≤ 4 := Nat.le_trans HH.out.le hR1
    have hHH : ((H.length : Int) != (H.length : Int)) = false := by simp
    have C1 := Lib.hid fun W (hW : Below W10.heap.size W10 W) => same_mat HH.out.sh (by omega) (by omega) (by decide) HH.out.bt _ _ W (F.mh.up hW) (hMD.up hW)
    have C2 := Lib.hid fun W (hW : Below W10.heap.size W10 W) => rsmith_any HH.out EL.out _ W (F.mx.up hW) HSH.out hR0 hR1 hn0 hn1 HBT.out
    have C3 := Lib.hid fun vb W (hb : Rw W vb l) (hW : Below W10.heap.size W10 W) => same_row (E := 23328000) (by omega) (by decide) EL.out.bt _ vb W (hRl.up hW) hb
    have C4 := Lib.hid fun W (hW : Below W10.heap.size W10 W) => rkernel_any HK.out _ W (F.mx.up hW) HSH.out hR0 hR1 hn0 hn1 HBT.out
    have C5 := Lib.hid fun vb W (hb : Mx W vb Km) (hW : Below W10.heap.size W10 W) => same_mat (E := 6480) HK.out.shape (by have := HK.out.rank HSH.out HH.out; omega) (by omega) (by decide) HK.out.bt _ vb W (F.mkr.up hW) hb
    go_upto_region 11 with fail
    refine wp_region_T (by kernel_rfl) [] (S := fun w' => w'.cell? ⟨B, 0, none⟩ = some (.slice aH H.length cH) ∧ w'.cell? ⟨B + 1, 0, none⟩ = some (.slice aK Km.length cK)) ⟨h0, k0⟩ (fun hHeld => ?_)
    (refine tP 0 rfl ?_; (try simp only [lay, List.getElem_toArray, List.getElem_cons_succ, List.getElem_cons_zero]))
    (refine tK 1 rfl ?_; (try simp only [lay, List.getElem_toArray, List.getElem_cons_succ, List.getElem_cons_zero]))
    (refine tP 2 rfl ?_; (try simp only [lay, List.getElem_toArray, List.getElem_cons_succ, List.getElem_cons_zero]))
    (refine wpAnyT_one (i := 3) (by as_aux_lemma => kernel_rfl) rfl (fun K hK => ?_); (try simp only [lay, List.getElem_toArray, List.getElem_cons_succ, List.getElem_cons_zero]); go_simp)
    refine (C1.out _ (Bl.drew (Below.refl _ _))).mono ?_
    rintro e w1 ⟨rfl, hb1⟩
    have hb := Bl.up (Bl.drew (Below.refl W10.heap.size W10)) hb1
    refine hK.out _ _ (fun _ => ⟨keepc hb h0, keepc hb k0⟩) ?_
    have hHeld1 : w1.cell? ⟨B, 0, none⟩ = some (.slice aH H.length cH) ∧ w1.cell? ⟨B + 1, 0, none⟩ = some (.slice aK Km.length cK) := ⟨keepc hb h0, keepc hb k0⟩
    clear hK hHeld hb1
    (try simp only [lay, List.getElem_toArray, List.getElem_cons_succ, List.getElem_cons_zero])
    (refine tP 4 rfl ?_; (try simp only [lay, List.getElem_toArray, List.getElem_cons_succ, List.getElem_cons_zero]))
    (refine tP 5 rfl ?_; (try simp only [lay, List.getElem_toArray, List.getElem_cons_succ, List.getElem_cons_zero]))
    (refine tP 6 rfl ?_; (try simp only [lay, List.getElem_toArray, List.getElem_cons_succ, List.getElem_cons_zero]))
    (refine wpAnyT_one (i := 7) (by as_aux_lemma => kernel_rfl) rfl (fun K hK => ?_); (try simp only [lay, List.getElem_toArray, List.getElem_cons_succ, List.getElem_cons_zero]); go_simp)
    refine (C2.out _ hb).mono ?_
    rintro e w2 ⟨v2, rfl, hv2, hb2⟩
    replace hb := Bl.up hb hb2
    refine hK.out _ _ (fun _ => ⟨keepc hb h0, keepc hb k0⟩) ?_
    have hHeld2 : w2.cell? ⟨B, 0, none⟩ = some (.slice aH H.length cH) ∧ w2.cell? ⟨B + 1, 0, none⟩ = some (.slice aK Km.length cK) := ⟨keepc hb h0, keepc hb k0⟩
    clear hK hHeld1 hb2
    (try simp only [lay, List.getElem_toArray, List.getElem_cons_succ, List.getElem_cons_zero])
    (refine wpAnyT_one (i := 8) (by as_aux_lemma => kernel_rfl) rfl (fun K hK => ?_); (try simp only [lay, List.getElem_toArray, List.getElem_cons_succ, List.getElem_cons_zero]); go_simp)
    refine (C3.out _ _ hv2 hb).mono ?_
    rintro e w3 ⟨rfl, hb3⟩
    replace hb := Bl.up hb hb3
    refine hK.out _ _ (fun _ => ⟨keepc hb h0, keepc hb k0⟩) ?_
    have hHeld3 : w3.cell? ⟨B, 0, none⟩ = some (.slice aH H.length cH) ∧ w3.cell? ⟨B + 1, 0, none⟩ = some (.slice aK Km.length cK) := ⟨keepc hb h0, keepc hb k0⟩
    clear hK hHeld2 hb3 hv2
    (try simp only [lay, List.getElem_toArray, List.getElem_cons_succ, List.getElem_cons_zero])
    (refine tP 9 rfl ?_; (try simp only [lay, List.getElem_toArray, List.getElem_cons_succ, List.getElem_cons_zero]))
    (refine tP 10 rfl ?_; (try simp only [lay, List.getElem_toArray, List.getElem_cons_succ, List.getElem_cons_zero]))
    (refine tP 11 rfl ?_; (try simp only [lay, List.getElem_toArray, List.getElem_cons_succ, List.getElem_cons_zero]))
    (refine tP 12 rfl ?_; (try simp only [lay, List.getElem_toArray, List.getElem_cons_succ, List.getElem_cons_zero]))
    (refine tP 13 rfl ?_; (try simp only [lay, List.getElem_toArray, List.getElem_cons_succ, List.getElem_cons_zero]))
    (refine tP 14 rfl ?_; (try simp only [lay, List.getElem_toArray, List.getElem_cons_succ, List.getElem_cons_zero]))
    (refine tU 15 rfl ?_; (try simp only [lay, List.getElem_toArray, List.getElem_cons_succ, List.getElem_cons_zero]))
    (refine tU 16 rfl ?_; (try simp only [lay, List.getElem_toArray, List.getElem_cons_succ, List.getElem_cons_zero]))
    (refine tU 17 rfl ?_; (try simp only [lay, List.getElem_toArray, List.getElem_cons_succ, List.getElem_cons_zero]))
    (refine tU 18 rfl ?_; (try simp only [lay, List.getElem_toArray, List.getElem_cons_succ, List.getElem_cons_zero]))
    (refine tP 19 rfl ?_; (try simp only [lay, List.getElem_toArray, List.getElem_cons_succ, List.getElem_cons_zero]))
    (refine tP 20 rfl ?_; (try simp only [lay, List.getElem_toArray, List.getElem_cons_succ, List.getElem_cons_zero]))
    (refine tP 21 rfl ?_; (try simp only [lay, List.getElem_toArray, List.getElem_cons_succ, List.getElem_cons_zero]))
    (refine tP 22 rfl ?_; (try simp only [lay, List.getElem_toArray, List.getElem_cons_succ, List.getElem_cons_zero]))
    (refine tP 23 rfl ?_; (try simp only [lay, List.getElem_toArray, List.getElem_cons_succ, List.getElem_cons_zero]))
    (refine tP 24 rfl ?_; (try simp only [lay, List.getElem_toArray, List.getElem_cons_succ, List.getElem_cons_zero]))
    (refine tP 25 rfl ?_; (try simp only [lay, List.getElem_toArray, List.getElem_cons_succ, List.getElem_cons_zero]))
    (refine tK 26 rfl ?_; (try simp only [lay, List.getElem_toArray, List.getElem_cons_succ, List.getElem_cons_zero]))
    (refine tP 27 rfl ?_; (try simp only [lay, List.getElem_toArray, List.getElem_cons_succ, List.getElem_cons_zero]))
    (refine wpAnyT_one (i := 28) (by as_aux_lemma => kernel_rfl) rfl (fun K hK => ?_); (try simp only [lay, List.getElem_toArray, List.getElem_cons_succ, List.getElem_cons_zero]); go_simp)
    refine (C4.out _ hb).mono ?_
    rintro e w4 ⟨v4, rfl, hv4, hb4⟩
    replace hb := Bl.up hb hb4
    refine hK.out _ _ (fun _ => ⟨keepc hb h0, keepc hb k0⟩) ?_
    have hHeld4 : w4.cell? ⟨B, 0, none⟩ = some (.slice aH H.length cH) ∧ w4.cell? ⟨B + 1, 0, none⟩ = some (.slice aK Km.length cK) := ⟨keepc hb h0, keepc hb k0⟩
    clear hK hHeld3 hb4
    (try simp only [lay, List.getElem_toArray, List.getElem_cons_succ, List.getElem_cons_zero])
    (refine wpAnyT_one (i := 29) (by as_aux_lemma => kernel_rfl) rfl (fun K hK => ?_); (try simp only [lay, List.getElem_toArray, List.getElem_cons_succ, List.getElem_cons_zero]); go_simp)
    refine (C5.out _ _ hv4 hb).mono ?_
    rintro e w5 ⟨rfl, hb5⟩
    replace hb := Bl.up hb hb5
    refine hK.out _ _ (fun _ => ⟨keepc hb h0, keepc hb k0⟩) ?_
    have hHeld5 : w5.cell? ⟨B, 0, none⟩ = some (.slice aH H.length cH) ∧ w5.cell? ⟨B + 1, 0, none⟩ = some (.slice aK Km.length cK) := ⟨keepc hb h0, keepc hb k0⟩
    clear hK hHeld4 hb5 hv4
    (try simp only [lay, List.getElem_toArray, List.getElem_cons_succ, List.getElem_cons_zero])
    (refine tP 30 rfl ?_; (try simp only [lay, List.getElem_toArray, List.getElem_cons_succ, List.getElem_cons_zero]))
    (refine tP 31 rfl ?_; (try simp only [lay, List.getElem_toArray, List.getElem_cons_succ, List.getElem_cons_zero]))
    (refine tP 32 rfl ?_; (try simp only [lay, List.getElem_toArray, List.getElem_cons_succ, List.getElem_cons_zero]))
    (refine tP 33 rfl ?_; (try simp only [lay, List.getElem_toArray, List.getElem_cons_succ, List.getElem_cons_zero]))
    (refine tP 34 rfl ?_; (try simp only [lay, List.getElem_toArray, List.getElem_cons_succ, List.getElem_cons_zero]))
    (refine tP 35 rfl ?_; (try simp only [lay, List.getElem_toArray, List.getElem_cons_succ, List.getElem_cons_zero]))
    (refine tP 36 rfl ?_; (try simp only [lay, List.getElem_toArray, List.getElem_cons_succ, List.getElem_cons_zero]))
    refine wpAnyT_done (by kernel_rfl) ?_ _
    have hfin := Bl.up F.bl hb
    go_wp2_with fail
    go_ret
    exact ⟨rfl, hfin⟩
end Go.Proofs.YtdbpkoddfcdhdaaGreat
