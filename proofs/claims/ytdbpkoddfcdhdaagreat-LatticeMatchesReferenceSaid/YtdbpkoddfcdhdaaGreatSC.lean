/-
  The reference: Smith.
-/
import Derived.Test.YtdbpkoddfcdhdaaGreatSB
import Derived.Test.YtdbpkoddfcdhdaaGreatSA
import Derived.Test.YtdbpkoddfcdhdaaGreatRG
import Derived.Test.YtdbpkoddfcdhdaaGreatQA
import Derived.Test.YtdbpkoddfcdhdaaGreatPY
import Derived.Test.YtdbpkoddfcdhdaaGreatRH
set_option linter.unusedSimpArgs false
set_option linter.unusedVariables false

namespace Go.Proofs.YtdbpkoddfcdhdaaGreat
open Go.RowKit
attribute [local go_sem ↓] Go.wp_at_zero Go.wp_at_succ

theorem Rw.hole {W W' : World} {v : Value} {l : List Int} {B : Nat} (h : Rw W v l) (hl : 2 ≤ l.length) (c2 : ∀ k, 2 ≤ k → W.cell? ⟨B, k, none⟩ = none) (hn : NoW W B) (hb : But B W W') : Rw W' v l := by
  obtain ⟨a, cap, h1, h2, h3⟩ := h
  refine ⟨a, cap, h1, h2, ?_⟩
  rcases h3 with h | ⟨b, off, e1, e2, e3⟩
  · exact .inl h
  · refine .inr ⟨b, off, e1, Nat.lt_of_lt_of_le e2 hb.size, fun j hj => ?_⟩
    obtain ⟨s, c, n, k, c0, c1, i1⟩ := e3 j hj
    have hne : b ≠ B := by
      rintro rfl
      obtain ⟨_, _, _, _, x0, -, -⟩ := e3 1 (by omega)
      rw [c2 _ (by omega)] at x0
      cases x0
    exact ⟨s, c, n, k, (World.cell?_of_block (w := W) (hb.block b e2 hne)).trans c0, (World.cell?_of_block (w := W) (hb.block b e2 hne)).trans c1, i1.but hn hb⟩
theorem Mx.hole {W W' : World} {v : Value} {m : List (List Int)} {r N B : Nat} (h : Mx W v m) (hs : Shape r N m) (hr : 2 ≤ r) (hN : 2 ≤ N) (c0 : ∃ s, W.cell? ⟨B, 0, none⟩ = some (.bool s)) (c2 : ∀ k, 2 ≤ k → W.cell? ⟨B, k, none⟩ = none) (hn : NoW W B) (hb : But B W W') : Mx W' v m := by
  obtain ⟨a, cap, h1, h2, h3⟩ := h
  refine ⟨a, cap, h1, h2, ?_⟩
  rcases h3 with h | ⟨b, off, e1, e2, e3⟩
  · exact .inl h
  · refine .inr ⟨b, off, e1, Nat.lt_of_lt_of_le e2 hb.size, fun j hj => ?_⟩
    obtain ⟨c, k, x0, x1⟩ := e3 j hj
    have hne : b ≠ B := by
      rintro rfl
      rcases Nat.eq_zero_or_pos off with ho | ho
      · obtain ⟨_, _, y0, -⟩ := e3 0 (by rw [hs.1]; omega)
        obtain ⟨s, hc⟩ := c0
        rw [ho] at y0
        rw [show (0 : Nat) + 0 = 0 from rfl, hc] at y0
        cases y0
      · obtain ⟨_, _, y0, -⟩ := e3 1 (by rw [hs.1]; omega)
        rw [c2 _ (by omega)] at y0
        cases y0
    exact ⟨c, k, (World.cell?_of_block (w := W) (hb.block b e2 hne)).trans x0, x1.hole (by rw [hs.2 j (by rw [← hs.1]; exact hj)]; exact hN) c2 hn hb⟩

theorem Ap.st {w : World} {base B' : Nat} {v : Value} {l : List Int} {s : Bool} {a : Option Addr} {n c : Nat} (h : Ap w base v l) (hv : Va w B') (hB : B' < base) :
    Ap ((w.setCell ⟨B', 0, none⟩ (.bool s)).setCell ⟨B', 1, none⟩ (.slice a n c)) base v l := by
  obtain ⟨⟨xs, k1, k2⟩, h2⟩ := h
  refine ⟨⟨xs, ownsRow_setCell_below (ownsRow_setCell_below k1 (a := ⟨B', 0, none⟩) hB _) (a := ⟨B', 1, none⟩) hB _, fun i hi => ?_⟩, fun g hg o u e => ?_⟩
  · obtain ⟨s', c', n', k', x0, x1, x2⟩ := k2 i hi
    exact ⟨s', c', n', k', x0, x1, x2.st hv⟩
  · have hb := (k1.lt g hg).1
    refine h2 g hg o u ?_
    rw [← e]
    exact (World.cell?_of_block (a := ⟨g, o, none⟩) ((Below.heap_setCell _ _ _ _ (show g ≠ B' by omega)).trans (Below.heap_setCell _ _ _ _ (show g ≠ B' by omega)))).symm

/-- The two lists of choices, whatever of them is there. -/
structure ChJ (W0 : World) (r N k : Nat) (b : Nat → Bool) (x : Nat → Value) (W : World) : Prop where
  bl : Below W0.heap.size W0 W
  p0 : b 0 = true → ∃ g, x 0 = .slice (some ⟨g, 0, none⟩) 0 0
  p1 : b 1 = true → ∃ g, x 1 = .slice (some ⟨g, 0, none⟩) 0 0 ∧ g < W.heap.size
  p5 : b 5 = true → Nm W (x 5) (chs r k)
  p6 : b 6 = true → ∃ g, x 6 = .slice (some ⟨g, 0, none⟩) 0 0
  p7 : b 7 = true → ∃ g, x 7 = .slice (some ⟨g, 0, none⟩) 0 0 ∧ g < W.heap.size
  p13 : b 13 = true → Nm W (x 13) (chs N k)
section
variable {W0 W W' : World} {r N k : Nat} {b : Nat → Bool} {x : Nat → Value}
theorem ChJ.up (h : ChJ W0 r N k b x W) (hb : Below W.heap.size W W') : ChJ W0 r N k b x W' :=
  ⟨Bl.up h.bl hb, h.p0, fun e => by obtain ⟨g, h1, h2⟩ := h.p1 e; exact ⟨g, h1, Nat.lt_of_lt_of_le h2 hb.size⟩, fun e => (h.p5 e).up hb, h.p6, fun e => by obtain ⟨g, h1, h2⟩ := h.p7 e; exact ⟨g, h1, Nat.lt_of_lt_of_le h2 hb.size⟩, fun e => (h.p13 e).up hb⟩
theorem ChJ.s0 (h : ChJ W0 r N k b x W) (g : Nat) : ChJ W0 r N k (fset b 0 true) (fset x 0 (.slice (some ⟨g, 0, none⟩) 0 0)) W := ⟨h.bl, fun _ => ⟨g, fset_same _ _ _⟩, h.p1, h.p5, h.p6, h.p7, h.p13⟩
theorem ChJ.s1 (h : ChJ W0 r N k b x W) {g : Nat} (hg : g < W.heap.size) : ChJ W0 r N k (fset b 1 true) (fset x 1 (.slice (some ⟨g, 0, none⟩) 0 0)) W := ⟨h.bl, h.p0, fun _ => ⟨g, fset_same _ _ _, hg⟩, h.p5, h.p6, h.p7, h.p13⟩
theorem ChJ.s6 (h : ChJ W0 r N k b x W) (g : Nat) : ChJ W0 r N k (fset b 6 true) (fset x 6 (.slice (some ⟨g, 0, none⟩) 0 0)) W := ⟨h.bl, h.p0, h.p1, h.p5, fun _ => ⟨g, fset_same _ _ _⟩, h.p7, h.p13⟩
theorem ChJ.s7 (h : ChJ W0 r N k b x W) {g : Nat} (hg : g < W.heap.size) : ChJ W0 r N k (fset b 7 true) (fset x 7 (.slice (some ⟨g, 0, none⟩) 0 0)) W := ⟨h.bl, h.p0, h.p1, h.p5, h.p6, fun _ => ⟨g, fset_same _ _ _, hg⟩, h.p13⟩
theorem ChJ.s5 (h : ChJ W0 r N k b x W) {v : Value} (hv : Nm W v (chs r k)) : ChJ W0 r N k (fset b 5 true) (fset x 5 v) W := ⟨h.bl, h.p0, h.p1, fun _ => by rw [fset_same]; exact hv, h.p6, h.p7, h.p13⟩
theorem ChJ.s13 (h : ChJ W0 r N k b x W) {v : Value} (hv : Nm W v (chs N k)) : ChJ W0 r N k (fset b 13 true) (fset x 13 v) W := ⟨h.bl, h.p0, h.p1, h.p5, h.p6, h.p7, fun _ => by rw [fset_same]; exact hv⟩
end
theorem chs_at {n k i : Nat} (hi : i < (chs n k).length) : ((chs n k).getD i []).length = k ∧ ∀ a, a < k → ((chs n k).getD i []).getD a 0 < n := by
  have hm : (chs n k).getD i [] ∈ chs n k := by rw [List.getD_eq_getElem?_getD, List.getElem?_eq_getElem hi]; exact List.getElem_mem hi
  obtain ⟨h1, h2⟩ := chA_mem n [] _ (Nat.le_refl _) (by simp) hm
  exact ⟨h1, fun a ha => getD_mem_lt h2 (by omega)⟩
theorem chs_len (n k : Nat) (hn : n ≤ 5) : (chs n k).length ≤ 32 := by
  have h1 := chA_len n k n []
  have h2 : 2 ^ n ≤ 2 ^ 5 := Nat.pow_le_pow_right (by decide) hn
  unfold chs; omega
/-- All choices, from literals on. -/
theorem chosen0 {n k g g' : Nat} (hk0 : 0 < k) (hk : k ≤ 1000) (hn : n ≤ 30) (w : World) (hg : g' < w.heap.size) :
    Calls Tryz.prog 36 #[.slice (some ⟨g, 0, none⟩) 0 0, .slice (some ⟨g', 0, none⟩) 0 0, .int .i64 0, .int .i64 (n : Int), .int .i64 (k : Int)] w fun e w' => ∃ v, e = .returned v ∧ Nm w' v (chs n k) ∧ Below w.heap.size w w' :=
  (rchosen_any n k hk0 hk hn n (Nat.le_refl _) [] w.heap.size _ _ [] 0 w (by simp) (OmL.lit _ _ _) (Nat.le_refl _) ⟨g', 0, 0, rfl, Nat.le_refl _, hg, fun i hi => absurd hi (Nat.not_lt_zero i)⟩ (Nat.zero_le _) (by
    have : 2 ^ (n + 1) ≤ 2 ^ 31 := Nat.pow_le_pow_right (by decide) (by omega)
    simp only [List.length_nil]
    omega)).mono (by
    rintro e w' ⟨v, rfl, h1, h2, -⟩
    rw [List.nil_append, chC, if_neg (by simp; omega)] at h1
    exact ⟨v, rfl, h1.nm, h2⟩)

set_option maxRecDepth 100000 in
set_option maxHeartbeats 8000000 in
theorem rsmith_any {R N El : Nat} {m h0 : List (List Int)} {piv : Nat → Nat} {l : List Int} (hh0 : Herm R N m h0 6480 piv) (el : Elem R N m l El) (v : Value) (w : World) (hM : Mx w v m) (hs : Shape R N m) (hR0 : 0 < R) (hR : R ≤ 4) (hN0 : 0 < N) (hN : N ≤ 5) (hb : ∀ j k, Bt (en m j k) 9) :
    Calls Tryz.prog 14 #[v] w fun e w' => ∃ v', e = .returned v' ∧ Rw w' v' l ∧ Below w.heap.size w w' := by
  obtain ⟨aM, cM, rfl, -, -⟩ := id hM
  have CH := Lib.hid fun W (hW : Below w.heap.size w W) => rhermite_any (E := 9) (by decide) (gB9 hR).1 _ W (hM.up hW) hs hN0 hR0 (by omega) (by omega) hb
  have hlen := el.len hh0.hn hh0.md
  have hmd := hh0.md
  have hsh := hh0.sh
  have hbt := hh0.bt
  have hle := hh0.le
  have HH := Lib.hid hh0
  have EL := Lib.hid el
  clear hh0 el hM hb
  go_enter Tryz.func14, Tryz.ntmps14
  go_wp2_with fail
  refine (rof_any 1 _ (by decide) (by decide)).mono ?_
  rintro e w1 ⟨v1, rfl, hv1, hb1⟩
  obtain ⟨s1, a1, n1, c1, rfl⟩ := hv1.shape
  have hB1 := (below_new w (.cells #[] 56)).trans (hb1.mono (by simp))
  go_wp2_with fail
  have hw4 : w.heap.size ≤ w1.heap.size := by have := hb1.size; simp at this; omega
  have hlw : w.heap.size < w1.heap.size := by have := hb1.size; simp at this; omega
  have vb := Vx.new (w := w1) (B := w1.heap.size) (T := 56) rfl hv1
  have c2 : ∀ k, 2 ≤ k → (w1.alloc (.cells #[.bool s1, .slice a1 n1 c1] 56)).cell? ⟨w1.heap.size, k, none⟩ = none := fun k hk => by
    rw [World.cell?_alloc_at _ _ _ _ rfl]
    exact Array.getElem?_eq_none (by simpa using hk)
  have hB2 := Bl.alloc hB1 (.cells #[.bool s1, .slice a1 n1 c1] 56)
  have hlt4 := vb.lt
  refine (CH.out _ hB2).mono ?_
  rintro e w5 ⟨v', h, rfl, ⟨piv5, hh5⟩, hMh, hb5⟩
  obtain rfl : h0 = h := hh5.same HH.out (fun _ => Iff.rfl)
  clear hh5 CH hb1 hv1
  replace vb := vb.up hb5
  replace c2 : ∀ k, 2 ≤ k → w5.cell? ⟨w1.heap.size, k, none⟩ = none := fun k hk => (hb5.cell (p := ⟨w1.heap.size, k, none⟩) hlt4).trans (c2 k hk)
  replace hB2 := Bl.up hB2 hb5
  replace hlw : w.heap.size < w5.heap.size := by have := hb5.size; simp at this; omega
  clear hb5 hB1 hlt4
  generalize w1.heap.size = B4 at *
  obtain ⟨ah, ch, rfl, -, -⟩ := id hMh
  have hrl : h0.length ≤ 4 := by omega
  generalize hr : h0.length = r at *
  have HR := Lib.hid hr
  have HSH := Lib.hid hsh
  have HBT := Lib.hid hbt
  have HMD := Lib.hid hmd
  have HC2 := Lib.hid c2
  have HLEN := Lib.hid hlen
  clear hr hsh hbt hmd c2 hlen hs
  go_wp2_with fail
  go_loopw [3, 6] (fun s3 s6 wq => ∃ (k : Nat) (u : Value), 1 ≤ k ∧ k ≤ r + 1 ∧ s6 = .int .i64 (k : Int) ∧ s3 = u ∧ ApL wq w5.heap.size u (l.take (k - 1)) ∧ But B4 w5 wq ∧ (k = 1 → Below w5.heap.size w5 wq) ∧ Vx wq B4 (prodN (k - 1) (lf l)) ∧ Bt (prodN (k - 1) (lf l)) 30000 ∧ Below w.heap.size w wq)
    (fun _ s6 _ => r + 1 - (intOf s6).toNat)
  case atStart => exact ⟨1, _, Nat.le_refl _, by omega, rfl, rfl, ApL.lit _ hlw, But.refl _ _, fun _ => Below.refl _ _, vb, by show Bt 1 30000; exact Bt.mono (E := 2) (by unfold Bt; decide) (by decide), hB2⟩
  case round =>
    obtain ⟨k, u, hk1, hk2, rfl, rfl, hAp, hbut, hbl1, hvb, hbb, hbl⟩ := hrel
    have k0 : (0 : Int) ≤ (k : Int) := by omega
    by_cases hkr : k ≤ r
    · have kr : (k : Int) ≤ (r : Int) := by omega
      have hM : Mx wr (.slice ah r ch) h0 := by
        by_cases h1 : k = 1
        · exact hMh.up (hbl1 h1)
        · obtain ⟨s, a, n, c, y0, -⟩ := vb.cells
          exact hMh.hole HSH.out (by omega) (by
            have h1 := incr_ge HH.out.hn.lt HH.out.hn.mono (r - 1) (by rw [HR.out]; omega)
            have h2 := HH.out.hn.lt (r - 1) (by rw [HR.out]; omega)
            omega) ⟨s, y0⟩ HC2.out (by obtain ⟨_, _, _, _, _, _, y⟩ := vb; exact y) hbut
      obtain ⟨bh, oh, ar, q1, rfl, hbh, p0, hq1, -⟩ := hM.row HSH.out (i := 0) (by omega)
      rw [Nat.add_zero] at p0
      have r0 : (0 : Int) < (r : Int) := by omega
      have r0n : 0 < r := by omega
      go_upto_region 6 with fail
      refine wp_region_T (by kernel_rfl) [] (S := fun w' => w'.cell? ⟨bh, oh, none⟩ = some (.slice ar N q1)) p0 (fun hHeld => ?_)
      (refine tP 2 rfl ?_; (try simp only [lay, List.getElem_toArray, List.getElem_cons_succ, List.getElem_cons_zero]))
      (refine tP 3 rfl ?_; (try simp only [lay, List.getElem_toArray, List.getElem_cons_succ, List.getElem_cons_zero]))
      (refine tP 4 rfl ?_; (try simp only [lay, List.getElem_toArray, List.getElem_cons_succ, List.getElem_cons_zero]))
      (refine tP 8 rfl ?_; (try simp only [lay, List.getElem_toArray, List.getElem_cons_succ, List.getElem_cons_zero]))
      (refine tP 9 rfl ?_; (try simp only [lay, List.getElem_toArray, List.getElem_cons_succ, List.getElem_cons_zero]))
      (refine tK 10 rfl ?_; (try simp only [lay, List.getElem_toArray, List.getElem_cons_succ, List.getElem_cons_zero]))
      (refine tP 11 rfl ?_; (try simp only [lay, List.getElem_toArray, List.getElem_cons_succ, List.getElem_cons_zero]))
      (refine tP 12 rfl ?_; (try simp only [lay, List.getElem_toArray, List.getElem_cons_succ, List.getElem_cons_zero]))
      clear hHeld
      refine wpAnyT_all [(0, some 22), (1, some 23), (5, some 27), (6, some 28), (7, some 29), (13, some 35)] 2 (ChJ wr r N k) rfl (by kernel_rfl) (by decide) (by kernel_rfl) (by kernel_rfl) (by kernel_rfl)
        (fun b x w h => keepc h.bl p0) (fun x => ⟨Bl.drew (Below.refl _ _), (fun h => nomatch h), (fun h => nomatch h), (fun h => nomatch h), (fun h => nomatch h), (fun h => nomatch h), (fun h => nomatch h)⟩) ?_ ?_
      · intro i hi
        have hi' : i = 0 ∨ i = 1 ∨ i = 5 ∨ i = 6 ∨ i = 7 ∨ i = 13 := by simpa using hi
        clear hi
        rcases hi' with rfl | rfl | rfl | rfl | rfl | rfl
        · refine ⟨_, rfl, fun b x w' hJ hb hw K hK => ?_⟩
          clear hb hw
          simp only [actsD, List.foldl_cons, List.foldl_nil, Act.put, List.setIfInBounds_toArray, List.set_cons_zero, List.set_cons_succ] at hK ⊢
          go_simp
          exact hK.out _ _ ((hJ.up (below_new _ _)).s0 _)
        · refine ⟨_, rfl, fun b x w' hJ hb hw K hK => ?_⟩
          clear hb hw
          simp only [actsD, List.foldl_cons, List.foldl_nil, Act.put, List.setIfInBounds_toArray, List.set_cons_zero, List.set_cons_succ] at hK ⊢
          go_simp
          exact hK.out _ _ ((hJ.up (below_new _ _)).s1 (by simp))
        · refine ⟨_, rfl, fun b x w' hJ hb hw K hK => ?_⟩
          obtain ⟨g, hx⟩ := hJ.p0 (hw 0 (by kernel_rfl))
          obtain ⟨g', hx', hg'⟩ := hJ.p1 (hw 1 (by kernel_rfl))
          clear hb hw
          simp only [actsD, List.foldl_cons, List.foldl_nil, Act.put, List.setIfInBounds_toArray, List.set_cons_zero, List.set_cons_succ] at hK ⊢
          simp only [hx, hx'] at hK ⊢
          clear hx hx'
          go_simp
          refine (chosen0 (n := r) (k := k) (by omega) (by omega) (by omega) w' hg').mono ?_
          rintro e w3 ⟨v3, rfl, hv, hb3⟩
          exact hK.out _ _ ((hJ.up hb3).s5 hv)
        · refine ⟨_, rfl, fun b x w' hJ hb hw K hK => ?_⟩
          clear hb hw
          simp only [actsD, List.foldl_cons, List.foldl_nil, Act.put, List.setIfInBounds_toArray, List.set_cons_zero, List.set_cons_succ] at hK ⊢
          go_simp
          exact hK.out _ _ ((hJ.up (below_new _ _)).s6 _)
        · refine ⟨_, rfl, fun b x w' hJ hb hw K hK => ?_⟩
          clear hb hw
          simp only [actsD, List.foldl_cons, List.foldl_nil, Act.put, List.setIfInBounds_toArray, List.set_cons_zero, List.set_cons_succ] at hK ⊢
          go_simp
          exact hK.out _ _ ((hJ.up (below_new _ _)).s7 (by simp))
        · refine ⟨_, rfl, fun b x w' hJ hb hw K hK => ?_⟩
          obtain ⟨g, hx⟩ := hJ.p6 (hw 6 (by kernel_rfl))
          obtain ⟨g', hx', hg'⟩ := hJ.p7 (hw 7 (by kernel_rfl))
          clear hb hw
          simp only [actsD, List.foldl_cons, List.foldl_nil, Act.put, List.setIfInBounds_toArray, List.set_cons_zero, List.set_cons_succ] at hK ⊢
          simp only [hx, hx'] at hK ⊢
          clear hx hx'
          go_simp
          refine (chosen0 (n := N) (k := k) (by omega) (by omega) (by omega) w' hg').mono ?_
          rintro e w3 ⟨v3, rfl, hv, hb3⟩
          exact hK.out _ _ ((hJ.up hb3).s13 hv)
      · intro b x wz hb hJ
        have hv5 := hJ.p5 (hb 5 (by decide))
        have hv13 := hJ.p13 (hb 13 (by decide))
        have hbr := hJ.bl
        have hHd := keepc hbr p0
        obtain ⟨v5, hx5⟩ : ∃ v5, v5 = x 5 := ⟨_, rfl⟩
        obtain ⟨v13, hx13⟩ : ∃ v13, v13 = x 13 := ⟨_, rfl⟩
        rw [← hx5] at hv5
        rw [← hx13] at hv13
        clear hb hJ
        simp only [actsD, markOf, List.map_cons, List.map_nil, List.foldl_cons, List.foldl_nil, Act.put, List.setIfInBounds_toArray, List.set_cons_zero, List.set_cons_succ, ← hx5, ← hx13]
        clear hx5 hx13
        (refine tP 14 rfl ?_; (try simp only [lay, List.getElem_toArray, List.getElem_cons_succ, List.getElem_cons_zero]))
        (refine tP 15 rfl ?_; (try simp only [lay, List.getElem_toArray, List.getElem_cons_succ, List.getElem_cons_zero]))
        refine wpAnyT_done (by kernel_rfl) ?_ _
        clear hHd
        replace hM := hM.up hbr
        replace hvb := hvb.up hbr
        replace hAp := hAp.up hbr
        replace hbut := hbut.up hbr
        replace hbl := Bl.up hbl hbr
        have hl5 := chs_len r k (by omega)
        have hl13 := chs_len N k hN
        have HA5 := Lib.hid fun i (hi : i < (chs r k).length) => chs_at hi
        have HA13 := Lib.hid fun i (hi : i < (chs N k).length) => chs_at hi
        obtain ⟨rows, hrows⟩ : ∃ rows, rows = chs r k := ⟨_, rfl⟩
        obtain ⟨cols, hcols⟩ : ∃ cols, cols = chs N k := ⟨_, rfl⟩
        rw [← hrows] at hl5 HA5 hv5
        rw [← hcols] at hl13 HA13 hv13
        have HROWS := Lib.hid hrows
        have HCOLS := Lib.hid hcols
        clear hrows hcols
        obtain ⟨a5, c5, rfl, -, hn5⟩ := id hv5
        obtain ⟨a13, c13, rfl, -, hn13⟩ := id hv13
        clear hbl1 p0 hbr hv5 hv13
        obtain ⟨n5, hn5l⟩ : ∃ n5, n5 = rows.length := ⟨_, rfl⟩
        obtain ⟨n13, hn13l⟩ : ∃ n13, n13 = cols.length := ⟨_, rfl⟩
        rw [← hn5l] at hl5 HA5 hn5 ⊢
        rw [← hn13l] at hl13 HA13 hn13 ⊢
        have HN5 := Lib.hid hn5l
        have HN13 := Lib.hid hn13l
        have H5 := Lib.hid hn5
        have H13 := Lib.hid hn13
        clear hn5l hn13l hn5 hn13
        have v9 := Vx.new0 (w := wz) (T := 56) rfl
        have hb9 := below_new wz (.cells #[.bool false, .slice none 0 0] 56)
        go_wp2_with fail
        go_loopw [10, 11] (fun s10 _ wq => ∃ (i : Nat) (g : Int), i ≤ n5 ∧ s10 = .int .i64 (i : Int) ∧ GcdTo h0 k rows cols i 0 g ∧ Bt g 30000 ∧ Vx wq wz.heap.size g ∧ Below wz.heap.size wz wq)
          (fun s10 _ _ => n5 - (intOf s10).toNat)
        case atStart => exact ⟨0, 0, Nat.zero_le _, rfl, GcdTo.start _ _ _ _, Bt.zero, v9, hb9⟩
        case round =>
          clear v9 hb9
          obtain ⟨i, g, hi, rfl, hg, hgb, v9, hb9⟩ := hrel
          have i0 : (0 : Int) ≤ (i : Int) := by omega
          have HG := Lib.hid hg
          clear hg
          by_cases hin : i < n5
          · have i1 : (i : Int) < (n5 : Int) := by omega
            go_wp2_with fail
            go_loopw [11] (fun s11 wq => ∃ (j : Nat) (g : Int), j ≤ n13 ∧ s11 = .int .i64 (j : Int) ∧ GcdTo h0 k rows cols i j g ∧ Bt g 30000 ∧ Vx wq wz.heap.size g ∧ Below wz.heap.size wz wq)
              (fun s11 _ => n13 - (intOf s11).toNat)
            case atStart => exact ⟨0, g, Nat.zero_le _, rfl, HG.out, hgb, v9, hb9⟩
            case round =>
              clear v9 hb9 HG hgb
              obtain ⟨j, g, hj, rfl, hg, hgb, v9, hb9⟩ := hrel
              have j0 : (0 : Int) ≤ (j : Int) := by omega
              have hst := hg.step
              have HG := Lib.hid hg
              have HST := Lib.hid hst
              clear hg hst
              by_cases hjn : j < n13
              · have j1 : (j : Int) < (n13 : Int) := by omega
                obtain ⟨b5, o5, x5, k5, rfl, hb5', y5, nw5⟩ := H5.out i hin
                obtain ⟨b13, o13, x13, k13, rfl, hb13', y13, nw13⟩ := H13.out j hjn
                obtain ⟨l5, m5⟩ := HA5.out i hin
                obtain ⟨l13, m13⟩ := HA13.out j hjn
                rw [l5] at y5 nw5
                rw [l13] at y13 nw13
                replace y5 := keepc hb9 y5
                replace y13 := keepc hb9 y13
                have hdb : dB 6480 k ≤ 30000 := Nat.le_trans (dB_mono (show k ≤ 4 by omega)) (by decide)
                have hxb : Bt (mnL h0 k (rows.getD i []) (cols.getD j [])) 30000 := (det_bt k fun _ _ => HBT.out _ _).mono hdb
                have CM := Lib.hid fun W (hW : Below wz.heap.size wz W) => rminor_any (E := 6480) (k := k) (by decide) (by omega) _ _ _ h0 (rows.getD i []) (cols.getD j []) W (hM.up hW) HSH.out (by omega) (by omega) HBT.out (nw5.up hW) (nw13.up hW) l5 l13 m5 m13
                have HGB := Lib.hid (hgb.gcd hxb)
                have hsx : sz (mnL h0 k (rows.getD i []) (cols.getD j [])) ≤ 1099511627776 := sz_bits hxb (by decide)
                have hsg : sz g ≤ 1099511627776 := sz_bits hgb (by decide)
                generalize mnL h0 k (rows.getD i []) (cols.getD j []) = x at *
                obtain ⟨s9, a9, n9, c9, g0, g1, g2, g3, ig⟩ := v9.cells
                clear l5 l13 m5 m13 nw5 nw13 hdb hxb hgb
                go_upto_region 14 with fail
                refine wp_region_T (by kernel_rfl) [12] (S := fun w' => w'.cell? ⟨b5, o5 + i, none⟩ = some (.slice x5 k k5) ∧ w'.cell? ⟨b13, o13 + j, none⟩ = some (.slice x13 k k13) ∧ w'.cell? ⟨wz.heap.size, 0, none⟩ = some (.bool s9) ∧ w'.cell? ⟨wz.heap.size, 1, none⟩ = some (.slice a9 n9 c9)) ⟨y5, y13, g0, g1⟩ (fun hHeld => ?_)
                (refine tK 0 rfl ?_; (try simp only [lay, List.getElem_toArray, List.getElem_cons_succ, List.getElem_cons_zero]))
                (refine tP 1 rfl ?_; (try simp only [lay, List.getElem_toArray, List.getElem_cons_succ, List.getElem_cons_zero]))
                (refine tP 2 rfl ?_; (try simp only [lay, List.getElem_toArray, List.getElem_cons_succ, List.getElem_cons_zero]))
                (refine tP 3 rfl ?_; (try simp only [lay, List.getElem_toArray, List.getElem_cons_succ, List.getElem_cons_zero]))
                (refine tP 4 rfl ?_; (try simp only [lay, List.getElem_toArray, List.getElem_cons_succ, List.getElem_cons_zero]))
                (refine tK 5 rfl ?_; (try simp only [lay, List.getElem_toArray, List.getElem_cons_succ, List.getElem_cons_zero]))
                (refine tP 6 rfl ?_; (try simp only [lay, List.getElem_toArray, List.getElem_cons_succ, List.getElem_cons_zero]))
                (refine tP 7 rfl ?_; (try simp only [lay, List.getElem_toArray, List.getElem_cons_succ, List.getElem_cons_zero]))
                (refine tP 8 rfl ?_; (try simp only [lay, List.getElem_toArray, List.getElem_cons_succ, List.getElem_cons_zero]))
                (refine tK 9 rfl ?_; (try simp only [lay, List.getElem_toArray, List.getElem_cons_succ, List.getElem_cons_zero]))
                (refine wpAnyT_one (i := 10) (by as_aux_lemma => kernel_rfl) rfl (fun K hK => ?_); (try simp only [lay, List.getElem_toArray, List.getElem_cons_succ, List.getElem_cons_zero]); go_simp)
                refine (CM.out _ (Bl.drew hb9)).mono ?_
                rintro e w6 ⟨v6, rfl, hv6, hb6⟩
                obtain ⟨s6, a6, n6, c6, rfl⟩ := hv6.shape
                replace y5 := keepc hb6 (cellD y5)
                replace y13 := keepc hb6 (cellD y13)
                replace g0 := keepc hb6 (cellD g0)
                replace g1 := keepc hb6 (cellD g1)
                replace v9 := v9.drew.up hb6
                replace hb9 := Bl.up (Bl.drew hb9) hb6
                replace ig := ig.drew.up hb6
                refine hK.out _ _ (fun _ => ⟨y5, y13, g0, g1⟩) ?_
                have hHeld6 : w6.cell? ⟨b5, o5 + i, none⟩ = some (.slice x5 k k5) ∧ w6.cell? ⟨b13, o13 + j, none⟩ = some (.slice x13 k k13) ∧ w6.cell? ⟨wz.heap.size, 0, none⟩ = some (.bool s9) ∧ w6.cell? ⟨wz.heap.size, 1, none⟩ = some (.slice a9 n9 c9) := ⟨y5, y13, g0, g1⟩
                clear hK hHeld hb6 g2 g3
                (try simp only [lay, List.getElem_toArray, List.getElem_cons_succ, List.getElem_cons_zero])
                (refine wpAnyT_one (i := 11) (by as_aux_lemma => kernel_rfl) rfl (fun K hK => ?_); (try simp only [lay, List.getElem_toArray, List.getElem_cons_succ, List.getElem_cons_zero]); go_simp)
                refine (rgcd_any _ _ g x _ ig hv6 hsg hsx).mono ?_
                rintro e w7 ⟨v7, rfl, hv7, hb7⟩
                obtain ⟨s7, a7, n7, c7, rfl⟩ := hv7.shape
                replace y5 := keepc hb7 y5
                replace y13 := keepc hb7 y13
                replace g0 := keepc hb7 g0
                replace g1 := keepc hb7 g1
                replace v9 := v9.up hb7
                replace hb9 := Bl.up hb9 hb7
                refine hK.out _ _ (fun _ => ⟨y5, y13, g0, g1⟩) ?_
                have hHeld7 : w7.cell? ⟨b5, o5 + i, none⟩ = some (.slice x5 k k5) ∧ w7.cell? ⟨b13, o13 + j, none⟩ = some (.slice x13 k k13) ∧ w7.cell? ⟨wz.heap.size, 0, none⟩ = some (.bool s9) ∧ w7.cell? ⟨wz.heap.size, 1, none⟩ = some (.slice a9 n9 c9) := ⟨y5, y13, g0, g1⟩
                obtain ⟨f0, f1⟩ := v9.va.free
                clear hK hHeld6 hb7 ig hv6
                (try simp only [lay, List.getElem_toArray, List.getElem_cons_succ, List.getElem_cons_zero])
                (refine wpAnyT_one (i := 12) (by as_aux_lemma => kernel_rfl) rfl (fun K hK => ?_); (try simp only [lay, List.getElem_toArray, List.getElem_cons_succ, List.getElem_cons_zero]); go_simp)
                go_wp2_with fail
                refine hK.out _ _ (fun h => absurd h (by decide)) ?_
                clear hK hHeld7
                (try simp only [lay, List.getElem_toArray, List.getElem_cons_succ, List.getElem_cons_zero])
                refine wpAnyT_done (by kernel_rfl) ?_ _
                have v9' := Vx.put v9.va hv7
                have hb9' := Bl.st hb9 (s := s7) (a := a7) (n := n7) (c := c7) (Nat.le_refl _)
                clear v9 hb9 g0 g1 f0 f1 y5 y13 hv7
                go_wp2_with fail
                go_roundw
                case rel => exact ⟨j + 1, _, by omega, by go_num, HST.out, HGB.out, v9', hb9'⟩
                case measure => simp [intOf]; omega
              · have hjm : j = n13 := by omega
                have j1 : ¬ (j : Int) < (n13 : Int) := by omega
                have hrow : GcdTo h0 k rows cols (i + 1) 0 g := by
                  have := HG.out
                  rw [hjm, HN13.out] at this
                  exact this.row
                have HRW := Lib.hid hrow
                clear hrow HG HST
                go_wp2_with fail
                go_roundw
                case rel => exact ⟨i + 1, g, by omega, by go_num, HRW.out, hgb, v9, hb9⟩
                case measure => simp [intOf]; omega
          · have him : i = n5 := by omega
            have i1 : ¬ (i : Int) < (n5 : Int) := by omega
            have hge : g = prodN k (lf l) := by
              have := HG.out
              rw [him, HN5.out, HROWS.out, HCOLS.out] at this
              exact EL.out.prod (by omega) (by rw [HLEN.out]; exact hkr) HMD.out this
            have hp0 : 0 < prodN (k - 1) (lf l) := prodN_pos fun i hi => EL.out.ch.pos i (by rw [HLEN.out]; omega)
            have hnx : g / prodN (k - 1) (lf l) = l.getD (k - 1) 0 := by
              have := EL.out.next (k := k - 1) (by rw [HLEN.out]; omega)
              rw [show k - 1 + 1 = k by omega] at this
              rw [hge]; exact this
            have htk : l.take (k - 1) ++ [l.getD (k - 1) 0] = l.take k := by
              have h1 : k - 1 < l.length := by rw [HLEN.out]; omega
              have h2 := List.take_succ_eq_append_getElem h1
              rw [show k - 1 + 1 = k by omega] at h2
              rw [h2, List.getD_eq_getElem?_getD, List.getElem?_eq_getElem h1]
              rfl
            have hll : (l.take (k - 1)).length = k - 1 := by rw [List.length_take, HLEN.out]; omega
            have HGE := Lib.hid hge
            have HNX := Lib.hid hnx
            have HTK := Lib.hid htk
            have HLL := Lib.hid hll
            have hsp : sz (prodN (k - 1) (lf l)) ≤ 1099511627776 := sz_bits hbb (by decide)
            have hsg : sz g ≤ 1099511627776 := sz_bits hgb (by decide)
            clear hge hnx htk hll HG
            generalize hP : prodN (k - 1) (lf l) = P at *
            have hP0 : P ≠ 0 := by omega
            clear hP hp0
            generalize l.take (k - 1) = lt at *
            have hvb9 := hvb.up hb9
            have hAp9 := hAp.up hb9
            have hbut9 := hbut.up hb9
            have hbl9 := Bl.up hbl hb9
            have hN0 := hAp.lt
            have hz5 : w5.heap.size ≤ wz.heap.size := hbut.size
            have hzr : wz.heap.size ≤ wr.heap.size := hb9.size
            have h4 : B4 < w5.heap.size := vb.lt
            obtain ⟨s9, a9, n9, c9, g0, g1, g2, g3, ig⟩ := v9.cells
            obtain ⟨s4, a4, n4, c4, y0, y1, y2, y3, ib⟩ := hvb9.cells
            clear hvb hAp hbut hbl hb9 hM hbh
            have HN0 := Lib.hid hN0
            clear hN0
            go_wp2_with fail
            refine (rdiv_any _ _ g P _ ig ib hP0 hsg hsp).mono ?_
            rintro e w6 ⟨v6, rfl, hv6, hb6⟩
            obtain ⟨s6, a6, n6, c6, rfl⟩ := hv6.shape
            have v96 := v9.up hb6
            have hvb6 := hvb9.up hb6
            have hAp6 := hAp9.up hb6
            have hbut6 := hbut9.up hb6
            have hbl6 := Bl.up hbl9 hb6
            have hz6 := hb6.size
            rw [HNX.out] at hv6
            clear v9 hvb9 hAp9 hbut9 hbl9 hb6 g0 g1 g2 g3 ig y0 y1 y2 y3 ib
            go_wp2_with (at_builtin; go_must (refine wpl_apL rfl (.tmp 61) (.tmp 65) _ rfl Tryz.underlying36 w5.heap.size _ lt rfl (hAp6.up (below_new _ _)) (by simp; omega) w6.heap.size _ _ _ s6 a6 n6 c6 (l.getD (k - 1) 0) rfl (heap_alloc_new _ _) (hv6.alloc _) (by rw [HLL.out]; omega) wz.heap.size HN0.out ?_); intro g' cap w7 hA7 hb7 hk7; rw [HTK.out] at hA7; rw [HLL.out] at hA7 ⊢; have v97 := hk7 _ _ (.inr (Nat.le_refl _)) (v96.alloc _); have hvb7 := hk7 _ _ (.inl h4) (hvb6.alloc _); have hbut7 := (hbut6.alloc _).upB hb7; have hbl7 := (Bl.alloc hbl6 _).trans (hb7.mono (by have := hbl6.size; omega)); obtain ⟨s9, a9, n9, c9, g0, g1, g2, g3, ig⟩ := v97.cells; obtain ⟨s4, a4, n4, c4, y0, y1, y2, y3, ib⟩ := hvb7.cells; clear hAp6 v96 hvb6 hbut6 hbl6 hb7 hk7)
            have e1 : k - 1 + 1 = k := by omega
            have e2 : k + 1 - 1 = k := by omega
            rw [e1] at hA7
            rw [HGE.out] at hgb ig
            have vB := Vx.put hvb7.va ig
            have hA8 := hA7.st (s := s9) (a := a9) (n := n9) (c := c9) hvb7.va h4
            have hb8 := (hbut7.set 0 (.bool s9)).set 1 (.slice a9 n9 c9)
            have hl8 := Bl.st hbl7 (s := s9) (a := a9) (n := n9) (c := c9) hw4
            refine ⟨⟨k + 1, _, by omega, by omega, by go_num, rfl, ?_, hb8, fun h => absurd h (by omega), ?_, ?_, hl8⟩, by simp [intOf]; omega⟩
            · rw [e2]; exact .inr hA8
            · rw [e2]; exact vB
            · rw [e2]; exact hgb
    · have hkl : k - 1 = r := by omega
      have kr : ¬ (k : Int) ≤ (r : Int) := by omega
      have hR2 := hAp.rw
      rw [hkl, List.take_of_length_le (by rw [HLEN.out]; exact Nat.le_refl _)] at hR2
      clear hAp hvb hbut hbl1
      go_wp2_with fail
      go_ret
      exact ⟨_, rfl, hR2, hbl⟩
end Go.Proofs.YtdbpkoddfcdhdaaGreat
