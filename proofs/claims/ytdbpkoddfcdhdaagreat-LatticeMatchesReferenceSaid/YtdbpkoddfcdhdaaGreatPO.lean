/-
  algoristlaw12.examples.
-/
import Derived.Test.YtdbpkoddfcdhdaaGreatPH
import Derived.Test.YtdbpkoddfcdhdaaGreatPN
set_option linter.unusedSimpArgs false
set_option linter.unusedVariables false

namespace Go.Proofs.YtdbpkoddfcdhdaaGreat
open Go.RowKit
attribute [local go_sem ↓] Go.wp_at_zero Go.wp_at_succ

theorem row2 (x y : Int) (T : Nat) (W : World) (hx : -9223372036854775808 ≤ x ∧ x ≤ 9223372036854775807) (hy : -9223372036854775808 ≤ y ∧ y ≤ 9223372036854775807) :
    Calls Tryz.prog 17 #[.slice (some ⟨W.heap.size, 0, none⟩) 2 2] (W.alloc (.cells #[.int .i64 x, .int .i64 y] T)) fun e w' => ∃ a c, e = .returned (.slice a 2 c) ∧ Rw w' (.slice a 2 c) [x, y] ∧ Below W.heap.size W w' := by
  refine (row_any W.heap.size 0 2 2 [x, y] _ rfl (by decide) (fun i hi => ?_) (fun i hi => ?_)).mono ?_
  · rw [World.cell?_alloc_at _ _ _ _ rfl]
    rcases i with _ | _ | i
    · rfl
    · rfl
    · omega
  · rcases i with _ | _ | i
    · exact hx
    · exact hy
    · omega
  · rintro e w' ⟨v, rfl, hR, hb⟩
    obtain ⟨a, c, rfl, -⟩ := id hR
    exact ⟨a, c, rfl, hR, (below_new W _).trans (hb.mono (by simp))⟩

theorem row2c (b : Nat) (x y : Int) (W : World) (h0 : W.cell? ⟨b, 0, none⟩ = some (.int .i64 x)) (h1 : W.cell? ⟨b, 1, none⟩ = some (.int .i64 y)) (hx : -9223372036854775808 ≤ x ∧ x ≤ 9223372036854775807) (hy : -9223372036854775808 ≤ y ∧ y ≤ 9223372036854775807) :
    Calls Tryz.prog 17 #[.slice (some ⟨b, 0, none⟩) 2 2] W fun e w' => ∃ a c, e = .returned (.slice a 2 c) ∧ Rw w' (.slice a 2 c) [x, y] ∧ Below W.heap.size W w' := by
  refine (row_any b 0 2 2 [x, y] _ rfl (by decide) (fun i hi => ?_) (fun i hi => ?_)).mono ?_
  · rcases i with _ | _ | i
    · exact h0
    · exact h1
    · omega
  · rcases i with _ | _ | i
    · exact hx
    · exact hy
    · omega
  · rintro e w' ⟨v, rfl, hR, hb⟩
    obtain ⟨a, c, rfl, -⟩ := id hR
    exact ⟨a, c, rfl, hR, hb⟩

theorem mat2 {W : World} {a b : Option Addr} {c d n m : Nat} {l k : List Int} (hn : l.length = n) (hm : k.length = m) (h1 : Rw W (.slice a n c) l) (h2 : Rw W (.slice b m d) k) (T : Nat) :
    Mx (W.alloc (.cells #[.slice a n c, .slice b m d] T)) (.slice (some ⟨W.heap.size, 0, none⟩) 2 2) [l, k] := by
  subst hn hm
  refine ⟨_, 2, rfl, Nat.le_refl _, .inr ⟨W.heap.size, 0, rfl, by simp, fun i hi => ?_⟩⟩
  rcases i with _ | _ | i
  · exact ⟨a, c, by rw [World.cell?_alloc_at _ _ _ _ rfl]; rfl, h1.up (below_new _ _)⟩
  · exact ⟨b, d, by rw [World.cell?_alloc_at _ _ _ _ rfl]; rfl, h2.up (below_new _ _)⟩
  · exact absurd hi (by simp)

theorem mat1 {W : World} {a : Option Addr} {c n : Nat} {l : List Int} (hn : l.length = n) (h1 : Rw W (.slice a n c) l) (T : Nat) :
    Mx (W.alloc (.cells #[.slice a n c] T)) (.slice (some ⟨W.heap.size, 0, none⟩) 1 1) [l] := by
  subst hn
  refine ⟨_, 1, rfl, Nat.le_refl _, .inr ⟨W.heap.size, 0, rfl, by simp, fun i hi => ?_⟩⟩
  rcases i with _ | i
  · exact ⟨a, c, by rw [World.cell?_alloc_at _ _ _ _ rfl]; rfl, h1.up (below_new _ _)⟩
  · exact absurd hi (by simp)

/-- What lasts through region 10. -/
structure ExF (w : World) (Bm Bg Bd : Nat) (ah : Option Addr) (ch : Nat) (ak : Option Addr) (ck : Nat) (aS : Option Addr) (cs : Nat) (s3 : Bool) (a3 : Option Addr) (n3 c3 : Nat) (W : World) : Prop where
  b : Below w.heap.size w W
  m : Mx W (.slice (some ⟨Bm, 0, none⟩) 2 2) [[4, 6], [2, 8]]
  h : Mx W (.slice ah 2 ch) [[2, 8], [0, 10]]
  k : Mx W (.slice ak 1 ck) [[2, -1]]
  s : Rw W (.slice aS 2 cs) [2, 10]
  d : It W (.agg #[.bool s3, .slice a3 n3 c3]) 20
  g0 : W.cell? ⟨Bg, 0, none⟩ = some (.slice ah 2 ch)
  k0 : W.cell? ⟨Bg + 1, 0, none⟩ = some (.slice ak 1 ck)
  d0 : W.cell? ⟨Bd, 0, none⟩ = some (.bool s3)
  d1 : W.cell? ⟨Bd, 1, none⟩ = some (.slice a3 n3 c3)

theorem ExF.up {w : World} {Bm Bg Bd : Nat} {ah : Option Addr} {ch : Nat} {ak : Option Addr} {ck : Nat} {aS : Option Addr} {cs : Nat} {s3 : Bool} {a3 : Option Addr} {n3 c3 : Nat} {W W' : World} (x : ExF w Bm Bg Bd ah ch ak ck aS cs s3 a3 n3 c3 W) (hb : Below W.heap.size W W') : ExF w Bm Bg Bd ah ch ak ck aS cs s3 a3 n3 c3 W' :=
  ⟨Bl.up x.b hb, x.m.up hb, x.h.up hb, x.k.up hb, x.s.up hb, x.d.up hb, keepc hb x.g0, keepc hb x.k0, keepc hb x.d0, keepc hb x.d1⟩
theorem ExF.sf {w : World} {Bm Bg Bd : Nat} {ah : Option Addr} {ch : Nat} {ak : Option Addr} {ck : Nat} {aS : Option Addr} {cs : Nat} {s3 : Bool} {a3 : Option Addr} {n3 c3 : Nat} {W : World} (x : ExF w Bm Bg Bd ah ch ak ck aS cs s3 a3 n3 c3 W) :
    W.cell? ⟨Bg, 0, none⟩ = some (.slice ah 2 ch) ∧ W.cell? ⟨Bg + 1, 0, none⟩ = some (.slice ak 1 ck) ∧ W.cell? ⟨Bd, 0, none⟩ = some (.bool s3) ∧ W.cell? ⟨Bd, 1, none⟩ = some (.slice a3 n3 c3) := ⟨x.g0, x.k0, x.d0, x.d1⟩

theorem small_r {m : List (List Int)} (h : smB m = true) (i : Nat) : SmallR (m.getD i []) := fun k => Nat.le_trans (smB_out h i k) (by decide)
theorem len_r {m : List (List Int)} (h : (m.all fun r => decide (r.length ≤ 1099511627776)) = true) (i : Nat) : (m.getD i []).length ≤ 1099511627776 := by
  rcases Nat.lt_or_ge i m.length with hi | hi
  · have := List.all_eq_true.1 h _ (List.getElem_mem hi)
    simpa [List.getD_eq_getElem?_getD, hi] using this
  · simp [List.getD_eq_getElem?_getD, hi]
theorem small_l {l : List Int} (h : smB [l] = true) : SmallR l := small_r h 0

set_option maxRecDepth 100000 in
set_option maxHeartbeats 8000000 in
theorem examples_any (w : World) :
    Calls Tryz.prog 5 #[] w fun e w' => e = .returned (.bool true) ∧ Below w.heap.size w w' := by
  go_enter Tryz.func5, Tryz.ntmps5
  go_wp2_with fail
  refine (row2 4 6 _ _ (by decide) (by decide)).mono ?_
  rintro e w1 ⟨a1, c1, rfl, r1, hb1⟩
  go_wp2_with fail
  refine (row2 2 8 _ _ (by decide) (by decide)).mono ?_
  rintro e w2 ⟨a2, c2, rfl, r2, hb2⟩
  replace r1 := r1.up hb2
  replace hb1 := Bl.up hb1 hb2
  clear hb2
  have hM := mat2 (T := 36) (l := [4, 6]) (k := [2, 8]) (n := 2) (m := 2) rfl rfl r1 r2
  replace hb1 := Bl.alloc hb1 (.cells #[.slice a1 2 c1, .slice a2 2 c2] 36)
  clear r1 r2
  obtain ⟨W3, hW3⟩ : ∃ W3, W3 = w2.alloc (.cells #[.slice a1 2 c1, .slice a2 2 c2] 36) := ⟨_, rfl⟩
  rw [← hW3] at hM hb1
  go_upto_region 2 with fail
  rw [← hW3]
  clear hW3
  generalize w2.heap.size = Bm at *
  have hH := Lhermite_any (.slice (some ⟨Bm, 0, none⟩) 2 2) W3 0 (fun m => m = [[2, 8], [0, 10]]) (fun m hm => by subst hm; decide)
    (fun W hW => (exHermite _ W (hM.up hW)).mono (by rintro e w' ⟨v', rfl, h, hb⟩; exact ⟨v', _, rfl, rfl, h, hb⟩))
  go_wp2_with fail
  refine hH.mono ?_
  rintro e w4 ⟨vh, mh, rfl, rfl, hh, hb4⟩
  obtain ⟨ah, ch, rfl, -, -⟩ := id hh
  replace hM := hM.up hb4
  replace hb1 := Bl.up hb1 hb4
  clear hb4 hH
  go_wp2_with fail
  refine (row2 1 2 _ _ (by decide) (by decide)).mono ?_
  rintro e w5 ⟨a5, c5, rfl, r5, hb5⟩
  replace hM := hM.up hb5
  replace hh := hh.up hb5
  replace hb1 := Bl.up hb1 hb5
  clear hb5
  go_wp2_with fail
  refine (row2 2 4 _ _ (by decide) (by decide)).mono ?_
  rintro e w6 ⟨a6, c6, rfl, r6, hb6⟩
  replace hM := hM.up hb6
  replace hh := hh.up hb6
  replace r5 := r5.up hb6
  replace hb1 := Bl.up hb1 hb6
  clear hb6
  have hN := mat2 (T := 36) (l := [1, 2]) (k := [2, 4]) (n := 2) (m := 2) rfl rfl r5 r6
  have hK := Lkernel_any (.slice (some ⟨w6.heap.size, 0, none⟩) 2 2) _ 0 (fun m => m = [[2, -1]]) (fun m hm => by subst hm; decide)
    (fun W hW => (exKernel _ W (hN.up hW)).mono (by rintro e w' ⟨v', rfl, h, hb⟩; exact ⟨v', _, rfl, rfl, h, hb⟩))
  go_wp2_with fail
  refine hK.mono ?_
  rintro e w7 ⟨vk, mk, rfl, rfl, hk, hb7⟩
  obtain ⟨ak, ck, rfl, -, -⟩ := id hk
  have hb7' := (below_new w6 (.cells #[.slice a5 2 c5, .slice a6 2 c6] 36)).trans (hb7.mono (by simp))
  replace hM := hM.up hb7'
  replace hh := hh.up hb7'
  replace hb1 := Bl.up hb1 hb7'
  clear hb7 hb7' hK hN r5 r6
  go_upto_region 3 with fail
  obtain ⟨W8, hW8⟩ : ∃ W8, W8 = (w7.alloc (.cells #[.slice ah 2 ch, .int .i64 0] 31)).alloc (.cells #[.slice ak 1 ck, .int .i64 0] 31) := ⟨_, rfl⟩
  rw [← hW8]
  have h78 : Below w7.heap.size w7 W8 := by rw [hW8]; exact Bl.alloc (below_new _ _) _
  have g0 : W8.cell? ⟨w7.heap.size, 0, none⟩ = some (.slice ah 2 ch) := by rw [hW8]; exact cellN (by rw [World.cell?_alloc_at _ _ _ _ rfl]; rfl) _
  have g1 : W8.cell? ⟨w7.heap.size, 1, none⟩ = some (.int .i64 0) := by rw [hW8]; exact cellN (by rw [World.cell?_alloc_at _ _ _ _ rfl]; rfl) _
  have k0 : W8.cell? ⟨w7.heap.size + 1, 0, none⟩ = some (.slice ak 1 ck) := by rw [hW8, World.cell?_alloc_at _ _ _ _ (by simp)]; rfl
  have k1 : W8.cell? ⟨w7.heap.size + 1, 1, none⟩ = some (.int .i64 0) := by rw [hW8, World.cell?_alloc_at _ _ _ _ (by simp)]; rfl
  replace hM := hM.up h78
  replace hh := hh.up h78
  replace hk := hk.up h78
  replace hb1 := Bl.up hb1 h78
  clear h78 hW8
  generalize w7.heap.size = Bg at *
  have hD := exDet _ W8 hM
  go_wp2_with fail
  refine hD.mono ?_
  rintro e w9 ⟨vd, rfl, hd, hb9⟩
  obtain ⟨sd, ad, nd, cd, rfl⟩ := hd.shape
  replace hM := hM.up hb9
  replace hh := hh.up hb9
  replace hk := hk.up hb9
  replace g0 := keepc hb9 g0
  replace g1 := keepc hb9 g1
  replace k0 := keepc hb9 k0
  replace k1 := keepc hb9 k1
  replace hb1 := Bl.up hb1 hb9
  clear hb9 hD
  go_upto_region 4 with fail
  replace hd := Vx.new (B := w9.heap.size) (T := 56) rfl hd
  obtain ⟨WA, hWA⟩ : ∃ WA, WA = w9.alloc (.cells #[.bool sd, .slice ad nd cd] 56) := ⟨_, rfl⟩
  rw [← hWA] at hd ⊢
  have h9A : Below w9.heap.size w9 WA := by rw [hWA]; exact below_new _ _
  replace hM := hM.up h9A
  replace hh := hh.up h9A
  replace hk := hk.up h9A
  replace g0 := keepc h9A g0
  replace g1 := keepc h9A g1
  replace k0 := keepc h9A k0
  replace k1 := keepc h9A k1
  replace hb1 := Bl.up hb1 h9A
  clear h9A hWA
  generalize w9.heap.size = Bd at *
  have hS := exSmith _ WA hM
  go_wp2_with fail
  refine hS.mono ?_
  rintro e wB ⟨vs, rfl, hs, hbB⟩
  obtain ⟨aS, cs, rfl, -⟩ := id hs
  replace hM := hM.up hbB
  replace hh := hh.up hbB
  replace hk := hk.up hbB
  replace hd := hd.up hbB
  replace g0 := keepc hbB g0
  replace g1 := keepc hbB g1
  replace k0 := keepc hbB k0
  replace k1 := keepc hbB k1
  replace hb1 := Bl.up hb1 hbB
  clear hbB hS
  have hK := exRank _ wB hM
  go_wp2_with fail
  refine hK.mono ?_
  rintro e wC ⟨rfl, hbC⟩
  replace hs := hs.up hbC
  replace hM := hM.up hbC
  replace hh := hh.up hbC
  replace hk := hk.up hbC
  replace hd := hd.up hbC
  replace g0 := keepc hbC g0
  replace g1 := keepc hbC g1
  replace k0 := keepc hbC k0
  replace k1 := keepc hbC k1
  replace hb1 := Bl.up hb1 hbC
  clear hbC hK
  go_wp2_with fail
  refine (row2 1 2 _ _ (by decide) (by decide)).mono ?_
  rintro e wD ⟨aD, cD, rfl, rD, hbD⟩
  replace hs := hs.up hbD
  replace hM := hM.up hbD
  replace hh := hh.up hbD
  replace hk := hk.up hbD
  replace hd := hd.up hbD
  replace g0 := keepc hbD g0
  replace g1 := keepc hbD g1
  replace k0 := keepc hbD k0
  replace k1 := keepc hbD k1
  replace hb1 := Bl.up hb1 hbD
  clear hbD
  have hN := mat1 (T := 36) (l := [1, 2]) (n := 2) rfl rD
  have hE := Det_sq _ _ _ hN (by decide) (by decide) (by decide) (by decide)
  go_wp2_with fail
  refine hE.mono ?_
  rintro e wE ⟨vE, rfl, hE2, hbE⟩
  obtain ⟨sE, aE, nE, cE, rfl⟩ := hE2.shape
  have hbE' := (below_new wD (.cells #[.slice aD 2 cD] 36)).trans (hbE.mono (by simp))
  replace hs := hs.up hbE'
  replace hM := hM.up hbE'
  replace hh := hh.up hbE'
  replace hk := hk.up hbE'
  replace hd := hd.up hbE'
  replace g0 := keepc hbE' g0
  replace g1 := keepc hbE' g1
  replace k0 := keepc hbE' k0
  replace k1 := keepc hbE' k1
  replace hb1 := Bl.up hb1 hbE'
  clear hbE hbE' hE hN rD hE2
  go_upto_region 7 with fail
  obtain ⟨WF, hWF⟩ : ∃ WF, WF = wE.alloc (.cells #[.bool sE, .slice aE nE cE] 56) := ⟨_, rfl⟩
  rw [← hWF]
  have hEF : Below wE.heap.size wE WF := by rw [hWF]; exact below_new _ _
  replace hM := hM.up hEF
  replace hh := hh.up hEF
  replace hk := hk.up hEF
  replace hd := hd.up hEF
  replace hs := hs.up hEF
  replace g0 := keepc hEF g0
  replace g1 := keepc hEF g1
  replace k0 := keepc hEF k0
  replace k1 := keepc hEF k1
  replace hb1 := Bl.up hb1 hEF
  clear hEF hWF
  generalize wE.heap.size = Be at *
  go_wp2_with fail
  refine (row2 1 0 _ _ (by decide) (by decide)).mono ?_
  rintro e wG ⟨aG, cG, rfl, rG, hbG⟩
  replace hM := hM.up hbG
  replace hh := hh.up hbG
  replace hk := hk.up hbG
  replace hd := hd.up hbG
  replace hs := hs.up hbG
  replace g0 := keepc hbG g0
  replace g1 := keepc hbG g1
  replace k0 := keepc hbG k0
  replace k1 := keepc hbG k1
  replace hb1 := Bl.up hb1 hbG
  clear hbG
  have hS := exSolve _ _ wG hM rG
  go_wp2_with fail
  refine hS.mono ?_
  rintro e wH ⟨rfl, hbH⟩
  replace hM := hM.up hbH
  replace hh := hh.up hbH
  replace hk := hk.up hbH
  replace hd := hd.up hbH
  replace hs := hs.up hbH
  replace g0 := keepc hbH g0
  replace g1 := keepc hbH g1
  replace k0 := keepc hbH k0
  replace k1 := keepc hbH k1
  replace hb1 := Bl.up hb1 hbH
  clear hbH hS rG
  go_upto_region 10 with fail
  obtain ⟨s3, a3, n3, c3, d0, d1, d2, d3, di⟩ := hd.cells
  have F : ExF w Bm Bg Bd ah ch ak ck aS cs s3 a3 n3 c3 wH := ⟨hb1, hM, hh, hk, hs, di, g0, k0, d0, d1⟩
  clear hb1 hM hh hk hs di hd d2 d3 g1 k1
  refine wp_region_T (by kernel_rfl) [40] (S := fun w' => w'.cell? ⟨Bg, 0, none⟩ = some (.slice ah 2 ch) ∧ w'.cell? ⟨Bg + 1, 0, none⟩ = some (.slice ak 1 ck) ∧ w'.cell? ⟨Bd, 0, none⟩ = some (.bool s3) ∧ w'.cell? ⟨Bd, 1, none⟩ = some (.slice a3 n3 c3)) ⟨g0, k0, d0, d1⟩ (fun hHeld => ?_)
  (refine tP 0 rfl ?_; (try simp only [lay, List.getElem_toArray, List.getElem_cons_succ, List.getElem_cons_zero]))
  (refine tK 1 rfl ?_; (try simp only [lay, List.getElem_toArray, List.getElem_cons_succ, List.getElem_cons_zero]))
  clear hHeld g0 k0 d0 d1
  refine wpAnyT_three (i := 2) (k := 3) (j := 4) (fun W => ExF w Bm Bg Bd ah ch ak ck aS cs s3 a3 n3 c3 W) (fun v W => ∃ b, v = .slice (some ⟨b, 0, none⟩) 2 2 ∧ W.cell? ⟨b, 0, none⟩ = some (.int .i64 2) ∧ W.cell? ⟨b, 1, none⟩ = some (.int .i64 8))
    (fun v W => ∃ a c, v = .slice a 2 c ∧ Rw W (.slice a 2 c) [2, 8]) (fun v W => ∃ b, v = .slice (some ⟨b, 0, none⟩) 2 2 ∧ W.cell? ⟨b, 0, none⟩ = some (.int .i64 0) ∧ W.cell? ⟨b, 1, none⟩ = some (.int .i64 10))
    (by kernel_rfl) (by kernel_rfl) (by kernel_rfl) (by kernel_rfl) (by kernel_rfl) (by decide) (by decide) rfl rfl rfl (fun _ h => h.sf) (F.up (Below.refl _ _).drew)
    (fun _ _ h hb => h.up hb) (fun v w w' ⟨b, e, h0, h1⟩ hb => ⟨b, e, keepc hb h0, keepc hb h1⟩) (fun v w w' ⟨a, c, e, h⟩ hb => ⟨a, c, e, h.up hb⟩) (fun v w w' ⟨b, e, h0, h1⟩ hb => ⟨b, e, keepc hb h0, keepc hb h1⟩) ?_ ?_ ?_ ?_
  · rintro a' W (rfl | ⟨v, rfl⟩) - K hK
    all_goals
      (try simp only [lay, List.getElem_toArray, List.getElem_cons_succ, List.getElem_cons_zero])
      go_simp
      exact hK.out _ _ ⟨_, rfl, by rw [World.cell?_alloc_at _ _ _ _ rfl]; rfl, by rw [World.cell?_alloc_at _ _ _ _ rfl]; rfl⟩ (below_new _ _)
  · rintro a' W (rfl | ⟨v, rfl⟩ | ⟨v, u, rfl⟩) - K hK
    all_goals
      (try simp only [lay, List.getElem_toArray, List.getElem_cons_succ, List.getElem_cons_zero])
      go_simp
      exact hK.out _ _ ⟨_, rfl, by rw [World.cell?_alloc_at _ _ _ _ rfl]; rfl, by rw [World.cell?_alloc_at _ _ _ _ rfl]; rfl⟩ (below_new _ _)
  · rintro a' v W (rfl | ⟨u, rfl⟩) ⟨b, rfl, q0, q1⟩ - K hK
    all_goals
      (try simp only [lay, List.getElem_toArray, List.getElem_cons_succ, List.getElem_cons_zero])
      go_simp
      refine (row2c b 2 8 W q0 q1 (by decide) (by decide)).mono ?_
      rintro e W' ⟨a, c, rfl, hR, hb⟩
      exact hK.out _ _ ⟨_, _, rfl, hR⟩ hb
  · clear F
    rintro vi vk vj W5 F ⟨bi, hvi, -, -⟩ ⟨a5, c5, hvk, r5⟩ ⟨bj, hvj, q0, q1⟩
    subst hvi hvk hvj
    (try simp only [lay, List.getElem_toArray, List.getElem_cons_succ, List.getElem_cons_zero])
    (refine wpAnyT_one (i := 5) (by as_aux_lemma => kernel_rfl) rfl (fun K hK => ?_); (try simp only [lay, List.getElem_toArray, List.getElem_cons_succ, List.getElem_cons_zero]); go_simp)
    refine (row2c bj 0 10 W5 q0 q1 (by decide) (by decide)).mono ?_
    rintro e W6 ⟨a6, c6, rfl, r6, hb6⟩
    replace F := F.up hb6
    replace r5 := r5.up hb6
    refine hK.out _ _ (fun _ => F.sf) ?_
    clear hK hb6 q0 q1
    (try simp only [lay, List.getElem_toArray, List.getElem_cons_succ, List.getElem_cons_zero])
    (refine wpAnyT_one (i := 6) (by as_aux_lemma => kernel_rfl) rfl (fun K hK => ?_); (try simp only [lay, List.getElem_toArray, List.getElem_cons_succ, List.getElem_cons_zero]); go_simp)
    have hN := mat2 (T := 36) (l := [2, 8]) (k := [0, 10]) (n := 2) (m := 2) rfl rfl r5 r6
    have hbn := below_new W6 (.cells #[.slice a5 2 c5, .slice a6 2 c6] 36)
    replace F := F.up hbn
    clear r5 r6 hbn
    refine hK.out _ _ (fun _ => F.sf) ?_
    clear hK
    (try simp only [lay, List.getElem_toArray, List.getElem_cons_succ, List.getElem_cons_zero])
    (refine wpAnyT_one (i := 7) (by as_aux_lemma => kernel_rfl) rfl (fun K hK => ?_); (try simp only [lay, List.getElem_toArray, List.getElem_cons_succ, List.getElem_cons_zero]); go_simp)
    refine (rsameM_any _ _ [[2, 8], [0, 10]] [[2, 8], [0, 10]] _ F.h hN (by decide) (by decide) (small_r (by decide)) (small_r (by decide)) (len_r (by decide)) (len_r (by decide))).mono ?_
    rintro e W8 ⟨rfl, hb8⟩
    rw [show sameMB [[2, 8], [0, 10]] [[2, 8], [0, 10]] = true from by decide]
    replace F := F.up hb8
    clear hb8 hN
    refine hK.out _ _ (fun _ => F.sf) ?_
    clear hK
    (try simp only [lay, List.getElem_toArray, List.getElem_cons_succ, List.getElem_cons_zero])
    (refine wpAnyT_one (i := 8) (by as_aux_lemma => kernel_rfl) rfl (fun K hK => ?_); (try simp only [lay, List.getElem_toArray, List.getElem_cons_succ, List.getElem_cons_zero]); go_simp)
    refine hK.out _ _ (fun _ => F.sf) ?_
    clear hK
    (try simp only [lay, List.getElem_toArray, List.getElem_cons_succ, List.getElem_cons_zero])
    have HS := F.sf
    (refine tP 9 rfl ?_; (try simp only [lay, List.getElem_toArray, List.getElem_cons_succ, List.getElem_cons_zero]))
    (refine tK 10 rfl ?_; (try simp only [lay, List.getElem_toArray, List.getElem_cons_succ, List.getElem_cons_zero]))
    clear HS
    (refine wpAnyT_one (i := 11) (by as_aux_lemma => kernel_rfl) rfl (fun K hK => ?_); (try simp only [lay, List.getElem_toArray, List.getElem_cons_succ, List.getElem_cons_zero]); go_simp)
    replace F := F.up (below_new W8 (.cells #[.int .i64 2, .int .i64 (-1)] 2))
    have q0 : (W8.alloc (.cells #[.int .i64 2, .int .i64 (-1)] 2)).cell? ⟨W8.heap.size, 0, none⟩ = some (.int .i64 2) := by rw [World.cell?_alloc_at _ _ _ _ rfl]; rfl
    have q1 : (W8.alloc (.cells #[.int .i64 2, .int .i64 (-1)] 2)).cell? ⟨W8.heap.size, 1, none⟩ = some (.int .i64 (-1)) := by rw [World.cell?_alloc_at _ _ _ _ rfl]; rfl
    refine hK.out _ _ (fun _ => F.sf) ?_
    clear hK
    (try simp only [lay, List.getElem_toArray, List.getElem_cons_succ, List.getElem_cons_zero])
    (refine wpAnyT_one (i := 12) (by as_aux_lemma => kernel_rfl) rfl (fun K hK => ?_); (try simp only [lay, List.getElem_toArray, List.getElem_cons_succ, List.getElem_cons_zero]); go_simp)
    refine (row2c _ 2 (-1) _ q0 q1 (by decide) (by decide)).mono ?_
    rintro e W9 ⟨a9, c9, rfl, r9, hbr⟩
    replace F := F.up hbr
    clear hbr q0 q1
    refine hK.out _ _ (fun _ => F.sf) ?_
    clear hK
    (try simp only [lay, List.getElem_toArray, List.getElem_cons_succ, List.getElem_cons_zero])
    (refine wpAnyT_one (i := 13) (by as_aux_lemma => kernel_rfl) rfl (fun K hK => ?_); (try simp only [lay, List.getElem_toArray, List.getElem_cons_succ, List.getElem_cons_zero]); go_simp)
    have hN := mat1 (T := 36) (l := [2, -1]) (n := 2) rfl r9
    replace F := F.up (below_new W9 (.cells #[.slice a9 2 c9] 36))
    clear r9
    refine hK.out _ _ (fun _ => F.sf) ?_
    clear hK
    (try simp only [lay, List.getElem_toArray, List.getElem_cons_succ, List.getElem_cons_zero])
    (refine wpAnyT_one (i := 14) (by as_aux_lemma => kernel_rfl) rfl (fun K hK => ?_); (try simp only [lay, List.getElem_toArray, List.getElem_cons_succ, List.getElem_cons_zero]); go_simp)
    refine (rsameM_any _ _ [[2, -1]] [[2, -1]] _ F.k hN (by decide) (by decide) (small_r (by decide)) (small_r (by decide)) (len_r (by decide)) (len_r (by decide))).mono ?_
    rintro e Wa ⟨rfl, hb8⟩
    rw [show sameMB [[2, -1]] [[2, -1]] = true from by decide]
    replace F := F.up hb8
    clear hb8 hN
    refine hK.out _ _ (fun _ => F.sf) ?_
    clear hK
    (try simp only [lay, List.getElem_toArray, List.getElem_cons_succ, List.getElem_cons_zero])
    (refine wpAnyT_one (i := 15) (by as_aux_lemma => kernel_rfl) rfl (fun K hK => ?_); (try simp only [lay, List.getElem_toArray, List.getElem_cons_succ, List.getElem_cons_zero]); go_simp)
    refine hK.out _ _ (fun _ => F.sf) ?_
    clear hK
    (try simp only [lay, List.getElem_toArray, List.getElem_cons_succ, List.getElem_cons_zero])
    (refine wpAnyT_one (i := 16) (by as_aux_lemma => kernel_rfl) rfl (fun K hK => ?_); (try simp only [lay, List.getElem_toArray, List.getElem_cons_succ, List.getElem_cons_zero]); go_simp)
    refine hK.out _ _ (fun _ => F.sf) ?_
    clear hK
    (try simp only [lay, List.getElem_toArray, List.getElem_cons_succ, List.getElem_cons_zero])
    have HS := F.sf
    (refine tK 17 rfl ?_; (try simp only [lay, List.getElem_toArray, List.getElem_cons_succ, List.getElem_cons_zero]))
    clear HS
    (refine wpAnyT_one (i := 18) (by as_aux_lemma => kernel_rfl) rfl (fun K hK => ?_); (try simp only [lay, List.getElem_toArray, List.getElem_cons_succ, List.getElem_cons_zero]); go_simp)
    refine (rof_any 20 _ (by decide) (by decide)).mono ?_
    rintro e Wb ⟨vb, rfl, hvb, hbr⟩
    replace F := F.up hbr
    clear hbr
    refine hK.out _ _ (fun _ => F.sf) ?_
    clear hK
    (try simp only [lay, List.getElem_toArray, List.getElem_cons_succ, List.getElem_cons_zero])
    (refine wpAnyT_one (i := 19) (by as_aux_lemma => kernel_rfl) rfl (fun K hK => ?_); (try simp only [lay, List.getElem_toArray, List.getElem_cons_succ, List.getElem_cons_zero]); go_simp)
    refine (rsame_any _ _ 20 20 _ F.d hvb (by decide) (by decide)).mono ?_
    rintro e Wc ⟨rfl, hbr⟩
    rw [show sameB 20 20 = true from by decide]
    replace F := F.up hbr
    clear hbr hvb
    refine hK.out _ _ (fun _ => F.sf) ?_
    clear hK
    (try simp only [lay, List.getElem_toArray, List.getElem_cons_succ, List.getElem_cons_zero])
    (refine wpAnyT_one (i := 20) (by as_aux_lemma => kernel_rfl) rfl (fun K hK => ?_); (try simp only [lay, List.getElem_toArray, List.getElem_cons_succ, List.getElem_cons_zero]); go_simp)
    refine hK.out _ _ (fun _ => F.sf) ?_
    clear hK
    (try simp only [lay, List.getElem_toArray, List.getElem_cons_succ, List.getElem_cons_zero])
    (refine wpAnyT_one (i := 21) (by as_aux_lemma => kernel_rfl) rfl (fun K hK => ?_); (try simp only [lay, List.getElem_toArray, List.getElem_cons_succ, List.getElem_cons_zero]); go_simp)
    refine hK.out _ _ (fun _ => F.sf) ?_
    clear hK
    (try simp only [lay, List.getElem_toArray, List.getElem_cons_succ, List.getElem_cons_zero])
    have HS := F.sf
    (refine tP 22 rfl ?_; (try simp only [lay, List.getElem_toArray, List.getElem_cons_succ, List.getElem_cons_zero]))
    clear HS
    (refine wpAnyT_one (i := 23) (by as_aux_lemma => kernel_rfl) rfl (fun K hK => ?_); (try simp only [lay, List.getElem_toArray, List.getElem_cons_succ, List.getElem_cons_zero]); go_simp)
    replace F := F.up (below_new Wc (.cells #[.int .i64 2, .int .i64 10] 2))
    have q0 : (Wc.alloc (.cells #[.int .i64 2, .int .i64 10] 2)).cell? ⟨Wc.heap.size, 0, none⟩ = some (.int .i64 2) := by rw [World.cell?_alloc_at _ _ _ _ rfl]; rfl
    have q1 : (Wc.alloc (.cells #[.int .i64 2, .int .i64 10] 2)).cell? ⟨Wc.heap.size, 1, none⟩ = some (.int .i64 10) := by rw [World.cell?_alloc_at _ _ _ _ rfl]; rfl
    refine hK.out _ _ (fun _ => F.sf) ?_
    clear hK
    (try simp only [lay, List.getElem_toArray, List.getElem_cons_succ, List.getElem_cons_zero])
    (refine wpAnyT_one (i := 24) (by as_aux_lemma => kernel_rfl) rfl (fun K hK => ?_); (try simp only [lay, List.getElem_toArray, List.getElem_cons_succ, List.getElem_cons_zero]); go_simp)
    refine (row2c _ 2 10 _ q0 q1 (by decide) (by decide)).mono ?_
    rintro e Wd ⟨ad, cd, rfl, rd, hbr⟩
    replace F := F.up hbr
    clear hbr q0 q1
    refine hK.out _ _ (fun _ => F.sf) ?_
    clear hK
    (try simp only [lay, List.getElem_toArray, List.getElem_cons_succ, List.getElem_cons_zero])
    (refine wpAnyT_one (i := 25) (by as_aux_lemma => kernel_rfl) rfl (fun K hK => ?_); (try simp only [lay, List.getElem_toArray, List.getElem_cons_succ, List.getElem_cons_zero]); go_simp)
    refine (rsameRow_any _ _ [2, 10] [2, 10] _ F.s rd (by decide) (by decide) (small_l (by decide)) (small_l (by decide))).mono ?_
    rintro e We ⟨rfl, hbr⟩
    rw [show sameRowB [2, 10] [2, 10] = true from by decide]
    replace F := F.up hbr
    clear hbr rd
    refine hK.out _ _ (fun _ => F.sf) ?_
    clear hK
    (try simp only [lay, List.getElem_toArray, List.getElem_cons_succ, List.getElem_cons_zero])
    (refine wpAnyT_one (i := 26) (by as_aux_lemma => kernel_rfl) rfl (fun K hK => ?_); (try simp only [lay, List.getElem_toArray, List.getElem_cons_succ, List.getElem_cons_zero]); go_simp)
    refine hK.out _ _ (fun _ => F.sf) ?_
    clear hK
    (try simp only [lay, List.getElem_toArray, List.getElem_cons_succ, List.getElem_cons_zero])
    (refine wpAnyT_one (i := 27) (by as_aux_lemma => kernel_rfl) rfl (fun K hK => ?_); (try simp only [lay, List.getElem_toArray, List.getElem_cons_succ, List.getElem_cons_zero]); go_simp)
    refine hK.out _ _ (fun _ => F.sf) ?_
    clear hK
    (try simp only [lay, List.getElem_toArray, List.getElem_cons_succ, List.getElem_cons_zero])
    have HS := F.sf
    (refine tP 28 rfl ?_; (try simp only [lay, List.getElem_toArray, List.getElem_cons_succ, List.getElem_cons_zero]))
    clear HS
    (refine wpAnyT_one (i := 29) (by as_aux_lemma => kernel_rfl) rfl (fun K hK => ?_); (try simp only [lay, List.getElem_toArray, List.getElem_cons_succ, List.getElem_cons_zero]); go_simp)
    replace F := F.up (below_new We (.cells #[.int .i64 6, .int .i64 4] 2))
    have q0 : (We.alloc (.cells #[.int .i64 6, .int .i64 4] 2)).cell? ⟨We.heap.size, 0, none⟩ = some (.int .i64 6) := by rw [World.cell?_alloc_at _ _ _ _ rfl]; rfl
    have q1 : (We.alloc (.cells #[.int .i64 6, .int .i64 4] 2)).cell? ⟨We.heap.size, 1, none⟩ = some (.int .i64 4) := by rw [World.cell?_alloc_at _ _ _ _ rfl]; rfl
    refine hK.out _ _ (fun _ => F.sf) ?_
    clear hK
    (try simp only [lay, List.getElem_toArray, List.getElem_cons_succ, List.getElem_cons_zero])
    (refine wpAnyT_one (i := 30) (by as_aux_lemma => kernel_rfl) rfl (fun K hK => ?_); (try simp only [lay, List.getElem_toArray, List.getElem_cons_succ, List.getElem_cons_zero]); go_simp)
    refine (row2c _ 6 4 _ q0 q1 (by decide) (by decide)).mono ?_
    rintro e Wf ⟨af, cf, rfl, rf, hbr⟩
    replace F := F.up hbr
    clear hbr q0 q1
    refine hK.out _ _ (fun _ => F.sf) ?_
    clear hK
    (try simp only [lay, List.getElem_toArray, List.getElem_cons_succ, List.getElem_cons_zero])
    have hI := fun W (hW : Below Wf.heap.size Wf W) => exIn1 _ _ W (F.m.up hW) (rf.up hW)
    (refine wpAnyT_one (i := 31) (by as_aux_lemma => kernel_rfl) rfl (fun K hK => ?_); (try simp only [lay, List.getElem_toArray, List.getElem_cons_succ, List.getElem_cons_zero]); go_simp)
    refine (Lin_any _ _ _ true 0 hI).mono ?_
    rintro e Wg ⟨rfl, hbr⟩
    rw [show (true && decide ((0 : Int) = 0)) = true from by decide]
    replace F := F.up hbr
    clear hbr rf hI
    refine hK.out _ _ (fun _ => F.sf) ?_
    clear hK
    (try simp only [lay, List.getElem_toArray, List.getElem_cons_succ, List.getElem_cons_zero])
    (refine wpAnyT_one (i := 32) (by as_aux_lemma => kernel_rfl) rfl (fun K hK => ?_); (try simp only [lay, List.getElem_toArray, List.getElem_cons_succ, List.getElem_cons_zero]); go_simp)
    refine hK.out _ _ (fun _ => F.sf) ?_
    clear hK
    (try simp only [lay, List.getElem_toArray, List.getElem_cons_succ, List.getElem_cons_zero])
    (refine wpAnyT_one (i := 33) (by as_aux_lemma => kernel_rfl) rfl (fun K hK => ?_); (try simp only [lay, List.getElem_toArray, List.getElem_cons_succ, List.getElem_cons_zero]); go_simp)
    refine hK.out _ _ (fun _ => F.sf) ?_
    clear hK
    (try simp only [lay, List.getElem_toArray, List.getElem_cons_succ, List.getElem_cons_zero])
    have HS := F.sf
    (refine tP 34 rfl ?_; (try simp only [lay, List.getElem_toArray, List.getElem_cons_succ, List.getElem_cons_zero]))
    clear HS
    (refine wpAnyT_one (i := 35) (by as_aux_lemma => kernel_rfl) rfl (fun K hK => ?_); (try simp only [lay, List.getElem_toArray, List.getElem_cons_succ, List.getElem_cons_zero]); go_simp)
    replace F := F.up (below_new Wg (.cells #[.int .i64 1, .int .i64 0] 2))
    have q0 : (Wg.alloc (.cells #[.int .i64 1, .int .i64 0] 2)).cell? ⟨Wg.heap.size, 0, none⟩ = some (.int .i64 1) := by rw [World.cell?_alloc_at _ _ _ _ rfl]; rfl
    have q1 : (Wg.alloc (.cells #[.int .i64 1, .int .i64 0] 2)).cell? ⟨Wg.heap.size, 1, none⟩ = some (.int .i64 0) := by rw [World.cell?_alloc_at _ _ _ _ rfl]; rfl
    refine hK.out _ _ (fun _ => F.sf) ?_
    clear hK
    (try simp only [lay, List.getElem_toArray, List.getElem_cons_succ, List.getElem_cons_zero])
    (refine wpAnyT_one (i := 36) (by as_aux_lemma => kernel_rfl) rfl (fun K hK => ?_); (try simp only [lay, List.getElem_toArray, List.getElem_cons_succ, List.getElem_cons_zero]); go_simp)
    refine (row2c _ 1 0 _ q0 q1 (by decide) (by decide)).mono ?_
    rintro e Wh ⟨ag, cg, rfl, rg, hbr⟩
    replace F := F.up hbr
    clear hbr q0 q1
    refine hK.out _ _ (fun _ => F.sf) ?_
    clear hK
    (try simp only [lay, List.getElem_toArray, List.getElem_cons_succ, List.getElem_cons_zero])
    have hI := fun W (hW : Below Wh.heap.size Wh W) => exIn0 _ _ W (F.m.up hW) (rg.up hW)
    (refine wpAnyT_one (i := 37) (by as_aux_lemma => kernel_rfl) rfl (fun K hK => ?_); (try simp only [lay, List.getElem_toArray, List.getElem_cons_succ, List.getElem_cons_zero]); go_simp)
    refine (Lin_any _ _ _ false 0 hI).mono ?_
    rintro e Wi ⟨rfl, hbr⟩
    rw [show (false && decide ((0 : Int) = 0)) = false from by decide]
    replace F := F.up hbr
    clear hbr rg hI
    refine hK.out _ _ (fun _ => F.sf) ?_
    clear hK
    (try simp only [lay, List.getElem_toArray, List.getElem_cons_succ, List.getElem_cons_zero])
    (refine wpAnyT_one (i := 38) (by as_aux_lemma => kernel_rfl) rfl (fun K hK => ?_); (try simp only [lay, List.getElem_toArray, List.getElem_cons_succ, List.getElem_cons_zero]); go_simp)
    refine hK.out _ _ (fun _ => F.sf) ?_
    clear hK
    (try simp only [lay, List.getElem_toArray, List.getElem_cons_succ, List.getElem_cons_zero])
    (refine wpAnyT_one (i := 39) (by as_aux_lemma => kernel_rfl) rfl (fun K hK => ?_); (try simp only [lay, List.getElem_toArray, List.getElem_cons_succ, List.getElem_cons_zero]); go_simp)
    refine hK.out _ _ (fun _ => F.sf) ?_
    clear hK
    (try simp only [lay, List.getElem_toArray, List.getElem_cons_succ, List.getElem_cons_zero])
    (refine wpAnyT_one (i := 40) (by as_aux_lemma => kernel_rfl) rfl (fun K hK => ?_); (try simp only [lay, List.getElem_toArray, List.getElem_cons_succ, List.getElem_cons_zero]); go_simp)
    refine hK.out _ _ (fun _ => F.sf) ?_
    clear hK
    refine wpAnyT_done (by as_aux_lemma => kernel_rfl) ?_ _
    (try simp only [lay, List.getElem_toArray, List.getElem_cons_succ, List.getElem_cons_zero])
    go_wp2_with fail
    go_ret
    exact ⟨rfl, F.b⟩
end Go.Proofs.YtdbpkoddfcdhdaaGreat
