/-
  algoristlaw12.LatticeRefuses: the walk.
-/
import Derived.Test.YtdbpkoddfcdhdaaPO
import Derived.Test.YtdbpkoddfcdhdaaPP
set_option linter.unusedSimpArgs false
set_option linter.unusedVariables false

namespace Go.Proofs.Ytdbpkoddfcdhdaa
open Go.RowKit
attribute [local go_sem ↓] Go.wp_at_zero Go.wp_at_succ

def sqB (m : List (List Int)) : Bool := decide (refM m = 0 ∧ 0 < m.length ∧ (m.getD 0 []).length ≠ m.length)
theorem sqM_sqB (m : List (List Int)) : sqM m = if sqB m = true then 1 else refM m := by unfold sqM sqB; simp only [decide_eq_true_eq]

/-- What lasts. -/
structure RfF (w : World) (um : Value) (L : List Nat) (uv : Value) (k : Nat) (W : World) : Prop where
  b : Below w.heap.size w W
  m : Mx W um (zMat L)
  v : Rw W uv (zRow k)
theorem RfF.up {w : World} {um : Value} {L : List Nat} {uv : Value} {k : Nat} {W W' : World} (x : RfF w um L uv k W) (hb : Below W.heap.size W W') : RfF w um L uv k W' :=
  ⟨Bl.up x.b hb, x.m.up hb, x.v.up hb⟩

/-- .. behind hermite and kernel. -/
structure RfG (w : World) (um : Value) (L : List Nat) (uv : Value) (k : Nat) (B : Nat) (ah : Option Addr) (ch : Nat) (ak : Option Addr) (nk ck : Nat) (z : Int) (W : World) : Prop where
  F : RfF w um L uv k W
  h0 : W.cell? ⟨B, 0, none⟩ = some (.slice ah 0 ch)
  h1 : W.cell? ⟨B, 1, none⟩ = some (.int .i64 z)
  k0 : W.cell? ⟨B + 1, 0, none⟩ = some (.slice ak nk ck)
  k1 : W.cell? ⟨B + 1, 1, none⟩ = some (.int .i64 z)
theorem RfG.up {w : World} {um : Value} {L : List Nat} {uv : Value} {k : Nat} {B : Nat} {ah : Option Addr} {ch : Nat} {ak : Option Addr} {nk ck : Nat} {z : Int} {W W' : World} (x : RfG w um L uv k B ah ch ak nk ck z W) (hb : Below W.heap.size W W') : RfG w um L uv k B ah ch ak nk ck z W' :=
  ⟨x.F.up hb, keepc hb x.h0, keepc hb x.h1, keepc hb x.k0, keepc hb x.k1⟩

theorem zMat_snoc (f : Nat → Nat) (i : Nat) : zMat ((List.range (i + 1)).map f) = zMat ((List.range i).map f) ++ [zRow (f i)] := by
  simp [zMat, List.range_succ]

theorem rw_zeros (w : World) (n : Nat) : Rw (w.alloc (.cells (madeCells #[.bool false, .slice none 0 0] (n * 2)) 40)) (.slice (some ⟨w.heap.size, 0, none⟩) n n) (zRow n) := by
  have := (Ow.zeros w n).row (cap := n) (by simp)
  simpa [zRow] using this

def Rtrue (w : World) (e : Ending) (w' : World) : Prop := e = .returned (.bool true) ∧ Below w.heap.size w w'

set_option maxRecDepth 100000 in
set_option maxHeartbeats 8000000 in
theorem refuses_any (a : Option Addr) (n cap : Nat) (f : Nat → Nat) (k : Nat) (w : World) (hc : Cl w a n (fun i => .int .u8 (f i : Int))) (hf : ∀ i, i < n → f i ≤ 255) (hk : k ≤ 255) (hn : n ≤ 9223372036854775807) :
    Calls Try.prog 6 #[.slice a n cap, .int .u8 (k : Int)] w (Rtrue w) := by
  have HF := Lib.hid hf
  have HC := Lib.hid hc
  clear hf hc
  have ha : (-128 : Int) ≤ k := by omega
  have hkb : (k : Int) ≤ 255 := by omega
  go_enter Try.func6, Try.ntmps6
  go_wp2_with fail
  refine (examples_any _).mono ?_
  rintro e w1 ⟨rfl, hb1⟩
  go_wp2_with fail
  go_loopw [6, 7] (fun s6 s wq => ∃ (i : Nat) (u : Value) (L : List Nat), i ≤ n ∧ i ≤ 20 ∧ s = .int .i64 i ∧ s6 = u ∧ L = (List.range i).map (fun j => f j % 20) ∧ Am2 wq w.heap.size u (zMat L) ∧ Below w.heap.size w wq)
    (fun _ s _ => 20 - (intOf s).toNat)
  case atStart => exact ⟨0, _, [], Nat.zero_le _, Nat.zero_le _, rfl, rfl, rfl, Am2.lit0 _ hb1.size, Bl.alloc hb1 _⟩
  case round =>
    obtain ⟨i, u, L, hi, hi20, rfl, rfl, hL, hAm, hbl⟩ := hrel
    have HL := Lib.hid hL
    clear hL
    by_cases hlt : i < n ∧ i < 20
    · obtain ⟨hlt, h20⟩ := hlt
      obtain ⟨ba, offa, rfl, hba, hcell⟩ := HC.out.at hlt
      have c0 := keepc hbl (hcell i hlt)
      have hx := HF.out i hlt
      have hsn := zMat_snoc (fun j => f j % 20) i
      have HSN := Lib.hid hsn
      clear hsn hcell
      have hxe : ((f i : Int) % 20) = ((f i % 20 : Nat) : Int) := by omega
      have HXE := Lib.hid hxe
      have hmk := mk_row ((f i : Int) % 20) (f i % 20) hxe (by omega)
      have i0 : (0 : Int) ≤ (i : Int) := by omega
      have i1 : (i : Int) < (n : Int) := by omega
      have i2 : (i : Int) < 20 := by omega
      have x0 : (0 : Int) ≤ (f i : Int) := by omega
      have x1 : (f i : Int) ≤ 255 := by omega
      clear hxe
      have hZ := rw_zeros wr (f i % 20)
      have hB : ((wr.alloc (.cells (madeCells #[.bool false, .slice none 0 0] (f i % 20 * 2)) 40)).alloc (.cells #[.slice (some ⟨wr.heap.size, 0, none⟩) (f i % 20) (f i % 20)] 36)).heap[wr.heap.size + 1]? = some (.cells #[.slice (some ⟨wr.heap.size, 0, none⟩) (f i % 20) (f i % 20)] 36 (0, 0)) := by
        have h := heap_alloc_new (wr.alloc (.cells (madeCells #[.bool false, .slice none 0 0] (f i % 20 * 2)) 40)) (.cells #[.slice (some ⟨wr.heap.size, 0, none⟩) (f i % 20) (f i % 20)] 36)
        rw [World.size_alloc] at h
        exact h
      have HB := Lib.hid hB
      clear hB
      have hsz := hbl.size
      have hLl : (zMat L).length ≤ 1099511627776 := by rw [HL.out]; simp [zMat]; omega
      go_wp2_with (at_builtin; go_must (refine wpl_apR rfl (.tmp 40) (.tmp 48) _ rfl Try.underlying29 w.heap.size _ (zMat L) rfl ((hAm.alloc _).alloc _) (by simp; omega) (wr.heap.size + 1) _ _ _ _ _ _ (zRow (f i % 20)) (zRow_len _) rfl HB.out (hZ.up (below_new _ _)) hLl ?_); intro g cap' w4 hAm4 hb4)
      go_roundw
      case rel => exact ⟨i + 1, _, (List.range (i + 1)).map (fun j => f j % 20), by omega, by omega, by go_num, rfl, rfl, by rw [HSN.out, ← HL.out]; exact hAm4, (Bl.alloc (Bl.alloc hbl _) _).trans hb4⟩
      case measure => simp [intOf]; omega
    · have hLl : L.length ≤ 1099511627776 := by rw [HL.out]; simp; omega
      have hM0 : Mx wr u6 (zMat L) := hAm.1.mx (Below.refl _ _)
      obtain ⟨am, cm, rfl, hcm, hMi⟩ := id hM0
      have hke : ((k : Int) % 20) = ((k % 20 : Nat) : Int) := by omega
      have hmk := mk_row ((k : Int) % 20) (k % 20) hke (by omega)
      have k0 : (0 : Int) ≤ (k : Int) := by omega
      have F : RfF w (.slice am (zMat L).length cm) L (.slice (some ⟨wr.heap.size, 0, none⟩) (k % 20) (k % 20)) (k % 20) (wr.alloc (.cells (madeCells #[.bool false, .slice none 0 0] (k % 20 * 2)) 40)) :=
        ⟨Bl.alloc hbl _, hM0.up (below_new _ _), rw_zeros wr (k % 20)⟩
      obtain ⟨W1, hW1⟩ : ∃ W1, W1 = wr.alloc (.cells (madeCells #[.bool false, .slice none 0 0] (k % 20 * 2)) 40) := ⟨_, rfl⟩
      rw [← hW1] at F
      have HW1 := Lib.hid hW1
      clear hW1
      have hLm : (zMat L).length ≤ 1099511627776 := by simpa [zMat] using hLl
      have CF := Lib.hid fun W (h : RfF w (.slice am (zMat L).length cm) L (.slice (some ⟨wr.heap.size, 0, none⟩) (k % 20) (k % 20)) (k % 20) W) => rrefused_any _ _ W h.m hLm
      have CFB := Lib.hid fun W (h : RfF w (.slice am (zMat L).length cm) L (.slice (some ⟨wr.heap.size, 0, none⟩) (k % 20) (k % 20)) (k % 20) W) => rrefusedBy_any _ _ _ _ W h.m h.v hLm
      have CR := Lib.hid fun W (h : RfF w (.slice am (zMat L).length cm) L (.slice (some ⟨wr.heap.size, 0, none⟩) (k % 20) (k % 20)) (k % 20) W) => zRank _ L W h.m hLl
      have CS := Lib.hid fun W (h : RfF w (.slice am (zMat L).length cm) L (.slice (some ⟨wr.heap.size, 0, none⟩) (k % 20) (k % 20)) (k % 20) W) => zSmith _ L W h.m hLl
      have CI := Lib.hid fun W (h : RfF w (.slice am (zMat L).length cm) L (.slice (some ⟨wr.heap.size, 0, none⟩) (k % 20) (k % 20)) (k % 20) W) => zIn _ _ L _ W h.m h.v hLl
      have CO := Lib.hid fun W (h : RfF w (.slice am (zMat L).length cm) L (.slice (some ⟨wr.heap.size, 0, none⟩) (k % 20) (k % 20)) (k % 20) W) => zSolve _ _ L _ W h.m h.v hLl
      have CD := Lib.hid fun W (h : RfF w (.slice am (zMat L).length cm) L (.slice (some ⟨wr.heap.size, 0, none⟩) (k % 20) (k % 20)) (k % 20) W) => zDet _ L W h.m hLl
      have CX := Lib.hid fun W (h : RfF w (.slice am (zMat L).length cm) L (.slice (some ⟨wr.heap.size, 0, none⟩) (k % 20) (k % 20)) (k % 20) W) => zIndex _ L W h.m hLl
      have CH := Lib.hid fun W (h : RfF w (.slice am (zMat L).length cm) L (.slice (some ⟨wr.heap.size, 0, none⟩) (k % 20) (k % 20)) (k % 20) W) => Lhermite_any _ W (refM (zMat L)) (fun m => m = []) (fun m hm i hi => by subst hm; exact absurd hi (Nat.not_lt_zero i)) (fun W' hW => zHermite _ L W' (h.m.up hW) hLl)
      have CK := Lib.hid fun W (h : RfF w (.slice am (zMat L).length cm) L (.slice (some ⟨wr.heap.size, 0, none⟩) (k % 20) (k % 20)) (k % 20) W) => Lkernel_any _ W (refM (zMat L)) (fun m => (refM (zMat L) ≠ 0 → m = []) ∧ ∀ i, i < m.length → 0 < (m.getD i []).length) (fun m hm => hm.2) (fun W' hW => zKernel _ L W' (h.m.up hW) hLl)
      clear hM0 hAm hb1 HL HF HC hke ha hbl hLm
      by_cases h20 : i < n
      · have hni : (i : Int) < (n : Int) := by omega
        have h20' : ¬ (i : Int) < 20 := by omega
        have i0 : (0 : Int) ≤ (i : Int) := by omega
        clear hlt h20 hi20 hi

        go_wp2_with fail
        rw [← HW1.out]
        clear HW1
        refine (CF.out _ F).mono ?_
        rintro e W2 ⟨rfl, hb⟩
        replace F := F.up hb
        clear hb
        go_wp2_with fail
        refine (CFB.out _ F).mono ?_
        rintro e W3 ⟨rfl, hb⟩
        replace F := F.up hb
        clear hb
        go_wp2_with fail
        refine (CR.out _ F).mono ?_
        rintro e W4 ⟨x4, rfl, hb⟩
        replace F := F.up hb
        clear hb
        go_wp2_with fail
        refine (CH.out _ F).mono ?_
        rintro e W5 ⟨vh, mh, rfl, hmh, hh, hb⟩
        subst hmh
        obtain ⟨ah, ch, rfl, -, -⟩ := hh
        replace F := F.up hb
        clear hb
        go_wp2_with fail
        refine (CK.out _ F).mono ?_
        rintro e W6 ⟨vk, mk, rfl, ⟨hmk, -⟩, hh, hb⟩
        obtain ⟨ak, ck, rfl, -, -⟩ := hh
        replace F := F.up hb
        clear hb
        replace hmk := Lib.hid hmk
        go_upto_region 13 with fail
        obtain ⟨W7, hW7⟩ : ∃ W7, W7 = (W6.alloc (.cells #[.slice ah 0 ch, .int .i64 (refM (zMat L))] 33)).alloc (.cells #[.slice ak mk.length ck, .int .i64 (refM (zMat L))] 33) := ⟨_, rfl⟩

        rw [← hW7]
        have h67 : Below W6.heap.size W6 W7 := by rw [hW7]; exact Bl.alloc (below_new _ _) _
        have G : RfG w (.slice am (zMat L).length cm) L (.slice (some ⟨wr.heap.size, 0, none⟩) (k % 20) (k % 20)) (k % 20) W6.heap.size ah ch ak mk.length ck (refM (zMat L)) W7 := ⟨F.up h67,
          by rw [hW7]; exact cellN (by rw [World.cell?_alloc_at _ _ _ _ rfl]; rfl) _, by rw [hW7]; exact cellN (by rw [World.cell?_alloc_at _ _ _ _ rfl]; rfl) _,
          by rw [hW7, World.cell?_alloc_at _ _ _ _ (by simp)]; rfl, by rw [hW7, World.cell?_alloc_at _ _ _ _ (by simp)]; rfl⟩
        clear F hW7 h67
        generalize W6.heap.size = Bh at *
        go_wp2_with fail
        refine (CS.out _ G.F).mono ?_
        rintro e W8 ⟨a8, cs, rfl, hb⟩
        replace G := G.up hb
        clear hb
        go_wp2_with fail
        refine (CI.out _ G.F).mono ?_
        rintro e W9 ⟨bi, rfl, hbi, hb⟩
        replace G := G.up hb
        clear hb
        replace hbi := Lib.hid hbi
        go_wp2_with fail
        refine (CO.out _ G.F).mono ?_
        rintro e Wa ⟨ao, no, co, rfl, ho, hb⟩
        replace G := G.up hb
        clear hb
        replace ho := Lib.hid ho
        go_upto_region 17 with fail
        go_cut [101] (fun s101 wd => s101 = .bool (sqB (zMat L)) ∧ RfG w (.slice am (zMat L).length cm) L (.slice (some ⟨wr.heap.size, 0, none⟩) (k % 20) (k % 20)) (k % 20) Bh ah ch ak mk.length ck (refM (zMat L)) wd)
        case first =>
          by_cases hz : refM (zMat L) = 0
          · have hz' : (refM (zMat L) == 0) = true := by simpa using hz
            by_cases hm : 0 < (zMat L).length
            · have hm' : (0 : Int) < ((zMat L).length : Int) := by omega
              obtain ⟨_, _, e0, -, hMi⟩ := G.F.m
              injection e0 with e1 e2 e3
              subst e1
              clear e2 e3
              obtain ⟨xb, xo, rfl, hxb, hxc⟩ := hMi.at hm
              obtain ⟨c, k1, c0', -⟩ := hxc 0 hm
              have c0 : Wa.cell? ⟨xb, xo, none⟩ = some (.slice c ((zMat L).getD 0 []).length k1) := c0'
              clear hxc c0' hMi
              by_cases hl : ((zMat L).getD 0 []).length = (zMat L).length
              · have hb : ((((zMat L).getD 0 []).length : Int) != ((zMat L).length : Int)) = false := by rw [hl]; simp
                have hq : sqB (zMat L) = false := by unfold sqB; rw [decide_eq_false_iff_not]; exact fun h => h.2.2 hl
                have HQ := Lib.hid hq
                generalize ((zMat L).getD 0 []).length = n0 at c0 hb
                clear hz hq hl hm
                go_wp2_with fail
                go_meet
                exact ⟨by rw [HQ.out], G⟩
              · have hb : ((((zMat L).getD 0 []).length : Int) != ((zMat L).length : Int)) = true := by rw [bne_iff_ne]; omega
                have hq : sqB (zMat L) = true := by unfold sqB; rw [decide_eq_true_eq]; exact ⟨hz, hm, hl⟩
                have HQ := Lib.hid hq
                generalize ((zMat L).getD 0 []).length = n0 at c0 hb
                clear hz hq hl hm
                go_wp2_with fail
                go_meet
                exact ⟨by rw [HQ.out], G⟩
            · have hm' : ¬ (0 : Int) < ((zMat L).length : Int) := by omega
              have hq : sqB (zMat L) = false := by unfold sqB; rw [decide_eq_false_iff_not]; exact fun h => hm h.2.1
              have HQ := Lib.hid hq
              clear hz hq hm
              go_wp2_with fail
              go_meet
              exact ⟨by rw [HQ.out], G⟩
          · have hz' : (refM (zMat L) == 0) = false := by simpa using hz
            have hq : sqB (zMat L) = false := by unfold sqB; rw [decide_eq_false_iff_not]; exact fun h => hz h.1
            have HQ := Lib.hid hq
            clear hz hq
            go_wp2_with fail
            go_meet
            exact ⟨by rw [HQ.out], G⟩
        case rest =>
        clear G
        obtain ⟨rfl, G⟩ := hcut
        go_upto_if 101 with (fail)
        go_cut [21] (fun s21 wd => s21 = .int .i64 (sqM (zMat L)) ∧ RfG w (.slice am (zMat L).length cm) L (.slice (some ⟨wr.heap.size, 0, none⟩) (k % 20) (k % 20)) (k % 20) Bh ah ch ak mk.length ck (refM (zMat L)) wd)
        case first =>
          have hs := sqM_sqB (zMat L)
          have HS := Lib.hid hs
          clear hs
          cases hq : sqB (zMat L) with
          | true =>
            have HQ := Lib.hid hq
            clear hq
            go_wp2_with fail
            go_meet
            exact ⟨by rw [HS.out, HQ.out]; rfl, G⟩
          | false =>
            have HQ := Lib.hid hq
            clear hq
            go_wp2_with fail
            go_meet
            exact ⟨by rw [HS.out, HQ.out]; rfl, G⟩
        case rest =>
          clear G
          obtain ⟨rfl, G⟩ := hcut
          go_wp2_with fail
          refine (CD.out _ G.F).mono ?_
          rintro e Wb ⟨vd, zd, rfl, hvd, -, hb⟩
          obtain ⟨sd, ad, nd, cd, rfl⟩ := hvd.shape
          replace G := (G.up hb).up (below_new _ (.cells #[.bool sd, .slice ad nd cd] 40))
          clear hb hvd
          go_wp2_with fail
          refine (CX.out _ G.F).mono ?_
          rintro e Wc ⟨vd, zd, rfl, hvd, hb⟩
          obtain ⟨sx, ax, nx, cx, rfl⟩ := hvd.shape
          replace G := (G.up hb).up (below_new _ (.cells #[.bool sx, .slice ax nx cx] 40))
          clear hb hvd
          obtain ⟨F, h0, h1, k0', k1'⟩ := G
          go_upto_region 23 with fail
          by_cases hz : refM (zMat L) = 0
          · have hz' : (refM (zMat L) == 0) = true := by simpa using hz
            by_cases hy : refBy (zMat L) (zRow (k % 20)) = 0
            · have hy' : (refBy (zMat L) (zRow (k % 20)) == 0) = true := by simpa using hy
              clear hz hy
              go_wp2_with fail
              go_ret
              exact ⟨rfl, F.b⟩
            · have hy' : (refBy (zMat L) (zRow (k % 20)) == 0) = false := by simpa using hy
              have hb0 := hbi.out hy
              obtain ⟨-, hn0, -⟩ := ho.out hy
              subst hb0 hn0
              clear hz hy
              go_wp2_with fail
              go_ret
              exact ⟨rfl, F.b⟩
          · have hz' : (refM (zMat L) == 0) = false := by simpa using hz
            have hm0 := hmk.out hz
            subst hm0
            by_cases hy : refBy (zMat L) (zRow (k % 20)) = 0
            · have hy' : (refBy (zMat L) (zRow (k % 20)) == 0) = true := by simpa using hy
              clear hz hy
              go_wp2_with fail
              go_ret
              exact ⟨rfl, F.b⟩
            · have hy' : (refBy (zMat L) (zRow (k % 20)) == 0) = false := by simpa using hy
              have hb0 := hbi.out hy
              obtain ⟨-, hn0, -⟩ := ho.out hy
              subst hb0 hn0
              clear hz hy
              go_wp2_with fail
              go_ret
              exact ⟨rfl, F.b⟩
      · have hni : ¬ (i : Int) < (n : Int) := by omega
        clear hlt h20 hi20 hi

        go_wp2_with fail
        rw [← HW1.out]
        clear HW1
        refine (CF.out _ F).mono ?_
        rintro e W2 ⟨rfl, hb⟩
        replace F := F.up hb
        clear hb
        go_wp2_with fail
        refine (CFB.out _ F).mono ?_
        rintro e W3 ⟨rfl, hb⟩
        replace F := F.up hb
        clear hb
        go_wp2_with fail
        refine (CR.out _ F).mono ?_
        rintro e W4 ⟨x4, rfl, hb⟩
        replace F := F.up hb
        clear hb
        go_wp2_with fail
        refine (CH.out _ F).mono ?_
        rintro e W5 ⟨vh, mh, rfl, hmh, hh, hb⟩
        subst hmh
        obtain ⟨ah, ch, rfl, -, -⟩ := hh
        replace F := F.up hb
        clear hb
        go_wp2_with fail
        refine (CK.out _ F).mono ?_
        rintro e W6 ⟨vk, mk, rfl, ⟨hmk, -⟩, hh, hb⟩
        obtain ⟨ak, ck, rfl, -, -⟩ := hh
        replace F := F.up hb
        clear hb
        replace hmk := Lib.hid hmk
        go_upto_region 13 with fail
        obtain ⟨W7, hW7⟩ : ∃ W7, W7 = (W6.alloc (.cells #[.slice ah 0 ch, .int .i64 (refM (zMat L))] 33)).alloc (.cells #[.slice ak mk.length ck, .int .i64 (refM (zMat L))] 33) := ⟨_, rfl⟩

        rw [← hW7]
        have h67 : Below W6.heap.size W6 W7 := by rw [hW7]; exact Bl.alloc (below_new _ _) _
        have G : RfG w (.slice am (zMat L).length cm) L (.slice (some ⟨wr.heap.size, 0, none⟩) (k % 20) (k % 20)) (k % 20) W6.heap.size ah ch ak mk.length ck (refM (zMat L)) W7 := ⟨F.up h67,
          by rw [hW7]; exact cellN (by rw [World.cell?_alloc_at _ _ _ _ rfl]; rfl) _, by rw [hW7]; exact cellN (by rw [World.cell?_alloc_at _ _ _ _ rfl]; rfl) _,
          by rw [hW7, World.cell?_alloc_at _ _ _ _ (by simp)]; rfl, by rw [hW7, World.cell?_alloc_at _ _ _ _ (by simp)]; rfl⟩
        clear F hW7 h67
        generalize W6.heap.size = Bh at *
        go_wp2_with fail
        refine (CS.out _ G.F).mono ?_
        rintro e W8 ⟨a8, cs, rfl, hb⟩
        replace G := G.up hb
        clear hb
        go_wp2_with fail
        refine (CI.out _ G.F).mono ?_
        rintro e W9 ⟨bi, rfl, hbi, hb⟩
        replace G := G.up hb
        clear hb
        replace hbi := Lib.hid hbi
        go_wp2_with fail
        refine (CO.out _ G.F).mono ?_
        rintro e Wa ⟨ao, no, co, rfl, ho, hb⟩
        replace G := G.up hb
        clear hb
        replace ho := Lib.hid ho
        go_upto_region 17 with fail
        go_cut [101] (fun s101 wd => s101 = .bool (sqB (zMat L)) ∧ RfG w (.slice am (zMat L).length cm) L (.slice (some ⟨wr.heap.size, 0, none⟩) (k % 20) (k % 20)) (k % 20) Bh ah ch ak mk.length ck (refM (zMat L)) wd)
        case first =>
          by_cases hz : refM (zMat L) = 0
          · have hz' : (refM (zMat L) == 0) = true := by simpa using hz
            by_cases hm : 0 < (zMat L).length
            · have hm' : (0 : Int) < ((zMat L).length : Int) := by omega
              obtain ⟨_, _, e0, -, hMi⟩ := G.F.m
              injection e0 with e1 e2 e3
              subst e1
              clear e2 e3
              obtain ⟨xb, xo, rfl, hxb, hxc⟩ := hMi.at hm
              obtain ⟨c, k1, c0', -⟩ := hxc 0 hm
              have c0 : Wa.cell? ⟨xb, xo, none⟩ = some (.slice c ((zMat L).getD 0 []).length k1) := c0'
              clear hxc c0' hMi
              by_cases hl : ((zMat L).getD 0 []).length = (zMat L).length
              · have hb : ((((zMat L).getD 0 []).length : Int) != ((zMat L).length : Int)) = false := by rw [hl]; simp
                have hq : sqB (zMat L) = false := by unfold sqB; rw [decide_eq_false_iff_not]; exact fun h => h.2.2 hl
                have HQ := Lib.hid hq
                generalize ((zMat L).getD 0 []).length = n0 at c0 hb
                clear hz hq hl hm
                go_wp2_with fail
                go_meet
                exact ⟨by rw [HQ.out], G⟩
              · have hb : ((((zMat L).getD 0 []).length : Int) != ((zMat L).length : Int)) = true := by rw [bne_iff_ne]; omega
                have hq : sqB (zMat L) = true := by unfold sqB; rw [decide_eq_true_eq]; exact ⟨hz, hm, hl⟩
                have HQ := Lib.hid hq
                generalize ((zMat L).getD 0 []).length = n0 at c0 hb
                clear hz hq hl hm
                go_wp2_with fail
                go_meet
                exact ⟨by rw [HQ.out], G⟩
            · have hm' : ¬ (0 : Int) < ((zMat L).length : Int) := by omega
              have hq : sqB (zMat L) = false := by unfold sqB; rw [decide_eq_false_iff_not]; exact fun h => hm h.2.1
              have HQ := Lib.hid hq
              clear hz hq hm
              go_wp2_with fail
              go_meet
              exact ⟨by rw [HQ.out], G⟩
          · have hz' : (refM (zMat L) == 0) = false := by simpa using hz
            have hq : sqB (zMat L) = false := by unfold sqB; rw [decide_eq_false_iff_not]; exact fun h => hz h.1
            have HQ := Lib.hid hq
            clear hz hq
            go_wp2_with fail
            go_meet
            exact ⟨by rw [HQ.out], G⟩
        case rest =>
        clear G
        obtain ⟨rfl, G⟩ := hcut
        go_upto_if 101 with (fail)
        go_cut [21] (fun s21 wd => s21 = .int .i64 (sqM (zMat L)) ∧ RfG w (.slice am (zMat L).length cm) L (.slice (some ⟨wr.heap.size, 0, none⟩) (k % 20) (k % 20)) (k % 20) Bh ah ch ak mk.length ck (refM (zMat L)) wd)
        case first =>
          have hs := sqM_sqB (zMat L)
          have HS := Lib.hid hs
          clear hs
          cases hq : sqB (zMat L) with
          | true =>
            have HQ := Lib.hid hq
            clear hq
            go_wp2_with fail
            go_meet
            exact ⟨by rw [HS.out, HQ.out]; rfl, G⟩
          | false =>
            have HQ := Lib.hid hq
            clear hq
            go_wp2_with fail
            go_meet
            exact ⟨by rw [HS.out, HQ.out]; rfl, G⟩
        case rest =>
          clear G
          obtain ⟨rfl, G⟩ := hcut
          go_wp2_with fail
          refine (CD.out _ G.F).mono ?_
          rintro e Wb ⟨vd, zd, rfl, hvd, -, hb⟩
          obtain ⟨sd, ad, nd, cd, rfl⟩ := hvd.shape
          replace G := (G.up hb).up (below_new _ (.cells #[.bool sd, .slice ad nd cd] 40))
          clear hb hvd
          go_wp2_with fail
          refine (CX.out _ G.F).mono ?_
          rintro e Wc ⟨vd, zd, rfl, hvd, hb⟩
          obtain ⟨sx, ax, nx, cx, rfl⟩ := hvd.shape
          replace G := (G.up hb).up (below_new _ (.cells #[.bool sx, .slice ax nx cx] 40))
          clear hb hvd
          obtain ⟨F, h0, h1, k0', k1'⟩ := G
          go_upto_region 23 with fail
          by_cases hz : refM (zMat L) = 0
          · have hz' : (refM (zMat L) == 0) = true := by simpa using hz
            by_cases hy : refBy (zMat L) (zRow (k % 20)) = 0
            · have hy' : (refBy (zMat L) (zRow (k % 20)) == 0) = true := by simpa using hy
              clear hz hy
              go_wp2_with fail
              go_ret
              exact ⟨rfl, F.b⟩
            · have hy' : (refBy (zMat L) (zRow (k % 20)) == 0) = false := by simpa using hy
              have hb0 := hbi.out hy
              obtain ⟨-, hn0, -⟩ := ho.out hy
              subst hb0 hn0
              clear hz hy
              go_wp2_with fail
              go_ret
              exact ⟨rfl, F.b⟩
          · have hz' : (refM (zMat L) == 0) = false := by simpa using hz
            have hm0 := hmk.out hz
            subst hm0
            by_cases hy : refBy (zMat L) (zRow (k % 20)) = 0
            · have hy' : (refBy (zMat L) (zRow (k % 20)) == 0) = true := by simpa using hy
              clear hz hy
              go_wp2_with fail
              go_ret
              exact ⟨rfl, F.b⟩
            · have hy' : (refBy (zMat L) (zRow (k % 20)) == 0) = false := by simpa using hy
              have hb0 := hbi.out hy
              obtain ⟨-, hn0, -⟩ := ho.out hy
              subst hb0 hn0
              clear hz hy
              go_wp2_with fail
              go_ret
              exact ⟨rfl, F.b⟩
end Go.Proofs.Ytdbpkoddfcdhdaa
