/-
  algoristlaw12.LatticeDeterminants: the walk.
-/
import Derived.IntWalk
import Derived.Test.YtdbpkoddfcdhdaaQD
import Derived.Test.YtdbpkoddfcdhdaaPO
set_option linter.unusedSimpArgs false
set_option linter.unusedVariables false

namespace Go.Proofs.Ytdbpkoddfcdhdaa
open Go.RowKit
attribute [local go_sem ↓] Go.wp_at_zero Go.wp_at_succ

def Mtrue (w : World) (e : Ending) (w' : World) : Prop := e = .returned (.bool true) ∧ Below w.heap.size w w'

set_option maxRecDepth 100000 in
set_option maxHeartbeats 8000000 in
theorem detsL_any (r c r2 c2 : Nat) (a a2 : Option Addr) (cap cap2 : Nat) (V V2 : List Int) (w : World) (hV : Cl w a V.length (fun i => .int .i8 (V.getD i 0))) (hv : ∀ i, -128 ≤ V.getD i 0 ∧ V.getD i 0 ≤ 127) (hN : V.length ≤ 9223372036854775807)
    (hV2 : Cl w a2 V2.length (fun i => .int .i8 (V2.getD i 0))) (hv2 : ∀ i, -128 ≤ V2.getD i 0 ∧ V2.getD i 0 ≤ 127) (hN2 : V2.length ≤ 9223372036854775807)
    (hr : r ≤ 255) (hc : c ≤ 255) (hr2 : r2 ≤ 255) (hc2 : c2 ≤ 255) :
    Calls Try.prog 7 #[.agg #[.int .u8 (r : Int), .int .u8 (c : Int), .slice a V.length cap], .agg #[.int .u8 (r2 : Int), .int .u8 (c2 : Int), .slice a2 V2.length cap2]] w (Mtrue w) := by
  have CA := Lib.hid fun W (hW : Below w.heap.size w W) => (show Calls _ _ #[_, .int .i64 4] _ _ from rsquare_any r c 4 a cap V W (hV.up hW) hv hN hr hc (by decide))
  have CB := Lib.hid fun W (hW : Below w.heap.size w W) => (show Calls _ _ #[_, .int .i64 4] _ _ from rsquare_any r c2 4 a2 cap2 V2 W (hV2.up hW) hv2 hN2 hr hc2 (by decide))
  have hRb : r % (4 + 1) < 4 + 1 := Nat.mod_lt _ (by decide)
  have hba := madeM_bt V (r % (4 + 1)) (r % (4 + 1)) hv
  have hbb := madeM_bt V2 (r % (4 + 1)) (r % (4 + 1)) hv2
  have hsa := madeM_shape V (r % (4 + 1)) (r % (4 + 1))
  have hsb := madeM_shape V2 (r % (4 + 1)) (r % (4 + 1))
  obtain ⟨R, hR⟩ : ∃ R, R = r % (4 + 1) := ⟨_, rfl⟩
  have hR4 : R ≤ 4 := by omega
  rw [← hR] at hba hbb hsa hsb
  simp only [← hR] at CA CB
  generalize hmA : madeM V R R = A at *
  generalize hmB : madeM V2 R R = B at *
  clear hmA hmB hR hRb hv hV hN hv2 hV2 hN2
  go_enter Try.func7, Try.ntmps7
  go_wp2_with fail
  obtain ⟨W2, hW2⟩ : ∃ W2, W2 = (w.alloc (.cells #[.int .u8 (r : Int), .int .u8 (c : Int), .slice a V.length cap] 24)).alloc (.cells #[.int .u8 (r2 : Int), .int .u8 (c2 : Int), .slice a2 V2.length cap2] 24) := ⟨_, rfl⟩
  have b2 : Below w.heap.size w W2 := by rw [hW2]; exact Bl.alloc (below_new _ _) _
  have x0 : W2.cell? ⟨w.heap.size, 0, none⟩ = some (.int .u8 (r : Int)) := by rw [hW2]; exact cellN (by rw [World.cell?_alloc_at _ _ _ _ rfl]; rfl) _
  have x1 : W2.cell? ⟨w.heap.size, 1, none⟩ = some (.int .u8 (c : Int)) := by rw [hW2]; exact cellN (by rw [World.cell?_alloc_at _ _ _ _ rfl]; rfl) _
  have x2 : W2.cell? ⟨w.heap.size, 2, none⟩ = some (.slice a V.length cap) := by rw [hW2]; exact cellN (by rw [World.cell?_alloc_at _ _ _ _ rfl]; rfl) _
  have y0 : W2.cell? ⟨w.heap.size + 1, 0, none⟩ = some (.int .u8 (r2 : Int)) := by rw [hW2, World.cell?_alloc_at _ _ _ _ (by simp)]; rfl
  have y1 : W2.cell? ⟨w.heap.size + 1, 1, none⟩ = some (.int .u8 (c2 : Int)) := by rw [hW2, World.cell?_alloc_at _ _ _ _ (by simp)]; rfl
  have y2 : W2.cell? ⟨w.heap.size + 1, 2, none⟩ = some (.slice a2 V2.length cap2) := by rw [hW2, World.cell?_alloc_at _ _ _ _ (by simp)]; rfl
  have yf : W2.frozen? ⟨w.heap.size + 1, 0, none⟩ = false := by rw [hW2]; exact (World.frozen?_alloc_at _ _ _ _ (by simp))
  rw [← hW2]
  clear hW2
  refine (examples_any _).mono ?_
  rintro e W3 ⟨rfl, hb⟩
  replace b2 := Bl.up b2 hb
  replace x0 := keepc hb x0
  replace x1 := keepc hb x1
  replace x2 := keepc hb x2
  replace yf := keepf hb y0 yf
  replace y0 := keepc hb y0
  replace y1 := keepc hb y1
  replace y2 := keepc hb y2
  clear hb
  go_upto_region 5 with fail
  obtain ⟨W4, hW4⟩ : ∃ W4, W4 = W3.setCell ⟨w.heap.size + 1, 0, none⟩ (.int .u8 (r : Int)) := ⟨_, rfl⟩
  replace b2 : Below w.heap.size w W4 := by rw [hW4]; exact b2.setCell (by show w.heap.size ≤ w.heap.size + 1; omega) _
  replace x0 : W4.cell? ⟨w.heap.size, 0, none⟩ = some (.int .u8 (r : Int)) := by rw [hW4]; exact cellS x0 (by omega)
  replace x1 : W4.cell? ⟨w.heap.size, 1, none⟩ = some (.int .u8 (c : Int)) := by rw [hW4]; exact cellS x1 (by omega)
  replace x2 : W4.cell? ⟨w.heap.size, 2, none⟩ = some (.slice a V.length cap) := by rw [hW4]; exact cellS x2 (by omega)
  replace y0 : W4.cell? ⟨w.heap.size + 1, 0, none⟩ = some (.int .u8 (r : Int)) := by rw [hW4]; exact World.cell?_setCell_same _ _ _ y0
  replace y1 : W4.cell? ⟨w.heap.size + 1, 1, none⟩ = some (.int .u8 (c2 : Int)) := by rw [hW4, World.cell?_setCell_other _ _ _ _ (by simp)]; exact y1
  replace y2 : W4.cell? ⟨w.heap.size + 1, 2, none⟩ = some (.slice a2 V2.length cap2) := by rw [hW4, World.cell?_setCell_other _ _ _ _ (by simp)]; exact y2
  rw [← hW4]
  clear hW4 yf
  go_cut [6, 7] (fun s6 s7 wd => ∃ a6 c6 a7 c7, s6 = .slice a6 R c6 ∧ s7 = .slice a7 R c7 ∧ Mx wd (.slice a6 R c6) A ∧ Mx wd (.slice a7 R c7) B ∧ Below w.heap.size w wd)
  case first =>
    go_region_held3 (fun w' => w'.cell? ⟨w.heap.size, 0, none⟩ = some (.int .u8 (r : Int)) ∧ w'.cell? ⟨w.heap.size, 1, none⟩ = some (.int .u8 (c : Int)) ∧ w'.cell? ⟨w.heap.size, 2, none⟩ = some (.slice a V.length cap) ∧ w'.cell? ⟨w.heap.size + 1, 0, none⟩ = some (.int .u8 (r : Int)) ∧ w'.cell? ⟨w.heap.size + 1, 1, none⟩ = some (.int .u8 (c2 : Int)) ∧ w'.cell? ⟨w.heap.size + 1, 2, none⟩ = some (.slice a2 V2.length cap2))
      ((repeat' (first | with_reducible assumption | (with_reducible refine And.intro ?_ ?_) | (with_reducible refine cellD ?_) | (with_reducible refine cellN ?_ _) | (with_reducible refine cellS ?_ (by omega)) | (with_reducible refine keepc (by with_reducible assumption) ?_))))
      (first
        | (go_at_call_of 31 cap; (refine (CA.out _ (by (repeat' (first | with_reducible assumption | (with_reducible exact Vx.va (by with_reducible assumption)) | (with_reducible refine Va.new0 (by first | rfl | (simp only [World.size_alloc, World.size_drew, World.size_setCell]; done) | (simp only [World.size_alloc, World.size_drew, World.size_setCell]; omega) | omega)) | (with_reducible refine Va.alloc ?_ _) | (with_reducible refine Va.drew ?_) | (with_reducible refine Va.st ?_ ?_ (by omega)) | (with_reducible refine Va.up ?_ (by with_reducible assumption)) | (with_reducible refine Vx.put ?_ ?_) | (with_reducible refine Vx.other ?_ ?_ (by omega)) | (with_reducible refine Vx.new0 (by first | rfl | (simp only [World.size_alloc, World.size_drew, World.size_setCell]; done) | (simp only [World.size_alloc, World.size_drew, World.size_setCell]; omega) | omega)) | (with_reducible refine Vx.new (by first | rfl | (simp only [World.size_alloc, World.size_drew, World.size_setCell]; done) | (simp only [World.size_alloc, World.size_drew, World.size_setCell]; omega) | omega) ?_) | (with_reducible refine Vx.alloc ?_ _) | (with_reducible refine Vx.drew ?_) | (with_reducible refine Vx.up ?_ (by with_reducible assumption)) | (with_reducible refine It.st ?_ ?_) | (with_reducible refine It.alloc ?_ _) | (with_reducible refine It.drew ?_) | (with_reducible refine It.up ?_ (by with_reducible assumption)) | (with_reducible refine Nt.st ?_ ?_) | (with_reducible refine Nt.alloc ?_ _) | (with_reducible refine Nt.drew ?_) | (with_reducible refine Nt.up ?_ (by with_reducible assumption)) | (with_reducible refine Bl.st ?_ (by omega)) | (with_reducible refine Bl.alloc ?_ _) | (with_reducible refine Bl.drew ?_) | (with_reducible refine Bl.up ?_ (by with_reducible assumption)) | (with_reducible exact Below.refl _ _))))).mono ?_); rintro e w5 ⟨v5, rfl, hA, hb5⟩; obtain ⟨a6, c6, rfl, -, -⟩ := id hA; rw [hsa.1] at hA ⊢)
        | (go_at_call_of 31 cap2; (refine (CB.out _ (by (repeat' (first | with_reducible assumption | (with_reducible exact Vx.va (by with_reducible assumption)) | (with_reducible refine Va.new0 (by first | rfl | (simp only [World.size_alloc, World.size_drew, World.size_setCell]; done) | (simp only [World.size_alloc, World.size_drew, World.size_setCell]; omega) | omega)) | (with_reducible refine Va.alloc ?_ _) | (with_reducible refine Va.drew ?_) | (with_reducible refine Va.st ?_ ?_ (by omega)) | (with_reducible refine Va.up ?_ (by with_reducible assumption)) | (with_reducible refine Vx.put ?_ ?_) | (with_reducible refine Vx.other ?_ ?_ (by omega)) | (with_reducible refine Vx.new0 (by first | rfl | (simp only [World.size_alloc, World.size_drew, World.size_setCell]; done) | (simp only [World.size_alloc, World.size_drew, World.size_setCell]; omega) | omega)) | (with_reducible refine Vx.new (by first | rfl | (simp only [World.size_alloc, World.size_drew, World.size_setCell]; done) | (simp only [World.size_alloc, World.size_drew, World.size_setCell]; omega) | omega) ?_) | (with_reducible refine Vx.alloc ?_ _) | (with_reducible refine Vx.drew ?_) | (with_reducible refine Vx.up ?_ (by with_reducible assumption)) | (with_reducible refine It.st ?_ ?_) | (with_reducible refine It.alloc ?_ _) | (with_reducible refine It.drew ?_) | (with_reducible refine It.up ?_ (by with_reducible assumption)) | (with_reducible refine Nt.st ?_ ?_) | (with_reducible refine Nt.alloc ?_ _) | (with_reducible refine Nt.drew ?_) | (with_reducible refine Nt.up ?_ (by with_reducible assumption)) | (with_reducible refine Bl.st ?_ (by omega)) | (with_reducible refine Bl.alloc ?_ _) | (with_reducible refine Bl.drew ?_) | (with_reducible refine Bl.up ?_ (by with_reducible assumption)) | (with_reducible exact Below.refl _ _))))).mono ?_); rintro e w6 ⟨v6, rfl, hB, hb6⟩; obtain ⟨a7, c7, rfl, -, -⟩ := id hB; rw [hsb.1] at hB ⊢))
    all_goals go_wp2_with fail
    all_goals (go_meet; case rel => (refine ⟨_, _, _, _, rfl, rfl, hA.up hb6, hB, ?_⟩ <;> (repeat' (first | with_reducible assumption | (with_reducible exact Vx.va (by with_reducible assumption)) | (with_reducible refine Va.new0 (by first | rfl | (simp only [World.size_alloc, World.size_drew, World.size_setCell]; done) | (simp only [World.size_alloc, World.size_drew, World.size_setCell]; omega) | omega)) | (with_reducible refine Va.alloc ?_ _) | (with_reducible refine Va.drew ?_) | (with_reducible refine Va.st ?_ ?_ (by omega)) | (with_reducible refine Va.up ?_ (by with_reducible assumption)) | (with_reducible refine Vx.put ?_ ?_) | (with_reducible refine Vx.other ?_ ?_ (by omega)) | (with_reducible refine Vx.new0 (by first | rfl | (simp only [World.size_alloc, World.size_drew, World.size_setCell]; done) | (simp only [World.size_alloc, World.size_drew, World.size_setCell]; omega) | omega)) | (with_reducible refine Vx.new (by first | rfl | (simp only [World.size_alloc, World.size_drew, World.size_setCell]; done) | (simp only [World.size_alloc, World.size_drew, World.size_setCell]; omega) | omega) ?_) | (with_reducible refine Vx.alloc ?_ _) | (with_reducible refine Vx.drew ?_) | (with_reducible refine Vx.up ?_ (by with_reducible assumption)) | (with_reducible refine It.st ?_ ?_) | (with_reducible refine It.alloc ?_ _) | (with_reducible refine It.drew ?_) | (with_reducible refine It.up ?_ (by with_reducible assumption)) | (with_reducible refine Nt.st ?_ ?_) | (with_reducible refine Nt.alloc ?_ _) | (with_reducible refine Nt.drew ?_) | (with_reducible refine Nt.up ?_ (by with_reducible assumption)) | (with_reducible refine Bl.st ?_ (by omega)) | (with_reducible refine Bl.alloc ?_ _) | (with_reducible refine Bl.drew ?_) | (with_reducible refine Bl.up ?_ (by with_reducible assumption)) | (with_reducible exact Below.refl _ _)))))
  case rest =>
    clear b2 x0 x1 x2 y0 y1 y2 CA CB
    obtain ⟨a6, c6, a7, c7, rfl, rfl, hA, hB, hbl⟩ := hcut
    rcases Nat.eq_zero_or_pos R with hR0 | hR0
    · subst hR0
      have hA0 : A = [] := List.eq_nil_of_length_eq_zero hsa.1
      subst hA0
      go_wp2_with fail
      refine (Det_nil _ wc hA).mono ?_
      rintro e w5 ⟨v5, rfl, hv5, hb5⟩
      obtain ⟨s1, a1, n1, k1, rfl⟩ := hv5.shape
      replace hbl := Bl.up hbl hb5
      go_upto_region 8 with fail
      obtain ⟨W6, hW6⟩ : ∃ W6, W6 = w5.alloc (.cells #[.bool s1, .slice a1 n1 k1] 40) := ⟨_, rfl⟩
      have vd : Vx W6 w5.heap.size 1 := by rw [hW6]; exact Vx.new rfl hv5
      replace hbl : Below w.heap.size w W6 := by rw [hW6]; exact Bl.alloc hbl _
      rw [← hW6]
      clear hW6 hv5 hb5 hA hB
      generalize w5.heap.size = B1 at *
      obtain ⟨s1, a1, n1, k1, p0, p1, -, -, ip⟩ := vd.cells
      go_region_held3 (fun w' => w'.cell? ⟨B1, 0, none⟩ = some (.bool s1) ∧ w'.cell? ⟨B1, 1, none⟩ = some (.slice a1 n1 k1))
        ((repeat' (first | with_reducible assumption | (with_reducible refine And.intro ?_ ?_) | (with_reducible refine cellD ?_) | (with_reducible refine cellN ?_ _) | (with_reducible refine cellS ?_ (by omega)) | (with_reducible refine keepc (by with_reducible assumption) ?_))))
        (first
          | (go_at_call 13; (refine (rof_any 1 _ (by decide) (by decide)).mono ?_); rintro e w6 ⟨v6, rfl, hv6, hb6⟩; obtain ⟨s2, a2', n2, k2, rfl⟩ := hv6.shape)
          | (go_at_call 32; (refine (rsame_any _ _ 1 1 _ (by (repeat' (first | with_reducible assumption | (with_reducible exact Vx.va (by with_reducible assumption)) | (with_reducible refine Va.new0 (by first | rfl | (simp only [World.size_alloc, World.size_drew, World.size_setCell]; done) | (simp only [World.size_alloc, World.size_drew, World.size_setCell]; omega) | omega)) | (with_reducible refine Va.alloc ?_ _) | (with_reducible refine Va.drew ?_) | (with_reducible refine Va.st ?_ ?_ (by omega)) | (with_reducible refine Va.up ?_ (by with_reducible assumption)) | (with_reducible refine Vx.put ?_ ?_) | (with_reducible refine Vx.other ?_ ?_ (by omega)) | (with_reducible refine Vx.new0 (by first | rfl | (simp only [World.size_alloc, World.size_drew, World.size_setCell]; done) | (simp only [World.size_alloc, World.size_drew, World.size_setCell]; omega) | omega)) | (with_reducible refine Vx.new (by first | rfl | (simp only [World.size_alloc, World.size_drew, World.size_setCell]; done) | (simp only [World.size_alloc, World.size_drew, World.size_setCell]; omega) | omega) ?_) | (with_reducible refine Vx.alloc ?_ _) | (with_reducible refine Vx.drew ?_) | (with_reducible refine Vx.up ?_ (by with_reducible assumption)) | (with_reducible refine It.st ?_ ?_) | (with_reducible refine It.alloc ?_ _) | (with_reducible refine It.drew ?_) | (with_reducible refine It.up ?_ (by with_reducible assumption)) | (with_reducible refine Nt.st ?_ ?_) | (with_reducible refine Nt.alloc ?_ _) | (with_reducible refine Nt.drew ?_) | (with_reducible refine Nt.up ?_ (by with_reducible assumption)) | (with_reducible refine Bl.st ?_ (by omega)) | (with_reducible refine Bl.alloc ?_ _) | (with_reducible refine Bl.drew ?_) | (with_reducible refine Bl.up ?_ (by with_reducible assumption)) | (with_reducible exact Below.refl _ _)))) (by (repeat' (first | with_reducible assumption | (with_reducible exact Vx.va (by with_reducible assumption)) | (with_reducible refine Va.new0 (by first | rfl | (simp only [World.size_alloc, World.size_drew, World.size_setCell]; done) | (simp only [World.size_alloc, World.size_drew, World.size_setCell]; omega) | omega)) | (with_reducible refine Va.alloc ?_ _) | (with_reducible refine Va.drew ?_) | (with_reducible refine Va.st ?_ ?_ (by omega)) | (with_reducible refine Va.up ?_ (by with_reducible assumption)) | (with_reducible refine Vx.put ?_ ?_) | (with_reducible refine Vx.other ?_ ?_ (by omega)) | (with_reducible refine Vx.new0 (by first | rfl | (simp only [World.size_alloc, World.size_drew, World.size_setCell]; done) | (simp only [World.size_alloc, World.size_drew, World.size_setCell]; omega) | omega)) | (with_reducible refine Vx.new (by first | rfl | (simp only [World.size_alloc, World.size_drew, World.size_setCell]; done) | (simp only [World.size_alloc, World.size_drew, World.size_setCell]; omega) | omega) ?_) | (with_reducible refine Vx.alloc ?_ _) | (with_reducible refine Vx.drew ?_) | (with_reducible refine Vx.up ?_ (by with_reducible assumption)) | (with_reducible refine It.st ?_ ?_) | (with_reducible refine It.alloc ?_ _) | (with_reducible refine It.drew ?_) | (with_reducible refine It.up ?_ (by with_reducible assumption)) | (with_reducible refine Nt.st ?_ ?_) | (with_reducible refine Nt.alloc ?_ _) | (with_reducible refine Nt.drew ?_) | (with_reducible refine Nt.up ?_ (by with_reducible assumption)) | (with_reducible refine Bl.st ?_ (by omega)) | (with_reducible refine Bl.alloc ?_ _) | (with_reducible refine Bl.drew ?_) | (with_reducible refine Bl.up ?_ (by with_reducible assumption)) | (with_reducible exact Below.refl _ _)))) (by decide) (by decide)).mono ?_); rintro e w7 ⟨rfl, hb7⟩; rw [show sameB 1 1 = true from rfl]))
      go_wp2_with fail
      go_ret
      exact ⟨rfl, by (repeat' (first | with_reducible assumption | (with_reducible exact Vx.va (by with_reducible assumption)) | (with_reducible refine Va.new0 (by first | rfl | (simp only [World.size_alloc, World.size_drew, World.size_setCell]; done) | (simp only [World.size_alloc, World.size_drew, World.size_setCell]; omega) | omega)) | (with_reducible refine Va.alloc ?_ _) | (with_reducible refine Va.drew ?_) | (with_reducible refine Va.st ?_ ?_ (by omega)) | (with_reducible refine Va.up ?_ (by with_reducible assumption)) | (with_reducible refine Vx.put ?_ ?_) | (with_reducible refine Vx.other ?_ ?_ (by omega)) | (with_reducible refine Vx.new0 (by first | rfl | (simp only [World.size_alloc, World.size_drew, World.size_setCell]; done) | (simp only [World.size_alloc, World.size_drew, World.size_setCell]; omega) | omega)) | (with_reducible refine Vx.new (by first | rfl | (simp only [World.size_alloc, World.size_drew, World.size_setCell]; done) | (simp only [World.size_alloc, World.size_drew, World.size_setCell]; omega) | omega) ?_) | (with_reducible refine Vx.alloc ?_ _) | (with_reducible refine Vx.drew ?_) | (with_reducible refine Vx.up ?_ (by with_reducible assumption)) | (with_reducible refine It.st ?_ ?_) | (with_reducible refine It.alloc ?_ _) | (with_reducible refine It.drew ?_) | (with_reducible refine It.up ?_ (by with_reducible assumption)) | (with_reducible refine Nt.st ?_ ?_) | (with_reducible refine Nt.alloc ?_ _) | (with_reducible refine Nt.drew ?_) | (with_reducible refine Nt.up ?_ (by with_reducible assumption)) | (with_reducible refine Bl.st ?_ (by omega)) | (with_reducible refine Bl.alloc ?_ _) | (with_reducible refine Bl.drew ?_) | (with_reducible refine Bl.up ?_ (by with_reducible assumption)) | (with_reducible exact Below.refl _ _)))⟩
    · have hRne : ((R : Int) == 0) = false := by rw [beq_eq_false_iff_ne]; omega
      have hdE : dB 9 4 ≤ 1000000 := by decide
      have hdE2 : dB 22 4 ≤ 1000000 := by decide
      have CA := Lib.hid fun W (hW : Below wc.heap.size wc W) => ldet_g _ W (hA.up hW) hsa hR0 hR4 hdE hba
      have CB := Lib.hid fun W (hW : Below wc.heap.size wc W) => ldet_g _ W (hB.up hW) hsb hR0 hR4 hdE hbb
      have CP := Lib.hid fun W (hW : Below wc.heap.size wc W) => rprod_g _ _ W (hA.up hW) (hB.up hW) hsa hsb hR0 hR4 (by decide) hba hbb
      have hPb : ∀ i j, Bt (en (prodM A B R) i j) 22 := fun i j => (prodM_bt hba hbb i j).mono (by omega)
      have CD := Lib.hid fun v W (hM : Mx W v (prodM A B R)) => ldet_g v W hM (prodM_shape A B R) hR0 hR4 hdE2 hPb
      have CI := Lib.hid fun W (hW : Below wc.heap.size wc W) => lindex_g _ W (hA.up hW) hsa hR0 hR4 hdE hba
      have CH := Lib.hid fun W (hW : Below wc.heap.size wc W) => Lhermite_any (.slice a6 R c6) W 0 (fun h => ∃ piv, Herm R R A h 6480 piv) (fun h ⟨piv, hh⟩ i hi => by rw [hh.sh.2 i hi]; exact hR0)
        (fun W' hW' => Hermite_g (E := 9) _ W' (hA.up (Bl.up hW hW')) hsa hR0 (by omega) hR0 (by omega) (by decide) (by decide) hba)
      have CS := Lib.hid fun W (hW : Below wc.heap.size wc W) => Smith_g _ W (hA.up hW) hsa hR0 (by omega) hR0 (by omega) hba
      have CR := Lib.hid fun W (hW : Below wc.heap.size wc W) => rdet_any 9 hdE R hR4 _ A W (hA.up hW) hsa hba
      rw [prodM_det] at CD
      have hz1 : sz (det R (en A)) ≤ 1000000 := sz_bits ((det_bt R hba).mono (dB_mono hR4)) (by decide)
      have hz2 : sz (det R (en B)) ≤ 1000000 := sz_bits ((det_bt R hbb).mono (dB_mono hR4)) (by decide)
      have HH0 := Lib.hid fun h piv (hh : Herm R R A h 6480 piv) => hh.det0
      have HH1 := Lib.hid fun h piv (hh : Herm R R A h 6480 piv) => hh.det1
      have HE1 := Lib.hid fun l (he : Elem R R A l 23328000) => he.det1
      generalize det R (en A) = D1 at *
      generalize det R (en B) = D2 at *
      clear hA hB hba hbb hPb
      have hbc := Below.refl wc.heap.size wc
      go_wp2_with fail
      refine (CA.out _ hbc).mono ?_
      rintro e w5 ⟨v, rfl, hv, hb⟩
      replace hbc := Bl.up hbc hb
      clear hb
      obtain ⟨s1, a1, n1, k1, rfl⟩ := hv.shape
      go_upto_region 10 with fail
      obtain ⟨W0, hW0⟩ : ∃ W0, W0 = w5.alloc (.cells #[.bool s1, .slice a1 n1 k1] 40) := ⟨_, rfl⟩
      have vd : Vx W0 w5.heap.size (D1) := by rw [hW0]; exact Vx.new rfl hv
      have hn : Below w5.heap.size w5 W0 := by rw [hW0]; exact below_new _ _
      rw [← hW0]
      clear hW0 hv
      replace hbc := Bl.up hbc hn
      clear hn
      generalize w5.heap.size = B1 at *
      go_wp2_with fail
      refine (CB.out _ hbc).mono ?_
      rintro e w6 ⟨v, rfl, hv, hb⟩
      replace hbc := Bl.up hbc hb
      replace vd := vd.up hb
      clear hb
      obtain ⟨s2, a2', n2, k2, rfl⟩ := hv.shape
      go_upto_region 11 with fail
      obtain ⟨W0, hW0⟩ : ∃ W0, W0 = w6.alloc (.cells #[.bool s2, .slice a2' n2 k2] 40) := ⟨_, rfl⟩
      have vf : Vx W0 w6.heap.size (D2) := by rw [hW0]; exact Vx.new rfl hv
      have hn : Below w6.heap.size w6 W0 := by rw [hW0]; exact below_new _ _
      rw [← hW0]
      clear hW0 hv
      replace hbc := Bl.up hbc hn
      replace vd := vd.up hn
      clear hn
      generalize w6.heap.size = B2 at *
      go_wp2_with fail
      refine (CP.out _ hbc).mono ?_
      rintro e w7 ⟨vp, rfl, hP, hb⟩
      replace hbc := Bl.up hbc hb
      replace vd := vd.up hb
      replace vf := vf.up hb
      clear hb
      go_wp2_with fail
      refine (CD.out _ _ hP).mono ?_
      rintro e w8 ⟨v, rfl, hv, hb⟩
      replace hbc := Bl.up hbc hb
      replace vd := vd.up hb
      replace vf := vf.up hb
      clear hb
      obtain ⟨s3, a3, n3, k3, rfl⟩ := hv.shape
      go_upto_region 12 with fail
      obtain ⟨W0, hW0⟩ : ∃ W0, W0 = w8.alloc (.cells #[.bool s3, .slice a3 n3 k3] 40) := ⟨_, rfl⟩
      have vp : Vx W0 w8.heap.size (D1 * D2) := by rw [hW0]; exact Vx.new rfl hv
      have hn : Below w8.heap.size w8 W0 := by rw [hW0]; exact below_new _ _
      rw [← hW0]
      clear hW0 hv
      replace hbc := Bl.up hbc hn
      replace vd := vd.up hn
      replace vf := vf.up hn
      clear hn
      generalize w8.heap.size = B3 at *
      go_wp2_with fail
      refine (CI.out _ hbc).mono ?_
      rintro e w9 ⟨v, rfl, hv, hb⟩
      replace hbc := Bl.up hbc hb
      replace vd := vd.up hb
      replace vf := vf.up hb
      replace vp := vp.up hb
      clear hb
      obtain ⟨s4, a4, n4, k4, rfl⟩ := hv.shape
      go_upto_region 13 with fail
      obtain ⟨W0, hW0⟩ : ∃ W0, W0 = w9.alloc (.cells #[.bool s4, .slice a4 n4 k4] 40) := ⟨_, rfl⟩
      have vn : Vx W0 w9.heap.size ((D1.natAbs : Int)) := by rw [hW0]; exact Vx.new rfl hv
      have hn : Below w9.heap.size w9 W0 := by rw [hW0]; exact below_new _ _
      rw [← hW0]
      clear hW0 hv
      replace hbc := Bl.up hbc hn
      replace vd := vd.up hn
      replace vf := vf.up hn
      replace vp := vp.up hn
      clear hn
      generalize w9.heap.size = B4 at *
      go_wp2_with fail
      refine (CH.out _ hbc).mono ?_
      rintro e wa ⟨vh, h, rfl, ⟨piv, hh⟩, hhm, hb⟩
      replace hbc := Bl.up hbc hb
      replace vd := vd.up hb
      replace vf := vf.up hb
      replace vp := vp.up hb
      replace vn := vn.up hb
      clear hb
      obtain ⟨ah, ch, rfl, -, -⟩ := id hhm
      go_upto_region 14 with fail
      obtain ⟨W0, hW0⟩ : ∃ W0, W0 = wa.alloc (.cells #[.slice ah h.length ch, .int .i64 0] 33) := ⟨_, rfl⟩
      have hn : Below wa.heap.size wa W0 := by rw [hW0]; exact below_new _ _
      have g0 : W0.cell? ⟨wa.heap.size, 0, none⟩ = some (.slice ah h.length ch) := by rw [hW0, World.cell?_alloc_at _ _ _ _ rfl]; rfl
      have g1 : W0.cell? ⟨wa.heap.size, 1, none⟩ = some (.int .i64 0) := by rw [hW0, World.cell?_alloc_at _ _ _ _ rfl]; rfl
      replace hhm := hhm.up hn
      rw [← hW0]
      clear hW0
      replace hbc := Bl.up hbc hn
      replace vd := vd.up hn
      replace vf := vf.up hn
      replace vp := vp.up hn
      replace vn := vn.up hn
      clear hn
      generalize wa.heap.size = B5 at *
      go_wp2_with fail
      refine (CS.out _ hbc).mono ?_
      rintro e wb ⟨vs, l, rfl, hs, hsR, hb⟩
      replace hbc := Bl.up hbc hb
      replace vd := vd.up hb
      replace vf := vf.up hb
      replace vp := vp.up hb
      replace vn := vn.up hb
      replace hhm := hhm.up hb
      replace g0 := keepc hb g0
      replace g1 := keepc hb g1
      clear hb
      obtain ⟨asl, cs, rfl, -, -⟩ := id hsR
      go_upto_region 15 with fail
      have hln := hs.herm_len hh
      rw [hln] at hsR ⊢
      obtain ⟨s1, a1, n1, k1, p0, p1, -, -, ip⟩ := vd.cells
      obtain ⟨s2, a2', n2, k2, q0, q1, -, -, iq⟩ := vf.cells
      obtain ⟨s3, a3, n3, k3, r0, r1, -, -, ir⟩ := vp.cells
      obtain ⟨s4, a4, n4, k4, t0, t1, -, -, it⟩ := vn.cells
      have hzp : sz (D1 * D2) ≤ 2000000 := Nat.le_trans (sz_mul _ _) (by omega)
      have hzn : sz (D1.natAbs : Int) ≤ 1000000 := by rw [sz_abs]; exact hz1
      have CR2 := Lib.hid fun W (hW : Below wb.heap.size wb W) => CR.out W (Bl.up hbc hW)
      have hcm := cmpI_eq (x := D1 * D2) (y := D1 * D2) rfl
      have hcn := cmpI_eq (x := (D1.natAbs : Int)) (y := (D1.natAbs : Int)) rfl
      have HCM := Lib.hid hcm
      have HCN := Lib.hid hcn
      have hsame : sameB D1 D1 = true := by simp [sameB]
      have HSA := Lib.hid hsame
      clear hcm hcn hsame CR CA CB CP CD CI CH CS
      have HBL := Lib.hid (Bl.up hbl hbc)
      clear hbl hbc
      go_cut [125] (fun s125 wd => s125 = .bool false ∧ Below wb.heap.size wb wd)
      case first =>
        --[
        go_region_held3 (fun w' => w'.cell? ⟨B1, 0, none⟩ = some (.bool s1) ∧ w'.cell? ⟨B1, 1, none⟩ = some (.slice a1 n1 k1) ∧ w'.cell? ⟨B2, 0, none⟩ = some (.bool s2) ∧ w'.cell? ⟨B2, 1, none⟩ = some (.slice a2' n2 k2) ∧ w'.cell? ⟨B3, 0, none⟩ = some (.bool s3) ∧ w'.cell? ⟨B3, 1, none⟩ = some (.slice a3 n3 k3) ∧ w'.cell? ⟨B4, 0, none⟩ = some (.bool s4) ∧ w'.cell? ⟨B4, 1, none⟩ = some (.slice a4 n4 k4) ∧ w'.cell? ⟨B5, 1, none⟩ = some (.int .i64 0))
          ((repeat' (first | with_reducible assumption | (with_reducible refine And.intro ?_ ?_) | (with_reducible refine cellD ?_) | (with_reducible refine cellN ?_ _) | (with_reducible refine cellS ?_ (by omega)) | (with_reducible refine keepc (by with_reducible assumption) ?_))))
          (first
            | (go_at_call 34; (refine (CR2.out _ (by (repeat' (first | with_reducible assumption | (with_reducible exact Vx.va (by with_reducible assumption)) | (with_reducible refine Va.new0 (by first | rfl | (simp only [World.size_alloc, World.size_drew, World.size_setCell]; done) | (simp only [World.size_alloc, World.size_drew, World.size_setCell]; omega) | omega)) | (with_reducible refine Va.alloc ?_ _) | (with_reducible refine Va.drew ?_) | (with_reducible refine Va.st ?_ ?_ (by omega)) | (with_reducible refine Va.up ?_ (by with_reducible assumption)) | (with_reducible refine Vx.put ?_ ?_) | (with_reducible refine Vx.other ?_ ?_ (by omega)) | (with_reducible refine Vx.new0 (by first | rfl | (simp only [World.size_alloc, World.size_drew, World.size_setCell]; done) | (simp only [World.size_alloc, World.size_drew, World.size_setCell]; omega) | omega)) | (with_reducible refine Vx.new (by first | rfl | (simp only [World.size_alloc, World.size_drew, World.size_setCell]; done) | (simp only [World.size_alloc, World.size_drew, World.size_setCell]; omega) | omega) ?_) | (with_reducible refine Vx.alloc ?_ _) | (with_reducible refine Vx.drew ?_) | (with_reducible refine Vx.up ?_ (by with_reducible assumption)) | (with_reducible refine It.st ?_ ?_) | (with_reducible refine It.alloc ?_ _) | (with_reducible refine It.drew ?_) | (with_reducible refine It.up ?_ (by with_reducible assumption)) | (with_reducible refine Nt.st ?_ ?_) | (with_reducible refine Nt.alloc ?_ _) | (with_reducible refine Nt.drew ?_) | (with_reducible refine Nt.up ?_ (by with_reducible assumption)) | (with_reducible refine Bl.st ?_ (by omega)) | (with_reducible refine Bl.alloc ?_ _) | (with_reducible refine Bl.drew ?_) | (with_reducible refine Bl.up ?_ (by with_reducible assumption)) | (with_reducible exact Below.refl _ _))))).mono ?_); rintro e w5 ⟨v5, rfl, hv5, hb5⟩; obtain ⟨s5, a5, n5, k5, rfl⟩ := hv5.shape)
            | (go_at_call 32; (refine (rsame_any _ _ D1 D1 _ (by (repeat' (first | with_reducible assumption | (with_reducible exact Vx.va (by with_reducible assumption)) | (with_reducible refine Va.new0 (by first | rfl | (simp only [World.size_alloc, World.size_drew, World.size_setCell]; done) | (simp only [World.size_alloc, World.size_drew, World.size_setCell]; omega) | omega)) | (with_reducible refine Va.alloc ?_ _) | (with_reducible refine Va.drew ?_) | (with_reducible refine Va.st ?_ ?_ (by omega)) | (with_reducible refine Va.up ?_ (by with_reducible assumption)) | (with_reducible refine Vx.put ?_ ?_) | (with_reducible refine Vx.other ?_ ?_ (by omega)) | (with_reducible refine Vx.new0 (by first | rfl | (simp only [World.size_alloc, World.size_drew, World.size_setCell]; done) | (simp only [World.size_alloc, World.size_drew, World.size_setCell]; omega) | omega)) | (with_reducible refine Vx.new (by first | rfl | (simp only [World.size_alloc, World.size_drew, World.size_setCell]; done) | (simp only [World.size_alloc, World.size_drew, World.size_setCell]; omega) | omega) ?_) | (with_reducible refine Vx.alloc ?_ _) | (with_reducible refine Vx.drew ?_) | (with_reducible refine Vx.up ?_ (by with_reducible assumption)) | (with_reducible refine It.st ?_ ?_) | (with_reducible refine It.alloc ?_ _) | (with_reducible refine It.drew ?_) | (with_reducible refine It.up ?_ (by with_reducible assumption)) | (with_reducible refine Nt.st ?_ ?_) | (with_reducible refine Nt.alloc ?_ _) | (with_reducible refine Nt.drew ?_) | (with_reducible refine Nt.up ?_ (by with_reducible assumption)) | (with_reducible refine Bl.st ?_ (by omega)) | (with_reducible refine Bl.alloc ?_ _) | (with_reducible refine Bl.drew ?_) | (with_reducible refine Bl.up ?_ (by with_reducible assumption)) | (with_reducible exact Below.refl _ _)))) (by (repeat' (first | with_reducible assumption | (with_reducible exact Vx.va (by with_reducible assumption)) | (with_reducible refine Va.new0 (by first | rfl | (simp only [World.size_alloc, World.size_drew, World.size_setCell]; done) | (simp only [World.size_alloc, World.size_drew, World.size_setCell]; omega) | omega)) | (with_reducible refine Va.alloc ?_ _) | (with_reducible refine Va.drew ?_) | (with_reducible refine Va.st ?_ ?_ (by omega)) | (with_reducible refine Va.up ?_ (by with_reducible assumption)) | (with_reducible refine Vx.put ?_ ?_) | (with_reducible refine Vx.other ?_ ?_ (by omega)) | (with_reducible refine Vx.new0 (by first | rfl | (simp only [World.size_alloc, World.size_drew, World.size_setCell]; done) | (simp only [World.size_alloc, World.size_drew, World.size_setCell]; omega) | omega)) | (with_reducible refine Vx.new (by first | rfl | (simp only [World.size_alloc, World.size_drew, World.size_setCell]; done) | (simp only [World.size_alloc, World.size_drew, World.size_setCell]; omega) | omega) ?_) | (with_reducible refine Vx.alloc ?_ _) | (with_reducible refine Vx.drew ?_) | (with_reducible refine Vx.up ?_ (by with_reducible assumption)) | (with_reducible refine It.st ?_ ?_) | (with_reducible refine It.alloc ?_ _) | (with_reducible refine It.drew ?_) | (with_reducible refine It.up ?_ (by with_reducible assumption)) | (with_reducible refine Nt.st ?_ ?_) | (with_reducible refine Nt.alloc ?_ _) | (with_reducible refine Nt.drew ?_) | (with_reducible refine Nt.up ?_ (by with_reducible assumption)) | (with_reducible refine Bl.st ?_ (by omega)) | (with_reducible refine Bl.alloc ?_ _) | (with_reducible refine Bl.drew ?_) | (with_reducible refine Bl.up ?_ (by with_reducible assumption)) | (with_reducible exact Below.refl _ _)))) (by exact Nat.le_trans hz1 (by decide)) (by exact Nat.le_trans hz1 (by decide))).mono ?_); rintro e w6 ⟨rfl, hb6⟩; rw [HSA.out])
            | (go_at_call 36; (refine (mul_any _ _ D1 D2 _ (by (repeat' (first | with_reducible assumption | (with_reducible exact Vx.va (by with_reducible assumption)) | (with_reducible refine Va.new0 (by first | rfl | (simp only [World.size_alloc, World.size_drew, World.size_setCell]; done) | (simp only [World.size_alloc, World.size_drew, World.size_setCell]; omega) | omega)) | (with_reducible refine Va.alloc ?_ _) | (with_reducible refine Va.drew ?_) | (with_reducible refine Va.st ?_ ?_ (by omega)) | (with_reducible refine Va.up ?_ (by with_reducible assumption)) | (with_reducible refine Vx.put ?_ ?_) | (with_reducible refine Vx.other ?_ ?_ (by omega)) | (with_reducible refine Vx.new0 (by first | rfl | (simp only [World.size_alloc, World.size_drew, World.size_setCell]; done) | (simp only [World.size_alloc, World.size_drew, World.size_setCell]; omega) | omega)) | (with_reducible refine Vx.new (by first | rfl | (simp only [World.size_alloc, World.size_drew, World.size_setCell]; done) | (simp only [World.size_alloc, World.size_drew, World.size_setCell]; omega) | omega) ?_) | (with_reducible refine Vx.alloc ?_ _) | (with_reducible refine Vx.drew ?_) | (with_reducible refine Vx.up ?_ (by with_reducible assumption)) | (with_reducible refine It.st ?_ ?_) | (with_reducible refine It.alloc ?_ _) | (with_reducible refine It.drew ?_) | (with_reducible refine It.up ?_ (by with_reducible assumption)) | (with_reducible refine Nt.st ?_ ?_) | (with_reducible refine Nt.alloc ?_ _) | (with_reducible refine Nt.drew ?_) | (with_reducible refine Nt.up ?_ (by with_reducible assumption)) | (with_reducible refine Bl.st ?_ (by omega)) | (with_reducible refine Bl.alloc ?_ _) | (with_reducible refine Bl.drew ?_) | (with_reducible refine Bl.up ?_ (by with_reducible assumption)) | (with_reducible exact Below.refl _ _)))) (by (repeat' (first | with_reducible assumption | (with_reducible exact Vx.va (by with_reducible assumption)) | (with_reducible refine Va.new0 (by first | rfl | (simp only [World.size_alloc, World.size_drew, World.size_setCell]; done) | (simp only [World.size_alloc, World.size_drew, World.size_setCell]; omega) | omega)) | (with_reducible refine Va.alloc ?_ _) | (with_reducible refine Va.drew ?_) | (with_reducible refine Va.st ?_ ?_ (by omega)) | (with_reducible refine Va.up ?_ (by with_reducible assumption)) | (with_reducible refine Vx.put ?_ ?_) | (with_reducible refine Vx.other ?_ ?_ (by omega)) | (with_reducible refine Vx.new0 (by first | rfl | (simp only [World.size_alloc, World.size_drew, World.size_setCell]; done) | (simp only [World.size_alloc, World.size_drew, World.size_setCell]; omega) | omega)) | (with_reducible refine Vx.new (by first | rfl | (simp only [World.size_alloc, World.size_drew, World.size_setCell]; done) | (simp only [World.size_alloc, World.size_drew, World.size_setCell]; omega) | omega) ?_) | (with_reducible refine Vx.alloc ?_ _) | (with_reducible refine Vx.drew ?_) | (with_reducible refine Vx.up ?_ (by with_reducible assumption)) | (with_reducible refine It.st ?_ ?_) | (with_reducible refine It.alloc ?_ _) | (with_reducible refine It.drew ?_) | (with_reducible refine It.up ?_ (by with_reducible assumption)) | (with_reducible refine Nt.st ?_ ?_) | (with_reducible refine Nt.alloc ?_ _) | (with_reducible refine Nt.drew ?_) | (with_reducible refine Nt.up ?_ (by with_reducible assumption)) | (with_reducible refine Bl.st ?_ (by omega)) | (with_reducible refine Bl.alloc ?_ _) | (with_reducible refine Bl.drew ?_) | (with_reducible refine Bl.up ?_ (by with_reducible assumption)) | (with_reducible exact Below.refl _ _)))) (by exact Nat.le_trans hz1 (by decide)) (by exact Nat.le_trans hz2 (by decide))).mono ?_); rintro e w7 ⟨v7, rfl, hv7, hb7⟩; obtain ⟨s7, a8, n7, k7, rfl⟩ := hv7.shape)
            | (go_at_call_of 35 a3; (refine (cmp_any _ _ (D1 * D2) (D1 * D2) _ (by (repeat' (first | with_reducible assumption | (with_reducible exact Vx.va (by with_reducible assumption)) | (with_reducible refine Va.new0 (by first | rfl | (simp only [World.size_alloc, World.size_drew, World.size_setCell]; done) | (simp only [World.size_alloc, World.size_drew, World.size_setCell]; omega) | omega)) | (with_reducible refine Va.alloc ?_ _) | (with_reducible refine Va.drew ?_) | (with_reducible refine Va.st ?_ ?_ (by omega)) | (with_reducible refine Va.up ?_ (by with_reducible assumption)) | (with_reducible refine Vx.put ?_ ?_) | (with_reducible refine Vx.other ?_ ?_ (by omega)) | (with_reducible refine Vx.new0 (by first | rfl | (simp only [World.size_alloc, World.size_drew, World.size_setCell]; done) | (simp only [World.size_alloc, World.size_drew, World.size_setCell]; omega) | omega)) | (with_reducible refine Vx.new (by first | rfl | (simp only [World.size_alloc, World.size_drew, World.size_setCell]; done) | (simp only [World.size_alloc, World.size_drew, World.size_setCell]; omega) | omega) ?_) | (with_reducible refine Vx.alloc ?_ _) | (with_reducible refine Vx.drew ?_) | (with_reducible refine Vx.up ?_ (by with_reducible assumption)) | (with_reducible refine It.st ?_ ?_) | (with_reducible refine It.alloc ?_ _) | (with_reducible refine It.drew ?_) | (with_reducible refine It.up ?_ (by with_reducible assumption)) | (with_reducible refine Nt.st ?_ ?_) | (with_reducible refine Nt.alloc ?_ _) | (with_reducible refine Nt.drew ?_) | (with_reducible refine Nt.up ?_ (by with_reducible assumption)) | (with_reducible refine Bl.st ?_ (by omega)) | (with_reducible refine Bl.alloc ?_ _) | (with_reducible refine Bl.drew ?_) | (with_reducible refine Bl.up ?_ (by with_reducible assumption)) | (with_reducible exact Below.refl _ _)))) (by (repeat' (first | with_reducible assumption | (with_reducible exact Vx.va (by with_reducible assumption)) | (with_reducible refine Va.new0 (by first | rfl | (simp only [World.size_alloc, World.size_drew, World.size_setCell]; done) | (simp only [World.size_alloc, World.size_drew, World.size_setCell]; omega) | omega)) | (with_reducible refine Va.alloc ?_ _) | (with_reducible refine Va.drew ?_) | (with_reducible refine Va.st ?_ ?_ (by omega)) | (with_reducible refine Va.up ?_ (by with_reducible assumption)) | (with_reducible refine Vx.put ?_ ?_) | (with_reducible refine Vx.other ?_ ?_ (by omega)) | (with_reducible refine Vx.new0 (by first | rfl | (simp only [World.size_alloc, World.size_drew, World.size_setCell]; done) | (simp only [World.size_alloc, World.size_drew, World.size_setCell]; omega) | omega)) | (with_reducible refine Vx.new (by first | rfl | (simp only [World.size_alloc, World.size_drew, World.size_setCell]; done) | (simp only [World.size_alloc, World.size_drew, World.size_setCell]; omega) | omega) ?_) | (with_reducible refine Vx.alloc ?_ _) | (with_reducible refine Vx.drew ?_) | (with_reducible refine Vx.up ?_ (by with_reducible assumption)) | (with_reducible refine It.st ?_ ?_) | (with_reducible refine It.alloc ?_ _) | (with_reducible refine It.drew ?_) | (with_reducible refine It.up ?_ (by with_reducible assumption)) | (with_reducible refine Nt.st ?_ ?_) | (with_reducible refine Nt.alloc ?_ _) | (with_reducible refine Nt.drew ?_) | (with_reducible refine Nt.up ?_ (by with_reducible assumption)) | (with_reducible refine Bl.st ?_ (by omega)) | (with_reducible refine Bl.alloc ?_ _) | (with_reducible refine Bl.drew ?_) | (with_reducible refine Bl.up ?_ (by with_reducible assumption)) | (with_reducible exact Below.refl _ _)))) (by exact Nat.le_trans hzp (by decide)) (by exact Nat.le_trans hzp (by decide))).mono ?_); rintro e w8 ⟨rfl, hb8⟩; rw [HCM.out])
            | (go_at_call 37; (refine (abs_any _ D1 _ (by (repeat' (first | with_reducible assumption | (with_reducible exact Vx.va (by with_reducible assumption)) | (with_reducible refine Va.new0 (by first | rfl | (simp only [World.size_alloc, World.size_drew, World.size_setCell]; done) | (simp only [World.size_alloc, World.size_drew, World.size_setCell]; omega) | omega)) | (with_reducible refine Va.alloc ?_ _) | (with_reducible refine Va.drew ?_) | (with_reducible refine Va.st ?_ ?_ (by omega)) | (with_reducible refine Va.up ?_ (by with_reducible assumption)) | (with_reducible refine Vx.put ?_ ?_) | (with_reducible refine Vx.other ?_ ?_ (by omega)) | (with_reducible refine Vx.new0 (by first | rfl | (simp only [World.size_alloc, World.size_drew, World.size_setCell]; done) | (simp only [World.size_alloc, World.size_drew, World.size_setCell]; omega) | omega)) | (with_reducible refine Vx.new (by first | rfl | (simp only [World.size_alloc, World.size_drew, World.size_setCell]; done) | (simp only [World.size_alloc, World.size_drew, World.size_setCell]; omega) | omega) ?_) | (with_reducible refine Vx.alloc ?_ _) | (with_reducible refine Vx.drew ?_) | (with_reducible refine Vx.up ?_ (by with_reducible assumption)) | (with_reducible refine It.st ?_ ?_) | (with_reducible refine It.alloc ?_ _) | (with_reducible refine It.drew ?_) | (with_reducible refine It.up ?_ (by with_reducible assumption)) | (with_reducible refine Nt.st ?_ ?_) | (with_reducible refine Nt.alloc ?_ _) | (with_reducible refine Nt.drew ?_) | (with_reducible refine Nt.up ?_ (by with_reducible assumption)) | (with_reducible refine Bl.st ?_ (by omega)) | (with_reducible refine Bl.alloc ?_ _) | (with_reducible refine Bl.drew ?_) | (with_reducible refine Bl.up ?_ (by with_reducible assumption)) | (with_reducible exact Below.refl _ _)))) (by exact Nat.le_trans hz1 (by decide))).mono ?_); rintro e w9 ⟨v9, rfl, hv9, hb9⟩; obtain ⟨s9, a9, n9, k9, rfl⟩ := hv9.shape)
            | (go_at_call_of 35 a4; (refine (cmp_any _ _ (D1.natAbs : Int) (D1.natAbs : Int) _ (by (repeat' (first | with_reducible assumption | (with_reducible exact Vx.va (by with_reducible assumption)) | (with_reducible refine Va.new0 (by first | rfl | (simp only [World.size_alloc, World.size_drew, World.size_setCell]; done) | (simp only [World.size_alloc, World.size_drew, World.size_setCell]; omega) | omega)) | (with_reducible refine Va.alloc ?_ _) | (with_reducible refine Va.drew ?_) | (with_reducible refine Va.st ?_ ?_ (by omega)) | (with_reducible refine Va.up ?_ (by with_reducible assumption)) | (with_reducible refine Vx.put ?_ ?_) | (with_reducible refine Vx.other ?_ ?_ (by omega)) | (with_reducible refine Vx.new0 (by first | rfl | (simp only [World.size_alloc, World.size_drew, World.size_setCell]; done) | (simp only [World.size_alloc, World.size_drew, World.size_setCell]; omega) | omega)) | (with_reducible refine Vx.new (by first | rfl | (simp only [World.size_alloc, World.size_drew, World.size_setCell]; done) | (simp only [World.size_alloc, World.size_drew, World.size_setCell]; omega) | omega) ?_) | (with_reducible refine Vx.alloc ?_ _) | (with_reducible refine Vx.drew ?_) | (with_reducible refine Vx.up ?_ (by with_reducible assumption)) | (with_reducible refine It.st ?_ ?_) | (with_reducible refine It.alloc ?_ _) | (with_reducible refine It.drew ?_) | (with_reducible refine It.up ?_ (by with_reducible assumption)) | (with_reducible refine Nt.st ?_ ?_) | (with_reducible refine Nt.alloc ?_ _) | (with_reducible refine Nt.drew ?_) | (with_reducible refine Nt.up ?_ (by with_reducible assumption)) | (with_reducible refine Bl.st ?_ (by omega)) | (with_reducible refine Bl.alloc ?_ _) | (with_reducible refine Bl.drew ?_) | (with_reducible refine Bl.up ?_ (by with_reducible assumption)) | (with_reducible exact Below.refl _ _)))) (by (repeat' (first | with_reducible assumption | (with_reducible exact Vx.va (by with_reducible assumption)) | (with_reducible refine Va.new0 (by first | rfl | (simp only [World.size_alloc, World.size_drew, World.size_setCell]; done) | (simp only [World.size_alloc, World.size_drew, World.size_setCell]; omega) | omega)) | (with_reducible refine Va.alloc ?_ _) | (with_reducible refine Va.drew ?_) | (with_reducible refine Va.st ?_ ?_ (by omega)) | (with_reducible refine Va.up ?_ (by with_reducible assumption)) | (with_reducible refine Vx.put ?_ ?_) | (with_reducible refine Vx.other ?_ ?_ (by omega)) | (with_reducible refine Vx.new0 (by first | rfl | (simp only [World.size_alloc, World.size_drew, World.size_setCell]; done) | (simp only [World.size_alloc, World.size_drew, World.size_setCell]; omega) | omega)) | (with_reducible refine Vx.new (by first | rfl | (simp only [World.size_alloc, World.size_drew, World.size_setCell]; done) | (simp only [World.size_alloc, World.size_drew, World.size_setCell]; omega) | omega) ?_) | (with_reducible refine Vx.alloc ?_ _) | (with_reducible refine Vx.drew ?_) | (with_reducible refine Vx.up ?_ (by with_reducible assumption)) | (with_reducible refine It.st ?_ ?_) | (with_reducible refine It.alloc ?_ _) | (with_reducible refine It.drew ?_) | (with_reducible refine It.up ?_ (by with_reducible assumption)) | (with_reducible refine Nt.st ?_ ?_) | (with_reducible refine Nt.alloc ?_ _) | (with_reducible refine Nt.drew ?_) | (with_reducible refine Nt.up ?_ (by with_reducible assumption)) | (with_reducible refine Bl.st ?_ (by omega)) | (with_reducible refine Bl.alloc ?_ _) | (with_reducible refine Bl.drew ?_) | (with_reducible refine Bl.up ?_ (by with_reducible assumption)) | (with_reducible exact Below.refl _ _)))) (by exact Nat.le_trans hzn (by decide)) (by exact Nat.le_trans hzn (by decide))).mono ?_); rintro e wA ⟨rfl, hbA⟩; rw [HCN.out]))
        go_wp2_with fail
        go_meet
        case rel => (refine ⟨rfl, ?_⟩; (repeat' (first | with_reducible assumption | (with_reducible exact Vx.va (by with_reducible assumption)) | (with_reducible refine Va.new0 (by first | rfl | (simp only [World.size_alloc, World.size_drew, World.size_setCell]; done) | (simp only [World.size_alloc, World.size_drew, World.size_setCell]; omega) | omega)) | (with_reducible refine Va.alloc ?_ _) | (with_reducible refine Va.drew ?_) | (with_reducible refine Va.st ?_ ?_ (by omega)) | (with_reducible refine Va.up ?_ (by with_reducible assumption)) | (with_reducible refine Vx.put ?_ ?_) | (with_reducible refine Vx.other ?_ ?_ (by omega)) | (with_reducible refine Vx.new0 (by first | rfl | (simp only [World.size_alloc, World.size_drew, World.size_setCell]; done) | (simp only [World.size_alloc, World.size_drew, World.size_setCell]; omega) | omega)) | (with_reducible refine Vx.new (by first | rfl | (simp only [World.size_alloc, World.size_drew, World.size_setCell]; done) | (simp only [World.size_alloc, World.size_drew, World.size_setCell]; omega) | omega) ?_) | (with_reducible refine Vx.alloc ?_ _) | (with_reducible refine Vx.drew ?_) | (with_reducible refine Vx.up ?_ (by with_reducible assumption)) | (with_reducible refine It.st ?_ ?_) | (with_reducible refine It.alloc ?_ _) | (with_reducible refine It.drew ?_) | (with_reducible refine It.up ?_ (by with_reducible assumption)) | (with_reducible refine Nt.st ?_ ?_) | (with_reducible refine Nt.alloc ?_ _) | (with_reducible refine Nt.drew ?_) | (with_reducible refine Nt.up ?_ (by with_reducible assumption)) | (with_reducible refine Bl.st ?_ (by omega)) | (with_reducible refine Bl.alloc ?_ _) | (with_reducible refine Bl.drew ?_) | (with_reducible refine Bl.up ?_ (by with_reducible assumption)) | (with_reducible exact Below.refl _ _))))
        --]
      case rest =>
        obtain ⟨rfl, hcut⟩ := hcut
        have hbz := Bl.up HBL.out hcut
        replace vd := vd.up hcut
        replace vn := vn.up hcut
        replace hhm := hhm.up hcut
        replace hsR := hsR.up hcut
        replace g0 := keepc hcut g0
        clear vf vp g1 p0 p1 ip q0 q1 iq r0 r1 ir t0 t1 it HBL CR2 HCM HSA hcut
        by_cases hlt : h.length < R
        · have i1 : (h.length : Int) < (R : Int) := by omega
          have hD0 : D1 = 0 := HH0.out h piv hh hlt
          rw [hD0] at vd
          obtain ⟨s1, a1, n1, k1, p0, p1, -, -, ip⟩ := vd.cells
          have hll : ((h.length : Int) == (h.length : Int)) = true := by simp
          generalize h.length = H at *
          go_wp2_with fail
          refine (sign_any _ 0 _ ip).mono ?_
          rintro e w5 ⟨rfl, hb5⟩
          rw [show cmpI 0 0 = 0 from rfl]
          replace hbz := Bl.up hbz hb5
          replace g0 := keepc hb5 g0
          go_wp2_with fail
          go_ret
          exact ⟨rfl, hbz⟩
        · have i1 : ¬ (h.length : Int) < (R : Int) := by omega
          have hle := hh.le
          have hhR : h.length = R := by omega
          obtain ⟨e1, e2⟩ := HH1.out h piv hh hhR
          have e3 := HE1.out l hs (by omega)
          rw [hhR] at hhm hsR g0 i1 ⊢
          have hshh := hh.sh
          rw [hhR] at hshh
          have hnn : ((R : Int) != (R : Int)) = false := by simp
          have hbe := hh.bt
          have hbs := hs.bt
          clear HH0 HH1 HE1 hlt hle
          generalize hmx : (D1.natAbs : Int) = DA at *
          have hsp : ∀ i, i ≤ R → sz (prodN i fun j => en h j j) ≤ 1000000 := fun i hi => sz_bits (Bt.prod4 (f := fun j => en h j j) (fun j _ => hbe j j) (Nat.le_trans hi hR4)) (by decide)
          have hsq : ∀ i, i ≤ R → sz (prodN i (lf l)) ≤ 10000000 := fun i hi => sz_bits (Bt.prod4 (fun j _ => hbs j) (Nat.le_trans hi hR4)) (by decide)
          have hse : ∀ i, sz (en h i i) ≤ 1000000 := fun i => sz_bits (hbe i i) (by decide)
          have hsl : ∀ i, sz (l.getD i 0) ≤ 1000000 := fun i => sz_bits (hbs i) (by decide)
          go_wp2_with fail
          refine (rof_any 1 _ (by decide) (by decide)).mono ?_
          rintro e w5 ⟨v5, rfl, hv5, hb5⟩
          obtain ⟨s6, a8, n6, k6, rfl⟩ := hv5.shape
          go_wp2_with fail
          refine (rof_any 1 _ (by decide) (by decide)).mono ?_
          rintro e w6 ⟨v6, rfl, hv6, hb6⟩
          obtain ⟨s7, a9, n7, k7, rfl⟩ := hv6.shape
          replace hv5 := hv5.up hb6
          replace hbz := Bl.up (Bl.up hbz hb5) hb6
          replace vn := (vn.up hb5).up hb6
          replace hhm := (hhm.up hb5).up hb6
          replace hsR := (hsR.up hb5).up hb6
          replace g0 := keepc hb6 (keepc hb5 g0)
          clear hb5 hb6 vd
          go_upto_region 20 with fail
          obtain ⟨W0, hW0⟩ : ∃ W0, W0 = (w6.alloc (.cells #[.bool s6, .slice a8 n6 k6] 40)).alloc (.cells #[.bool s7, .slice a9 n7 k7] 40) := ⟨_, rfl⟩
          have v21 : Vx W0 w6.heap.size (prodN 0 fun j => en h j j) := by rw [hW0]; exact (Vx.new rfl hv5).alloc _
          have v22 : Vx W0 (w6.heap.size + 1) (prodN 0 (lf l)) := by rw [hW0]; exact Vx.new (by simp) (hv6.alloc _)
          have hb0 : Below w6.heap.size w6 W0 := by rw [hW0]; exact Bl.alloc (below_new _ _) _
          rw [← hW0]
          clear hW0 hv5 hv6
          obtain ⟨B6, hB6⟩ : ∃ B6, B6 = w6.heap.size := ⟨_, rfl⟩
          rw [← hB6] at v21 v22 ⊢
          have hBle : w6.heap.size ≤ B6 := by omega
          have HB6 := Lib.hid hB6
          clear hB6
          go_wp2_with fail
          go_loopw [23] (fun s23 wq => ∃ i, i ≤ R ∧ s23 = .int .i64 i ∧ Vx wq B6 (prodN i fun j => en h j j) ∧ Vx wq (B6 + 1) (prodN i (lf l)) ∧ Below w6.heap.size w6 wq)
            (fun s23 _ => R - (intOf s23).toNat)
          case atStart => exact ⟨0, Nat.zero_le _, rfl, v21, v22, hb0⟩
          case round =>
            clear v21 v22 hb0
            obtain ⟨i, hi, rfl, v21, v22, hbq⟩ := hrel
            have i0 : (0 : Int) ≤ (i : Int) := by omega
            have g00 := keepc hbq g0
            by_cases hlt : i < R
            · have i1' : (i : Int) < (R : Int) := by omega
              obtain ⟨ba, offa, ar, kr, rfl, hba, p0, hkr, hrw⟩ := hhm.row hshh hlt
              obtain ⟨bb, offb, s, c, nn, q, rfl, hbb, q0, q1, q2⟩ := hrw.get hlt
              obtain ⟨be, offe, s8, c8, n8, q8, rfl, hbe', r0, r1, r2⟩ := hsR.get hlt
              replace p0 := keepc hbq p0
              replace q0 := keepc hbq q0
              replace q1 := keepc hbq q1
              replace q2 := q2.up hbq
              replace r0 := keepc hbq r0
              replace r1 := keepc hbq r1
              replace r2 := r2.up hbq
              have hn1 : (prodN (i + 1) fun j => en h j j) = (prodN i fun j => en h j j) * en h i i := rfl
              have hn2 : prodN (i + 1) (lf l) = prodN i (lf l) * l.getD i 0 := rfl
              have HN1 := Lib.hid hn1
              have HN2 := Lib.hid hn2
              clear hn1 hn2
              have z1 := hsp i hi
              have z2 := hsq i hi
              have z3 := hse i
              have z4 := hsl i
              change It wr _ (en h i i) at q2
              generalize (prodN i fun j => en h j j) = X at *
              generalize prodN i (lf l) = Y at *
              generalize en h i i = x at *
              generalize l.getD i 0 = y at *
              obtain ⟨s1, a1, n1, k1, u0, u1, u2, u3, iu⟩ := v21.cells
              go_upto_region 27 with fail
              refine wp_region_T (by kernel_rfl) [10] (S := fun w' => w'.cell? ⟨B6, 0, none⟩ = some (.bool s1) ∧ w'.cell? ⟨B6, 1, none⟩ = some (.slice a1 n1 k1) ∧ w'.cell? ⟨B5, 0, none⟩ = some (.slice (some ⟨ba, offa, none⟩) R ch) ∧ w'.cell? ⟨ba, offa + i, none⟩ = some (.slice (some ⟨bb, offb, none⟩) R kr) ∧ w'.cell? ⟨bb, offb + i * 2, none⟩ = some (.bool s) ∧ w'.cell? ⟨bb, offb + i * 2 + 1, none⟩ = some (.slice c nn q)) ⟨u0, u1, g00, p0, q0, q1⟩ (fun hHeld => ?_)
              (refine wpAnyT_take (i := 0) (v := _) rfl (by as_aux_lemma => kernel_rfl) (by as_aux_lemma => kernel_rfl) (by as_aux_lemma => kernel_rfl) (by as_aux_lemma => kernel_rfl) (by as_aux_lemma => kernel_rfl) (fun _ _ _ h => h) (Or.inl ⟨by rfl, by (intro w hSw; (try dsimp only at hSw); go_simp; all_goals (with_reducible rfl))⟩) (by assumption) ?_; (try simp only [Act.put, List.setIfInBounds_toArray, List.set_cons_zero, List.set_cons_succ, List.getElem_toArray, List.getElem_cons_succ, List.getElem_cons_zero]))
              (refine wpAnyT_takeP (i := 1) (v := _) rfl (by as_aux_lemma => kernel_rfl) (by as_aux_lemma => kernel_rfl) (by as_aux_lemma => kernel_rfl) (by as_aux_lemma => kernel_rfl) (fun _ _ _ h => h) (Or.inl ⟨by rfl, by (intro w hSw; go_simp; all_goals (with_reducible rfl))⟩) (by first | (intro _; assumption) | (intro h; exact absurd h (by decide))) ?_; (try simp only [Act.put, List.setIfInBounds_toArray, List.set_cons_zero, List.set_cons_succ, List.getElem_toArray, List.getElem_cons_succ, List.getElem_cons_zero]))
              (refine wpAnyT_take (i := 2) (v := _) rfl (by as_aux_lemma => kernel_rfl) (by as_aux_lemma => kernel_rfl) (by as_aux_lemma => kernel_rfl) (by as_aux_lemma => kernel_rfl) (by as_aux_lemma => kernel_rfl) (fun _ _ _ h => h) (Or.inl ⟨by rfl, by (intro w hSw; (try dsimp only at hSw); go_simp; all_goals (with_reducible rfl))⟩) (by assumption) ?_; (try simp only [Act.put, List.setIfInBounds_toArray, List.set_cons_zero, List.set_cons_succ, List.getElem_toArray, List.getElem_cons_succ, List.getElem_cons_zero]))
              (refine wpAnyT_takeP (i := 3) (v := _) rfl (by as_aux_lemma => kernel_rfl) (by as_aux_lemma => kernel_rfl) (by as_aux_lemma => kernel_rfl) (by as_aux_lemma => kernel_rfl) (fun _ _ _ h => h) (Or.inl ⟨by rfl, by (intro w hSw; go_simp; all_goals (with_reducible rfl))⟩) (by first | (intro _; assumption) | (intro h; exact absurd h (by decide))) ?_; (try simp only [Act.put, List.setIfInBounds_toArray, List.set_cons_zero, List.set_cons_succ, List.getElem_toArray, List.getElem_cons_succ, List.getElem_cons_zero]))
              (refine wpAnyT_takeP (i := 4) (v := _) rfl (by as_aux_lemma => kernel_rfl) (by as_aux_lemma => kernel_rfl) (by as_aux_lemma => kernel_rfl) (by as_aux_lemma => kernel_rfl) (fun _ _ _ h => h) (Or.inl ⟨by rfl, by (intro w hSw; go_simp; all_goals (with_reducible rfl))⟩) (by first | (intro _; assumption) | (intro h; exact absurd h (by decide))) ?_; (try simp only [Act.put, List.setIfInBounds_toArray, List.set_cons_zero, List.set_cons_succ, List.getElem_toArray, List.getElem_cons_succ, List.getElem_cons_zero]))
              (refine wpAnyT_take (i := 5) (v := _) rfl (by as_aux_lemma => kernel_rfl) (by as_aux_lemma => kernel_rfl) (by as_aux_lemma => kernel_rfl) (by as_aux_lemma => kernel_rfl) (by as_aux_lemma => kernel_rfl) (fun _ _ _ h => h) (Or.inl ⟨by rfl, by (intro w hSw; (try dsimp only at hSw); go_simp; all_goals (with_reducible rfl))⟩) (by assumption) ?_; (try simp only [Act.put, List.setIfInBounds_toArray, List.set_cons_zero, List.set_cons_succ, List.getElem_toArray, List.getElem_cons_succ, List.getElem_cons_zero]))
              (refine wpAnyT_takeP (i := 6) (v := _) rfl (by as_aux_lemma => kernel_rfl) (by as_aux_lemma => kernel_rfl) (by as_aux_lemma => kernel_rfl) (by as_aux_lemma => kernel_rfl) (fun _ _ _ h => h) (Or.inl ⟨by rfl, by (intro w hSw; go_simp; all_goals (with_reducible rfl))⟩) (by first | (intro _; assumption) | (intro h; exact absurd h (by decide))) ?_; (try simp only [Act.put, List.setIfInBounds_toArray, List.set_cons_zero, List.set_cons_succ, List.getElem_toArray, List.getElem_cons_succ, List.getElem_cons_zero]))
              (refine wpAnyT_takeP (i := 7) (v := _) rfl (by as_aux_lemma => kernel_rfl) (by as_aux_lemma => kernel_rfl) (by as_aux_lemma => kernel_rfl) (by as_aux_lemma => kernel_rfl) (fun _ _ _ h => h) (Or.inl ⟨by rfl, by (intro w hSw; go_simp; all_goals (with_reducible rfl))⟩) (by first | (intro _; assumption) | (intro h; exact absurd h (by decide))) ?_; (try simp only [Act.put, List.setIfInBounds_toArray, List.set_cons_zero, List.set_cons_succ, List.getElem_toArray, List.getElem_cons_succ, List.getElem_cons_zero]))
              (refine wpAnyT_take (i := 8) (v := _) rfl (by as_aux_lemma => kernel_rfl) (by as_aux_lemma => kernel_rfl) (by as_aux_lemma => kernel_rfl) (by as_aux_lemma => kernel_rfl) (by as_aux_lemma => kernel_rfl) (fun _ _ _ h => h) (Or.inl ⟨by rfl, by (intro w hSw; (try dsimp only at hSw); go_simp; all_goals (with_reducible rfl))⟩) (by assumption) ?_; (try simp only [Act.put, List.setIfInBounds_toArray, List.set_cons_zero, List.set_cons_succ, List.getElem_toArray, List.getElem_cons_succ, List.getElem_cons_zero]))
              (refine wpAnyT_one (i := 9) (by as_aux_lemma => kernel_rfl) rfl (fun K hK => ?_); (try simp only [Act.put, List.setIfInBounds_toArray, List.set_cons_zero, List.set_cons_succ, List.getElem_toArray, List.getElem_cons_succ, List.getElem_cons_zero]); go_simp)
              refine (mul_any _ _ X x _ iu.drew q2.drew (by exact Nat.le_trans z1 (by decide)) (by exact Nat.le_trans z3 (by decide))).mono ?_
              rintro e w7 ⟨v7, rfl, hv7, hb7⟩
              obtain ⟨s9, a9, n9, k9, rfl⟩ := hv7.shape
              replace u0 := keepc hb7 (cellD u0)
              replace u1 := keepc hb7 (cellD u1)
              replace g00 := keepc hb7 (cellD g00)
              replace p0 := keepc hb7 (cellD p0)
              replace q0 := keepc hb7 (cellD q0)
              replace q1 := keepc hb7 (cellD q1)
              replace v21 := v21.drew.up hb7
              replace v22 := v22.drew.up hb7
              replace r0 := keepc hb7 (cellD r0)
              replace r1 := keepc hb7 (cellD r1)
              replace r2 := r2.drew.up hb7
              replace hbq := Bl.up (Bl.drew hbq) hb7
              obtain ⟨f2, f3⟩ := v21.va.free
              go_wp2_with fail
              refine hK.out _ _ (fun _ => ⟨u0, u1, g00, p0, q0, q1⟩) ?_
              clear hK hHeld
              (try simp only [Act.put, List.setIfInBounds_toArray, List.set_cons_zero, List.set_cons_succ, List.getElem_toArray, List.getElem_cons_succ, List.getElem_cons_zero])
              (refine wpAnyT_one (i := 10) (by as_aux_lemma => kernel_rfl) rfl (fun K hK => ?_); (try simp only [Act.put, List.setIfInBounds_toArray, List.set_cons_zero, List.set_cons_succ, List.getElem_toArray, List.getElem_cons_succ, List.getElem_cons_zero]); go_simp)
              go_wp2_with fail
              refine hK.out _ _ (fun h => absurd h (by decide)) ?_
              clear hK
              (try simp only [Act.put, List.setIfInBounds_toArray, List.set_cons_zero, List.set_cons_succ, List.getElem_toArray, List.getElem_cons_succ, List.getElem_cons_zero])
              refine wpAnyT_done (by kernel_rfl) ?_ _
              have v21' := Vx.put v21.va hv7
              have v22' := v22.other v21.va (s := s9) (a := a9) (n := n9) (c := k9) (by omega)
              have hbq' := Bl.st hbq (s := s9) (a := a9) (n := n9) (c := k9) (show w6.heap.size ≤ B6 by omega)
              have hbe2 : be ≠ B6 := by have := HB6.out; omega
              have r0' := cellS (i := 1) (u := .slice a9 n9 k9) (cellS (i := 0) (u := .bool s9) r0 hbe2.symm) hbe2.symm
              have r1' := cellS (i := 1) (u := .slice a9 n9 k9) (cellS (i := 0) (u := .bool s9) r1 hbe2.symm) hbe2.symm
              have r2' := r2.st v21.va (s := s9) (a := a9) (n := n9) (c := k9)
              clear v21 v22 hbq r0 r1 r2 u0 u1 u2 u3 iu g00 p0 q0 q1 q2 f2 f3 hv7 hb7
              generalize (w7.setCell ⟨B6, 0, none⟩ (.bool s9)).setCell ⟨B6, 1, none⟩ (.slice a9 n9 k9) = wd at *
              obtain ⟨s1, a1, n1, k1, u0, u1, u2, u3, iu⟩ := v22'.cells
              go_upto_region 28 with fail
              refine wp_region_T (by kernel_rfl) [6] (S := fun w' => w'.cell? ⟨B6 + 1, 0, none⟩ = some (.bool s1) ∧ w'.cell? ⟨B6 + 1, 1, none⟩ = some (.slice a1 n1 k1) ∧ w'.cell? ⟨be, offe + i * 2, none⟩ = some (.bool s8) ∧ w'.cell? ⟨be, offe + i * 2 + 1, none⟩ = some (.slice c8 n8 q8)) ⟨u0, u1, r0', r1'⟩ (fun hHeld => ?_)
              (refine wpAnyT_take (i := 0) (v := _) rfl (by as_aux_lemma => kernel_rfl) (by as_aux_lemma => kernel_rfl) (by as_aux_lemma => kernel_rfl) (by as_aux_lemma => kernel_rfl) (by as_aux_lemma => kernel_rfl) (fun _ _ _ h => h) (Or.inl ⟨by rfl, by (intro w hSw; (try dsimp only at hSw); go_simp; all_goals (with_reducible rfl))⟩) (by assumption) ?_; (try simp only [Act.put, List.setIfInBounds_toArray, List.set_cons_zero, List.set_cons_succ, List.getElem_toArray, List.getElem_cons_succ, List.getElem_cons_zero]))
              (refine wpAnyT_takeP (i := 1) (v := _) rfl (by as_aux_lemma => kernel_rfl) (by as_aux_lemma => kernel_rfl) (by as_aux_lemma => kernel_rfl) (by as_aux_lemma => kernel_rfl) (fun _ _ _ h => h) (Or.inl ⟨by rfl, by (intro w hSw; go_simp; all_goals (with_reducible rfl))⟩) (by first | (intro _; assumption) | (intro h; exact absurd h (by decide))) ?_; (try simp only [Act.put, List.setIfInBounds_toArray, List.set_cons_zero, List.set_cons_succ, List.getElem_toArray, List.getElem_cons_succ, List.getElem_cons_zero]))
              (refine wpAnyT_takeP (i := 2) (v := _) rfl (by as_aux_lemma => kernel_rfl) (by as_aux_lemma => kernel_rfl) (by as_aux_lemma => kernel_rfl) (by as_aux_lemma => kernel_rfl) (fun _ _ _ h => h) (Or.inl ⟨by rfl, by (intro w hSw; go_simp; all_goals (with_reducible rfl))⟩) (by first | (intro _; assumption) | (intro h; exact absurd h (by decide))) ?_; (try simp only [Act.put, List.setIfInBounds_toArray, List.set_cons_zero, List.set_cons_succ, List.getElem_toArray, List.getElem_cons_succ, List.getElem_cons_zero]))
              (refine wpAnyT_takeP (i := 3) (v := _) rfl (by as_aux_lemma => kernel_rfl) (by as_aux_lemma => kernel_rfl) (by as_aux_lemma => kernel_rfl) (by as_aux_lemma => kernel_rfl) (fun _ _ _ h => h) (Or.inl ⟨by rfl, by (intro w hSw; go_simp; all_goals (with_reducible rfl))⟩) (by first | (intro _; assumption) | (intro h; exact absurd h (by decide))) ?_; (try simp only [Act.put, List.setIfInBounds_toArray, List.set_cons_zero, List.set_cons_succ, List.getElem_toArray, List.getElem_cons_succ, List.getElem_cons_zero]))
              (refine wpAnyT_take (i := 4) (v := _) rfl (by as_aux_lemma => kernel_rfl) (by as_aux_lemma => kernel_rfl) (by as_aux_lemma => kernel_rfl) (by as_aux_lemma => kernel_rfl) (by as_aux_lemma => kernel_rfl) (fun _ _ _ h => h) (Or.inl ⟨by rfl, by (intro w hSw; (try dsimp only at hSw); go_simp; all_goals (with_reducible rfl))⟩) (by assumption) ?_; (try simp only [Act.put, List.setIfInBounds_toArray, List.set_cons_zero, List.set_cons_succ, List.getElem_toArray, List.getElem_cons_succ, List.getElem_cons_zero]))
              (refine wpAnyT_one (i := 5) (by as_aux_lemma => kernel_rfl) rfl (fun K hK => ?_); (try simp only [Act.put, List.setIfInBounds_toArray, List.set_cons_zero, List.set_cons_succ, List.getElem_toArray, List.getElem_cons_succ, List.getElem_cons_zero]); go_simp)
              refine (mul_any _ _ Y y _ iu.drew r2'.drew (by exact Nat.le_trans z2 (by decide)) (by exact Nat.le_trans z4 (by decide))).mono ?_
              rintro e w8 ⟨v8, rfl, hv8, hb8⟩
              obtain ⟨s3, a3, n3, k3, rfl⟩ := hv8.shape
              replace u0 := keepc hb8 (cellD u0)
              replace u1 := keepc hb8 (cellD u1)
              replace r0' := keepc hb8 (cellD r0')
              replace r1' := keepc hb8 (cellD r1')
              replace v21' := v21'.drew.up hb8
              replace v22' := v22'.drew.up hb8
              replace hbq' := Bl.up (Bl.drew hbq') hb8
              obtain ⟨f2, f3⟩ := v22'.va.free
              go_wp2_with fail
              refine hK.out _ _ (fun _ => ⟨u0, u1, r0', r1'⟩) ?_
              clear hK hHeld
              (try simp only [Act.put, List.setIfInBounds_toArray, List.set_cons_zero, List.set_cons_succ, List.getElem_toArray, List.getElem_cons_succ, List.getElem_cons_zero])
              (refine wpAnyT_one (i := 6) (by as_aux_lemma => kernel_rfl) rfl (fun K hK => ?_); (try simp only [Act.put, List.setIfInBounds_toArray, List.set_cons_zero, List.set_cons_succ, List.getElem_toArray, List.getElem_cons_succ, List.getElem_cons_zero]); go_simp)
              go_wp2_with fail
              refine hK.out _ _ (fun h => absurd h (by decide)) ?_
              clear hK
              (try simp only [Act.put, List.setIfInBounds_toArray, List.set_cons_zero, List.set_cons_succ, List.getElem_toArray, List.getElem_cons_succ, List.getElem_cons_zero])
              refine wpAnyT_done (by kernel_rfl) ?_ _
              have v22 := Vx.put v22'.va hv8
              have v21 := v21'.other v22'.va (s := s3) (a := a3) (n := n3) (c := k3) (by omega)
              have hbq := Bl.st hbq' (s := s3) (a := a3) (n := n3) (c := k3) (show w6.heap.size ≤ B6 + 1 by omega)
              clear v21' v22' hbq' r0' r1' r2' u0 u1 u2 u3 iu f2 f3 hv8 hb8
              generalize (w8.setCell ⟨B6 + 1, 0, none⟩ (.bool s3)).setCell ⟨B6 + 1, 1, none⟩ (.slice a3 n3 k3) = wd at *
              go_wp2_with fail
              go_roundw
              case rel => exact ⟨i + 1, by omega, by go_num, by rw [HN1.out]; exact v21, by rw [HN2.out]; exact v22, hbq⟩
              case measure => simp [intOf]; omega
            · have i1' : ¬ (i : Int) < (R : Int) := by omega
              have hiR : i = R := by omega
              subst hiR
              rw [← e1] at v21
              rw [← e3] at v22
              replace vn := vn.up hbq
              have hDz : sz DA ≤ 1000000 := hzn
              obtain ⟨s1, a1, n1, k1, u0, u1, -, -, iu⟩ := v21.cells
              obtain ⟨s2, a2, n2, k2, r0, r1, -, -, ir⟩ := v22.cells
              obtain ⟨s3, a3, n3, k3, t0, t1, -, -, it⟩ := vn.cells
              have hcc := cmpI_eq (x := DA) (y := DA) rfl
              have HCC := Lib.hid hcc
              clear hcc
              go_wp2_with fail
              refine (cmp_any _ _ DA DA _ iu it (Nat.le_trans hDz (by decide)) (Nat.le_trans hDz (by decide))).mono ?_
              rintro e w7 ⟨rfl, hb7⟩
              rw [HCC.out]
              replace r0 := keepc hb7 r0
              replace r1 := keepc hb7 r1
              replace t0 := keepc hb7 t0
              replace t1 := keepc hb7 t1
              go_wp2_with fail
              refine (cmp_any _ _ DA DA _ (ir.up hb7) (it.up hb7) (Nat.le_trans hDz (by decide)) (Nat.le_trans hDz (by decide))).mono ?_
              rintro e w8 ⟨rfl, hb8⟩
              rw [HCC.out]
              go_wp2_with fail
              go_ret
              exact ⟨rfl, Bl.up (Bl.up (Bl.up hbz hbq) hb7) hb8⟩
end Go.Proofs.Ytdbpkoddfcdhdaa
