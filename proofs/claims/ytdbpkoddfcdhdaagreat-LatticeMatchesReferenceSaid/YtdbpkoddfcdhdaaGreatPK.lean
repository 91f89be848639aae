/-
  lattice.hermite, lattice.tracked: rows of their own, reduced.
  lattice.refused, refusedBy: which matrices are none.
  lattice.Hermite, lattice.Rank.
  append of one integer, or of one row, to a slice of the call's own.
  append of a row to a slice of rows of the call's own; lattice.Kernel.
  lattice.Solve, lattice.In.
-/
import Derived.IntWalk
import Derived.Deep.AppendLies
import Derived.Test.YtdbpkoddfcdhdaaGreatPJ
import Derived.Test.YtdbpkoddfcdhdaaGreatPI
import Derived.Test.YtdbpkoddfcdhdaaGreatPD
set_option linter.unusedSimpArgs false
set_option linter.unusedVariables false

namespace Go.Proofs.YtdbpkoddfcdhdaaGreat
open Go.RowKit
attribute [local go_sem ↓] Go.wp_at_zero Go.wp_at_succ

theorem Ri.front {w : World} {a : Option Addr} {l : List Int} (h : Ri w a l) (n : Nat) : Ri w a (l.take n) := by
  rcases h with rfl | ⟨b, off, h1, h2, h3⟩
  · exact .inl (by simp)
  · refine .inr ⟨b, off, h1, h2, fun i hi => ?_⟩
    rw [List.length_take] at hi
    obtain ⟨s, c, n', k, c0, c1, c2⟩ := h3 i (by omega)
    refine ⟨s, c, n', k, c0, c1, ?_⟩
    simp only [List.getD_eq_getElem?_getD] at c2 ⊢
    rw [List.getElem?_take_of_lt (by omega)]
    exact c2

theorem Mi.front {w : World} {a : Option Addr} {m : List (List Int)} (h : Mi w a m) (n : Nat) : Mi w a (m.take n) := by
  rcases h with rfl | ⟨b, off, h1, h2, h3⟩
  · exact .inl (by simp)
  · refine .inr ⟨b, off, h1, h2, fun i hi => ?_⟩
    rw [List.length_take] at hi
    obtain ⟨c, k, c0, c1⟩ := h3 i (by omega)
    have e : (m.take n).getD i [] = m.getD i [] := by
      simp only [List.getD_eq_getElem?_getD]
      rw [List.getElem?_take_of_lt (by omega)]
    rw [e]
    exact ⟨c, k, c0, c1⟩

theorem Mx.len0 {w : World} {v : Value} {m : List (List Int)} (h : Mx w v m) {R N : Nat} (hs : Shape R N m) (hR : 0 < R) :
    ∃ b off ca c k, v = .slice (some ⟨b, off, none⟩) R ca ∧ w.cell? ⟨b, off, none⟩ = some (.slice c N k) := by
  obtain ⟨a, ca, rfl, hca, hra⟩ := h
  obtain ⟨b, off, rfl, hb, hc⟩ := hra.at (i := 0) (by rw [hs.1]; exact hR)
  obtain ⟨c, k, c0, c1⟩ := hc 0 (by rw [hs.1]; exact hR)
  rw [hs.2 0 hR] at c0
  exact ⟨b, off, ca, c, k, by rw [hs.1], c0⟩

set_option maxHeartbeats 2000000 in
theorem hermite_any {R N : Nat} {P1 : Nat → Nat → List (List Int) → Prop} {P2 P3 : Nat → Nat → Nat → List (List Int) → Prop} (pl : Plan R N N P1 P2 P3) (v : Value) (m : List (List Int)) (w : World)
    (h : Mx w v m) (h0 : P1 0 0 m) (hR0 : 0 < R) (hR : R ≤ 1099511627776) (hN : N ≤ 1099511627776) :
    Calls Tryz.prog 30 #[v] w fun e w' => ∃ (v' : Value) (row col : Nat) (m' : List (List Int)), e = .returned v' ∧ P1 row col m' ∧ (col = N ∨ row = R) ∧ row ≤ R ∧ Mx w' v' (m'.take row) ∧ Below w.heap.size w w' := by
  have hs := pl.s1 h0
  obtain ⟨b, off, ca, c, k, rfl, p0⟩ := h.len0 hs hR0
  have hC := copied_any _ m w h (by rw [hs.1]; exact hR) (fun i hi => by rw [hs.1] at hi; rw [hs.2 i hi]; exact hN)
  rw [hs.1] at hC
  have hb0 : ((R : Int) == 0) = false := by rw [beq_eq_false_iff_ne]; omega
  have hR' : (0 : Int) < (R : Int) := by omega
  go_enter Tryz.func30, Tryz.ntmps30
  go_wp2_with fail
  refine hC.mono ?_
  rintro e w1 ⟨g, rfl, hg, hO, hb⟩
  replace p0 := keepc hb p0
  go_wp2_with fail
  refine (reduce_any pl g R m w1 hO h0 (Nat.le_refl _) hR hN (Nat.le_refl _)).mono ?_
  rintro e w2 ⟨row, col, m', rfl, hP, hrc, hrow, hO2, hbut⟩
  have i0 : (0 : Int) ≤ (row : Int) := by omega
  have i1 : (row : Int) ≤ (R : Int) := by omega
  go_wp2_with fail
  go_ret
  have hs' := pl.s1 hP
  refine ⟨.slice (some ⟨g, 0, none⟩) row R, row, col, m', rfl, hP, hrc, hrow, ?_, But.below hb hg hbut⟩
  obtain ⟨_, _, e1, -, hMi⟩ := hO2.mat (cap := R) (by rw [hs'.1]; exact Nat.le_refl _)
  injection e1 with e1 e2 e3
  subst e1
  exact ⟨_, R, by rw [List.length_take, hs'.1, Nat.min_eq_left hrow], by rw [List.length_take, hs'.1, Nat.min_eq_left hrow]; exact hrow, hMi.front row⟩

/-- Row i with the units behind it. -/
def unitRow (m : List (List Int)) (n R i : Nat) : List Int := ((m.getD i []) ++ List.replicate R 0).set (n + i) 1
def unitM (m : List (List Int)) (n R : Nat) : List (List Int) := (List.range R).map (unitRow m n R)

set_option maxHeartbeats 2000000 in
theorem tracked_any {R n : Nat} {P1 : Nat → Nat → List (List Int) → Prop} {P2 P3 : Nat → Nat → Nat → List (List Int) → Prop} (pl : Plan R (n + R) (n + R) P1 P2 P3) (v : Value) (m : List (List Int)) (w : World)
    (h : Mx w v m) (hs : Shape R n m) (h0 : P1 0 0 (unitM m n R)) (hR0 : 0 < R) (hR : R ≤ 549755813888) (hN : n ≤ 549755813888) :
    Calls Tryz.prog 43 #[v] w fun e w' => ∃ (v' : Value) (row col : Nat) (m' : List (List Int)), e = .returned (.tuple #[v', .int .i64 n]) ∧ P1 row col m' ∧ (col = n + R ∨ row = R) ∧ row ≤ R ∧ Mx w' v' m' ∧ Below w.heap.size w w' := by
  obtain ⟨b, off, ca, c, k, rfl, p0⟩ := h.len0 hs hR0
  obtain ⟨_, _, e, -, hMi⟩ := h
  injection e with e1 e2 e3
  subst e1
  clear e2 e3
  have hR' : (0 : Int) < (R : Int) := by omega
  have hmk := mk_mat (R : Int) R rfl (by omega)
  go_enter Tryz.func43, Tryz.ntmps43
  go_wp2_with fail
  clear hmk
  go_loopw [6, 16] (fun s6 s wr => ∃ (i : Nat) (o : List (List Int)), i ≤ R ∧ s = .int .i64 i ∧ Om wr w.heap.size o ∧ o.length = R ∧ (∀ j, j < i → o.getD j [] = unitRow m n R j) ∧ Below w.heap.size w wr)
    (fun _ s _ => R - (intOf s).toNat)
  case atStart =>
    exact ⟨0, List.replicate R [], Nat.zero_le _, rfl, Om.zeros w _, by simp, fun j hj => absurd hj (Nat.not_lt_zero _), below_new _ _⟩
  case round =>
    obtain ⟨i, o, hi, rfl, hown, hlen, hval, hbl⟩ := hrel
    have HV := Lib.hid hval
    have HL := Lib.hid hlen
    have hil : i < R → i < o.length := fun h => by rw [hlen]; exact h
    clear hval hlen
    by_cases hlt : i < R
    · obtain ⟨ba, offa, e0, hba, hla⟩ := hMi.at (i := i) (by rw [hs.1]; exact hlt)
      injection e0 with e0
      injection e0 with e0 e0'
      subst e0 e0'
      obtain ⟨c1, k1, p1, p2⟩ := hla i (by rw [hs.1]; exact hlt)
      rw [hs.2 i hlt] at p1 p2
      have hln := hs.2 i hlt
      have hil' := hil hlt
      clear hla hil
      replace p1 := keepc hbl p1
      replace p2 := p2.up hbl
      obtain ⟨rr, hrr⟩ : ∃ rr, rr = m.getD i [] := ⟨_, rfl⟩
      rw [← hrr] at p2 hln
      replace hrr := Lib.hid hrr
      have HLN := Lib.hid hln
      clear hln
      have hmk := mk_row ((n : Int) + (R : Int)) (n + R) (by omega) (by omega)
      have i0 : (0 : Int) ≤ (i : Int) := by omega
      have i1 : (i : Int) < (R : Int) := by omega
      have hsl := hown.sl
      have hglt := hown.lt
      obtain ⟨c2, k2, q0, q1⟩ := hown.cells hil'
      have f0 := hown.free i
      clear q1
      go_upto_region 7 with fail
      obtain ⟨W1, hW1⟩ : ∃ W1, W1 = (wr.setCell ⟨w.heap.size, i, none⟩ (.slice (some ⟨wr.heap.size, 0, none⟩) (n + R) (n + R))).alloc (.cells (madeCells #[.bool false, .slice none 0 0] ((n + R) * 2)) 56) := ⟨_, rfl⟩
      rw [← hW1]
      have hO : Ow W1 wr.heap.size (List.replicate (n + R) 0) := by rw [hW1]; have := Ow.zeros (wr.setCell ⟨w.heap.size, i, none⟩ (.slice (some ⟨wr.heap.size, 0, none⟩) (n + R) (n + R))) (n + R); rw [World.size_setCell] at this; exact this
      have hbut : But w.heap.size wr W1 := by rw [hW1]; exact ((But.refl _ _).set _ _).alloc _
      have hput : PutAt w.heap.size i (.slice (some ⟨wr.heap.size, 0, none⟩) (n + R) (n + R)) wr W1 := by rw [hW1]; exact (PutAt.set hown.block rfl _).up (Below.heap_alloc _ _ _ (by simpa using hglt))
      have hbl1 : Below w.heap.size w W1 := by rw [hW1]; exact Bl.alloc (hbl.setCell (Nat.le_refl _) _) _
      have r0 : W1.cell? ⟨w.heap.size, i, none⟩ = some (.slice (some ⟨wr.heap.size, 0, none⟩) (n + R) (n + R)) := by rw [hW1]; exact cellN (World.cell?_setCell_same _ _ _ q0) _
      have r1 : W1.cell? ⟨b, off + i, none⟩ = some (.slice c1 n k1) := by rw [hW1]; exact cellN (cellS p1 (by omega)) _
      have r2 : Rw W1 (.slice c1 n k1) rr := p2.but hsl hbut
      have hz1 : W1.heap.size = wr.heap.size + 1 := by rw [hW1]; simp
      have hle : rr.length ≤ (List.replicate (n + R) (0 : Int)).length := by rw [HLN.out]; simp
      have r2' : Rw W1.drew (.slice c1 rr.length k1) rr := by rw [HLN.out]; exact r2.drew
      clear hW1 q0 f0 p1 p2 hmk
      go_region_held3 (fun w' => w'.cell? ⟨w.heap.size, i, none⟩ = some (.slice (some ⟨wr.heap.size, 0, none⟩) (n + R) (n + R)) ∧ w'.cell? ⟨b, off + i, none⟩ = some (.slice c1 n k1))
        ((repeat' (first | with_reducible assumption | (with_reducible refine And.intro ?_ ?_) | (with_reducible refine cellD ?_) | (with_reducible refine cellN ?_ _) | (with_reducible refine cellS ?_ (by omega)) | (with_reducible refine keepc (by with_reducible assumption) ?_))))
        ((refine step_copyR (by rfl) (.tmp 30) (.tmp 34) _ _ (by rfl) Tryz.underlying36 wr.heap.size (n + R) k1 c1 (List.replicate (n + R) 0) rr (n + R) (by simp) (by rfl) (by rw [HLN.out]; rfl) hO.drew r2' hle ?_; intro w2 ho hk hs hB; have hb2 : Below wr.heap.size W1.drew w2 := hB _ _ (Below.refl _ _) (Nat.le_refl _); have s0 := (World.cell?_of_block (a := ⟨w.heap.size, i, none⟩) (hk w.heap.size (by omega))).trans r0; have s1 := (World.cell?_of_block (a := ⟨b, off + i, none⟩) (hk _ (by show b ≠ _; omega))).trans r1))
      go_wp2_with fail
      have hun : rr ++ List.drop rr.length (List.replicate (n + R) 0) = rr ++ List.replicate R 0 := by simp [HLN.out]
      rw [hun] at ho
      clear hun
      have hbut2 := hbut.drew.upB hb2
      have hput2 := PutAt.up (w2 := w2) (w1 := W1) hput (hb2.block _ hglt)
      have hbl2 : Below w.heap.size w w2 := (Bl.drew hbl1).trans (hb2.mono (Nat.le_of_lt hglt))
      have hnl : n + i < (rr ++ List.replicate R 0).length := by simp [HLN.out]; omega
      have hz2 : W1.drew.heap.size ≤ w2.heap.size := hb2.size
      have hz3 : wr.heap.size < w2.heap.size := ho.lt
      clear hbut hput hbl1 hb2 r0 r1 r2 r2' s1 hk hB hz1 hz2 hO hle
      go_upto_region 8 with fail
      have hcN : ((n + i : Nat) : Int) < ((n + R : Nat) : Int) := by omega
      have hrel1 : ∀ (w3 : World), Below w2.drew.heap.size w2.drew w3 → w3.cell? ⟨w.heap.size, i, none⟩ = some (.slice (some ⟨wr.heap.size, 0, none⟩) (n + R) (n + R)) := fun w3 h => keepc h (cellD s0)
      have hs0 : (0 : Int) ≤ (n : Int) + (i : Int) := by omega
      have hs1 : (n : Int) + (i : Int) < (n : Int) + (R : Int) := by omega
      have hs2 : ((n : Int) + (i : Int)).toNat = n + i := by omega
      have hne8 : wr.heap.size ≠ w.heap.size := by omega
      have hsum : IntKind.i64.wrap ((n : Int) + (i : Int)) = (n : Int) + (i : Int) := IntWalk.i64_in _ (by omega)
      go_region_held3 (fun w' => w'.cell? ⟨w.heap.size, i, none⟩ = some (.slice (some ⟨wr.heap.size, 0, none⟩) (n + R) (n + R)))
        (first | exact cellD s0 | exact hrel1 _ (by assumption) | exact cellS (cellS (hrel1 _ (by assumption)) hne8) hne8 | (repeat' (first | with_reducible assumption | (with_reducible refine And.intro ?_ ?_) | (with_reducible refine cellD ?_) | (with_reducible refine cellN ?_ _) | (with_reducible refine cellS ?_ (by omega)) | (with_reducible refine keepc (by with_reducible assumption) ?_))))
        (first
          | (go_at_call 55; with_reducible (refine (latof_any 1 _ (by decide) (by decide)).mono ?_); rintro e w3 ⟨v1, rfl, hv1, hb3⟩; obtain ⟨s5, a5, n5, k5, rfl⟩ := hv1.shape; have ho3 := ho.drew.up hb3; obtain ⟨s6, c6, n6, k6, x0, x1, x2⟩ := ho3.cells hnl; have x3 := ho3.free ((n + i) * 2); have x4 := ho3.free ((n + i) * 2 + 1)))
      clear hsum hs2 hs0 hs1
      clear x0 x1 x2 x3 x4 s0 hrel1
      have ho4 := ho3.set hnl hv1
      have hu : (rr ++ List.replicate R 0).set (n + i) 1 = unitRow m n R i := by unfold unitRow; rw [← hrr.out]
      rw [hu] at ho4
      have hul : (unitRow m n R i).length = n + R := by rw [← hu]; simp [HLN.out]
      have HU := Lib.hid hul
      have hbut4 := ((hbut2.drew.up hb3).st (B := wr.heap.size) (Nat.le_refl _) ((n + i) * 2) (.bool s5)).st (B := wr.heap.size) (Nat.le_refl _) ((n + i) * 2 + 1) (.slice a5 n5 k5)
      have hput4 : PutAt w.heap.size i (.slice (some ⟨wr.heap.size, 0, none⟩) (n + R) (n + R)) wr ((w3.setCell ⟨wr.heap.size, (n + i) * 2, none⟩ (.bool s5)).setCell ⟨wr.heap.size, (n + i) * 2 + 1, none⟩ (.slice a5 n5 k5)) :=
        hput2.up (((set_heap _ (by omega) _).trans (set_heap _ (by omega) _)).trans (hb3.block _ (by show w.heap.size < w2.heap.size; omega)))
      have hbl4 := ((Bl.up (Bl.drew hbl2) hb3).setCell (p := ⟨wr.heap.size, (n + i) * 2, none⟩) (by show w.heap.size ≤ wr.heap.size; omega) (.bool s5)).setCell (p := ⟨wr.heap.size, (n + i) * 2 + 1, none⟩) (by show w.heap.size ≤ wr.heap.size; omega) (.slice a5 n5 k5)
      have hrow4 := ho4.row (cap := n + R) (by rw [HU.out]; exact Nat.le_refl _)
      rw [HU.out] at hrow4
      have hOm4 := hown.put hil' hbut4 hput4 hrow4
      clear hul hu ho3 ho4 hv1 hb3 hbut2 hput2 hbl2 hown hbut4 hput4 hrow4 ho hs
      go_wp2_with fail
      go_roundw
      case rel =>
        have hall : ∀ j, j < i + 1 → (o.set i (unitRow m n R i)).getD j [] = unitRow m n R j := by
          intro j hj
          by_cases e : i = j
          · subst e; rw [mgetD_set_same hil']
          · rw [mgetD_set_other e]; exact HV.out j (by omega)
        exact ⟨i + 1, o.set i (unitRow m n R i), by omega, by go_num, hOm4, by rw [List.length_set]; exact HL.out, hall, hbl4⟩
      case measure => simp [intOf]; omega
    · have hin : i = R := by omega
      subst hin
      have i0 : (0 : Int) ≤ (n : Int) := by omega
      go_wp2_with fail
      have ho : o = unitM m n i := mat_ext (by rw [HL.out]; simp [unitM]) (fun j hj => by
        have hj' : j < i := by rw [← HL.out]; exact hj
        rw [HV.out j hj']
        simp [unitM, List.getD_eq_getElem?_getD, hj'])
      subst ho
      have hbut0 := hown.lt
      rw [show (n : Int) + (i : Int) = ((n + i : Nat) : Int) by omega]
      refine (reduce_any pl w.heap.size i (unitM m n i) wr hown h0 (Nat.le_refl _) (by omega) (by omega) (Nat.le_refl _)).mono ?_
      rintro e w2 ⟨row, col, m', rfl, hP, hrc, hrow, hO2, hbut⟩
      go_wp2_with fail
      go_ret2
      have hs' := pl.s1 hP
      have hmx := hO2.mat (cap := i) (by rw [hs'.1]; exact Nat.le_refl _)
      rw [hs'.1] at hmx
      exact ⟨_, row, col, m', rfl, hP, hrc, hrow, hmx, But.below hbl (Nat.le_refl _) hbut⟩
end Go.Proofs.YtdbpkoddfcdhdaaGreat

namespace Go.Proofs.YtdbpkoddfcdhdaaGreat
open Go.RowKit
attribute [local go_sem ↓] Go.wp_at_zero Go.wp_at_succ

/-- A row that is too long. -/
def big (l : List Int) : Bool := decide ((12 : Int) < (l.length : Int))
/-- A row that has another length than n, or none. -/
def odd (n : Nat) (l : List Int) : Bool := decide (l.length = 0 ∨ l.length ≠ n)

def refM (m : List (List Int)) : Int := if 12 < m.length ∨ m.any big = true then 2 else if m.any (odd (m.getD 0 []).length) = true then 1 else 0

def refBy (m : List (List Int)) (l : List Int) : Int := if refM m = 2 ∨ 12 < l.length then 2 else if refM m = 0 ∧ 0 < m.length ∧ l.length ≠ (m.getD 0 []).length then 1 else refM m

theorem ref1_any (v : Value) (l : List Int) (w : World) (h : Rw w v l) :
    Calls Tryz.prog 66 #[v] w fun e w' => e = .returned (.bool (big l)) ∧ Below w.heap.size w w' := by
  obtain ⟨a, ca, rfl, hca, hra⟩ := h
  go_enter Tryz.func66, Tryz.ntmps66
  go_wp2_with fail
  go_ret
  exact ⟨rfl, Below.refl _ _⟩

theorem ref2_any (v : Value) (l : List Int) (B : Nat) (x : Option Addr) (n c : Nat) (r0 : List Int) (w : World) (h : Rw w v l) (hB : w.cell? ⟨B, 0, none⟩ = some (.slice x n c)) (hn : 0 < n)
    (hx : ∃ b off, x = some ⟨b, off, none⟩ ∧ ∃ a k, w.cell? ⟨b, off, none⟩ = some (.slice a r0.length k)) :
    Calls Tryz.prog 67 #[v, .pointer (some ⟨B, 0, none⟩)] w fun e w' => e = .returned (.bool (odd r0.length l)) ∧ Below w.heap.size w w' := by
  obtain ⟨a, ca, rfl, hca, hra⟩ := h
  obtain ⟨b, off, rfl, a', k', hc⟩ := hx
  have hn' : (0 : Int) < (n : Int) := by omega
  by_cases h0 : l.length = 0
  · have hb : ((l.length : Int) == 0) = true := by rw [beq_iff_eq]; omega
    have hR : odd r0.length l = true := by unfold odd; simp [h0]
    have HR := Lib.hid hR
    clear hR h0
    rw [HR.out]
    go_enter Tryz.func67, Tryz.ntmps67
    go_wp2_with fail
    go_ret
    exact ⟨rfl, Below.refl _ _⟩
  · have hb : ((l.length : Int) == 0) = false := by rw [beq_eq_false_iff_ne]; omega
    have hR : odd r0.length l = ((l.length : Int) != (r0.length : Int)) := by unfold odd; rw [Bool.eq_iff_iff]; simp [h0]; omega
    rw [hR]
    clear hR h0
    go_enter Tryz.func67, Tryz.ntmps67
    go_wp2_with fail
    go_ret
    exact ⟨rfl, Below.refl _ _⟩

theorem refused_any (v : Value) (m : List (List Int)) (w : World) (h : Mx w v m) (hN : m.length ≤ 1099511627776) :
    Calls Tryz.prog 29 #[v] w fun e w' => e = .returned (.int .i64 (refM m)) ∧ Below w.heap.size w w' := by
  obtain ⟨a, ca, rfl, hca, hra⟩ := h
  have hM : Mx w (.slice a m.length ca) m := ⟨a, ca, rfl, hca, hra⟩
  by_cases h12 : 12 < m.length
  · have h12' : (12 : Int) < (m.length : Int) := by omega
    have hR : refM m = 2 := by unfold refM; rw [if_pos (.inl h12)]
    rw [hR]
    clear hR
    go_enter Tryz.func29, Tryz.ntmps29
    go_wp2_with fail
    go_ret
    exact ⟨rfl, below_new _ _⟩
  · have h12' : ¬ (12 : Int) < (m.length : Int) := by omega
    have hC1 := fun W (hW : Below w.heap.size w W) => has2_any (.slice a m.length ca) m 66 #[] big W (enters_of Tryz.func66 (by kernel_rfl) rfl) (hM.up hW) hN (fun i hi W v hb hv => ref1_any v _ W hv)
    by_cases hb : m.any big = true
    · have hR : refM m = 2 := by unfold refM; rw [if_pos (.inr hb)]
      rw [hR]
      rw [hb] at hC1
      clear hR hb
      go_enter Tryz.func29, Tryz.ntmps29
      go_wp2_with (go_at_call 65; refine (hC1 _ (below_new _ _)).mono ?_; rintro e w1 ⟨rfl, hb1⟩)
      go_ret
      exact ⟨rfl, (below_new w _).trans (hb1.mono (by simp))⟩
    · have hC2 := fun W B (hW : Below w.heap.size w W) (hB : W.cell? ⟨B, 0, none⟩ = some (.slice a m.length ca)) => has2_any (.slice a m.length ca) m 67 #[.pointer (some ⟨B, 0, none⟩)] (odd (m.getD 0 []).length) W (enters_of Tryz.func67 (by kernel_rfl) rfl) (hM.up hW) hN
        (fun i hi W' v hb hv => by
          obtain ⟨b, off, rfl, hlt, hc⟩ := (hra.up hW).at hi
          obtain ⟨c, k, c0, c1⟩ := hc 0 (by omega)
          exact ref2_any v _ B _ _ _ (m.getD 0 []) W' hv (keepc hb hB) (by omega) ⟨b, off, rfl, c, k, keepc hb c0⟩)
      have hR : refM m = if m.any (odd (m.getD 0 []).length) = true then 1 else 0 := by unfold refM; rw [if_neg (fun h => h.elim h12 hb)]
      rw [hR]
      rw [Bool.not_eq_true] at hb
      rw [hb] at hC1
      clear hR hb
      generalize odd (m.getD 0 []).length = pp at *
      have tok : True := trivial
      cases hq : m.any pp with
      | true =>
        rw [hq] at hC2
        clear hq
        go_enter Tryz.func29, Tryz.ntmps29
        go_wp2_with fail
        refine (hC1 _ (below_new _ _)).mono ?_
        rintro e w1 ⟨rfl, hb1⟩
        have hd : w1.cell? ⟨w.heap.size, 0, none⟩ = some (.slice a m.length ca) := keepc hb1 (by rw [World.cell?_alloc_at _ _ _ _ rfl]; rfl)
        have hbw := (below_new w (.cells #[.slice a m.length ca] 27)).trans (hb1.mono (by simp))
        clear hb1
        go_wp2_with fail
        refine (hC2 _ _ hbw hd).mono ?_
        rintro e w2 ⟨rfl, hb2⟩
        go_wp2_with fail
        go_ret
        exact ⟨rfl, Bl.up hbw hb2⟩
      | false =>
        rw [hq] at hC2
        clear hq
        go_enter Tryz.func29, Tryz.ntmps29
        go_wp2_with fail
        refine (hC1 _ (below_new _ _)).mono ?_
        rintro e w1 ⟨rfl, hb1⟩
        have hd : w1.cell? ⟨w.heap.size, 0, none⟩ = some (.slice a m.length ca) := keepc hb1 (by rw [World.cell?_alloc_at _ _ _ _ rfl]; rfl)
        have hbw := (below_new w (.cells #[.slice a m.length ca] 27)).trans (hb1.mono (by simp))
        clear hb1
        go_wp2_with fail
        refine (hC2 _ _ hbw hd).mono ?_
        rintro e w2 ⟨rfl, hb2⟩
        go_wp2_with fail
        go_ret
        exact ⟨rfl, Bl.up hbw hb2⟩
theorem refM_cases (m : List (List Int)) : refM m = 0 ∨ refM m = 1 ∨ refM m = 2 := by
  unfold refM; split
  · exact .inr (.inr rfl)
  · split
    · exact .inr (.inl rfl)
    · exact .inl rfl

theorem refusedBy_any (v u : Value) (m : List (List Int)) (l : List Int) (w : World) (h : Mx w v m) (hu : Rw w u l) (hN : m.length ≤ 1099511627776) :
    Calls Tryz.prog 41 #[v, u] w fun e w' => e = .returned (.int .i64 (refBy m l)) ∧ Below w.heap.size w w' := by
  have hC := refused_any v m w h hN
  obtain ⟨b, cb, rfl, hcb, hrb⟩ := hu
  clear hrb
  by_cases h12 : 12 < l.length
  · have h12' : (12 : Int) < (l.length : Int) := by omega
    have hR : refBy m l = 2 := by unfold refBy; rw [if_pos (.inr h12)]
    rw [hR]
    clear hR h12
    rcases refM_cases m with h0 | h0 | h0 <;> rw [h0] at hC <;> clear h0
    all_goals
      go_enter Tryz.func41, Tryz.ntmps41
      go_wp2_with (go_at_call 29; refine hC.mono ?_; rintro e w1 ⟨rfl, hb1⟩)
      go_ret
      exact ⟨rfl, hb1⟩
  · have h12' : ¬ (12 : Int) < (l.length : Int) := by omega
    rcases refM_cases m with h0 | h0 | h0
    · obtain ⟨a, ca, rfl, hca, hra⟩ := h
      rcases Nat.eq_zero_or_pos m.length with hm | hm
      · have hR : refBy m l = 0 := by unfold refBy; rw [if_neg (by rw [h0]; simp; omega), if_neg (by omega)]; exact h0
        rw [hR]
        rw [h0] at hC
        have hm' : ¬ (0 : Int) < (m.length : Int) := by omega
        clear hR h0 hm h12 hra
        go_enter Tryz.func41, Tryz.ntmps41
        go_wp2_with (go_at_call 29; refine hC.mono ?_; rintro e w1 ⟨rfl, hb1⟩)
        go_ret
        exact ⟨rfl, hb1⟩
      · have hm' : (0 : Int) < (m.length : Int) := by omega
        obtain ⟨x, off, rfl, hx, hc⟩ := hra.at hm
        obtain ⟨c, k, c0', c1⟩ := hc 0 hm
        have c0 : w.cell? ⟨x, off, none⟩ = some (.slice c (m.getD 0 []).length k) := c0'
        clear hc c1 hra c0'
        by_cases hl : l.length = (m.getD 0 []).length
        · have hR : refBy m l = 0 := by unfold refBy; rw [if_neg (by rw [h0]; simp; omega), if_neg (by rw [hl]; simp)]; exact h0
          rw [hR]
          rw [h0] at hC
          have hb : ((l.length : Int) != ((m.getD 0 []).length : Int)) = false := by rw [hl]; simp
          generalize (m.getD 0 []).length = n0 at *
          clear hR h0 h12 hl hm
          go_enter Tryz.func41, Tryz.ntmps41
          go_wp2_with (go_at_call 29; refine hC.mono ?_; rintro e w1 ⟨rfl, hb1⟩; have c2 := keepc hb1 c0)
          go_ret
          exact ⟨rfl, hb1⟩
        · have hR : refBy m l = 1 := by unfold refBy; rw [if_neg (by rw [h0]; simp; omega), if_pos ⟨h0, hm, hl⟩]
          rw [hR]
          rw [h0] at hC
          have hb : ((l.length : Int) != ((m.getD 0 []).length : Int)) = true := by rw [bne_iff_ne]; omega
          generalize (m.getD 0 []).length = n0 at *
          clear hR h0 h12 hl hm
          go_enter Tryz.func41, Tryz.ntmps41
          go_wp2_with (go_at_call 29; refine hC.mono ?_; rintro e w1 ⟨rfl, hb1⟩; have c2 := keepc hb1 c0)
          go_ret
          exact ⟨rfl, hb1⟩
    · have hR : refBy m l = 1 := by unfold refBy; rw [if_neg (by rw [h0]; simp; omega), if_neg (by rw [h0]; simp)]; exact h0
      rw [hR]
      rw [h0] at hC
      clear hR h0 h12
      go_enter Tryz.func41, Tryz.ntmps41
      go_wp2_with (go_at_call 29; refine hC.mono ?_; rintro e w1 ⟨rfl, hb1⟩)
      go_ret
      exact ⟨rfl, hb1⟩
    · have hR : refBy m l = 2 := by unfold refBy; rw [if_pos (.inl h0)]
      rw [hR]
      rw [h0] at hC
      clear hR h0 h12
      go_enter Tryz.func41, Tryz.ntmps41
      go_wp2_with (go_at_call 29; refine hC.mono ?_; rintro e w1 ⟨rfl, hb1⟩)
      go_ret
      exact ⟨rfl, hb1⟩
end Go.Proofs.YtdbpkoddfcdhdaaGreat

namespace Go.Proofs.YtdbpkoddfcdhdaaGreat
open Go.RowKit
attribute [local go_sem ↓] Go.wp_at_zero Go.wp_at_succ

theorem refM_nil : refM [] = 0 := by decide

theorem getD_mem {m : List (List Int)} {r : List Int} (h : r ∈ m) : ∃ i, i < m.length ∧ m.getD i [] = r := by
  obtain ⟨i, hi, e⟩ := List.mem_iff_getElem.1 h
  exact ⟨i, hi, by simp [List.getD_eq_getElem?_getD, hi, e]⟩

theorem refM_shape {R N : Nat} {m : List (List Int)} (h : Shape R N m) (hR : R ≤ 12) (hN0 : 0 < N) (hN : N ≤ 12) : refM m = 0 := by
  obtain ⟨h1, h2⟩ := h
  unfold refM
  rw [if_neg, if_neg]
  · intro hh
    obtain ⟨r, hr, hb⟩ := List.any_eq_true.1 hh
    obtain ⟨i, hi, rfl⟩ := getD_mem hr
    unfold odd at hb
    have e1 := h2 i (by omega)
    have e2 := h2 0 (by omega)
    simp only [decide_eq_true_eq] at hb
    omega
  · rintro (hh | hh)
    · omega
    · obtain ⟨r, hr, hb⟩ := List.any_eq_true.1 hh
      obtain ⟨i, hi, rfl⟩ := getD_mem hr
      unfold big at hb
      have e1 := h2 i (by omega)
      simp only [decide_eq_true_eq] at hb
      omega

/-- An error other than 0 is passed on. -/
theorem Hermite_bad (v : Value) (m : List (List Int)) (w : World) (h : Mx w v m) (hN : m.length ≤ 1099511627776) (hr : refM m ≠ 0) :
    Calls Tryz.prog 25 #[v] w fun e w' => e = .returned (.tuple #[.slice none 0 0, .int .i64 (refM m)]) ∧ Below w.heap.size w w' := by
  have hC := refused_any v m w h hN
  rcases refM_cases m with h0 | h0 | h0
  · exact absurd h0 hr
  all_goals
    rw [h0] at hC ⊢
    clear hr h0
    go_enter Tryz.func25, Tryz.ntmps25
    go_wp2_with (go_at_call 29; refine hC.mono ?_; rintro e w1 ⟨rfl, hb1⟩)
    go_ret2
    exact ⟨rfl, hb1⟩

theorem Rank_bad (v : Value) (m : List (List Int)) (w : World) (h : Mx w v m) (hN : m.length ≤ 1099511627776) (hr : refM m ≠ 0) :
    Calls Tryz.prog 10 #[v] w fun e w' => e = .returned (.tuple #[.int .i64 0, .int .i64 (refM m)]) ∧ Below w.heap.size w w' := by
  have hC := refused_any v m w h hN
  rcases refM_cases m with h0 | h0 | h0
  · exact absurd h0 hr
  all_goals
    rw [h0] at hC ⊢
    clear hr h0
    go_enter Tryz.func10, Tryz.ntmps10
    go_wp2_with (go_at_call 29; refine hC.mono ?_; rintro e w1 ⟨rfl, hb1⟩)
    go_ret2
    exact ⟨rfl, hb1⟩

theorem hermite_nil (v : Value) (w : World) (h : Mx w v []) :
    Calls Tryz.prog 30 #[v] w fun e w' => e = .returned (.slice none 0 0) ∧ w = w' := by
  obtain ⟨a, ca, rfl, hca, hra⟩ := h
  clear hra hca
  rw [show (([] : List (List Int)).length) = 0 from rfl]
  go_enter Tryz.func30, Tryz.ntmps30
  go_wp2_with fail
  go_ret
  exact ⟨rfl, rfl⟩

theorem Hermite_nil (v : Value) (w : World) (h : Mx w v []) :
    Calls Tryz.prog 25 #[v] w fun e w' => e = .returned (.tuple #[.slice none 0 0, .int .i64 0]) ∧ Below w.heap.size w w' := by
  have hC := refused_any v [] w h (by decide)
  have hH := fun W (hW : Below w.heap.size w W) => hermite_nil v W (h.up hW)
  rw [refM_nil] at hC
  go_enter Tryz.func25, Tryz.ntmps25
  go_wp2_with fail
  refine hC.mono ?_
  rintro e w1 ⟨rfl, hb1⟩
  go_wp2_with fail
  refine (hH _ hb1).mono ?_
  rintro e w2 ⟨rfl, rfl⟩
  go_wp2_with fail
  go_ret2
  exact ⟨rfl, hb1⟩

theorem Rank_nil (v : Value) (w : World) (h : Mx w v []) :
    Calls Tryz.prog 10 #[v] w fun e w' => e = .returned (.tuple #[.int .i64 0, .int .i64 0]) ∧ Below w.heap.size w w' := by
  have hC := refused_any v [] w h (by decide)
  have hH := fun W (hW : Below w.heap.size w W) => hermite_nil v W (h.up hW)
  rw [refM_nil] at hC
  go_enter Tryz.func10, Tryz.ntmps10
  go_wp2_with fail
  refine hC.mono ?_
  rintro e w1 ⟨rfl, hb1⟩
  go_wp2_with fail
  refine (hH _ hb1).mono ?_
  rintro e w2 ⟨rfl, rfl⟩
  go_wp2_with fail
  go_ret2
  exact ⟨rfl, hb1⟩

theorem Hermite_ok {R N : Nat} {P1 : Nat → Nat → List (List Int) → Prop} {P2 P3 : Nat → Nat → Nat → List (List Int) → Prop} (pl : Plan R N N P1 P2 P3) (v : Value) (m : List (List Int)) (w : World)
    (h : Mx w v m) (h0 : P1 0 0 m) (hR0 : 0 < R) (hR : R ≤ 12) (hN0 : 0 < N) (hN : N ≤ 12) :
    Calls Tryz.prog 25 #[v] w fun e w' => ∃ (v' : Value) (row col : Nat) (m' : List (List Int)), e = .returned (.tuple #[v', .int .i64 0]) ∧ P1 row col m' ∧ (col = N ∨ row = R) ∧ row ≤ R ∧ Mx w' v' (m'.take row) ∧ Below w.heap.size w w' := by
  have hs := pl.s1 h0
  have hC := refused_any v m w h (by rw [hs.1]; omega)
  rw [refM_shape hs hR hN0 hN] at hC
  have hH := fun W (hW : Below w.heap.size w W) => hermite_any pl v m W (h.up hW) h0 hR0 (by omega) (by omega)
  go_enter Tryz.func25, Tryz.ntmps25
  go_wp2_with fail
  refine hC.mono ?_
  rintro e w1 ⟨rfl, hb1⟩
  go_wp2_with fail
  refine (hH _ hb1).mono ?_
  rintro e w2 ⟨v', row, col, m', rfl, hP, hrc, hrow, hM, hb2⟩
  go_wp2_with fail
  go_ret2
  exact ⟨v', row, col, m', rfl, hP, hrc, hrow, hM, Bl.up hb1 hb2⟩

theorem Rank_ok {R N : Nat} {P1 : Nat → Nat → List (List Int) → Prop} {P2 P3 : Nat → Nat → Nat → List (List Int) → Prop} (pl : Plan R N N P1 P2 P3) (v : Value) (m : List (List Int)) (w : World)
    (h : Mx w v m) (h0 : P1 0 0 m) (hR0 : 0 < R) (hR : R ≤ 12) (hN0 : 0 < N) (hN : N ≤ 12) :
    Calls Tryz.prog 10 #[v] w fun e w' => ∃ (row col : Nat) (m' : List (List Int)), e = .returned (.tuple #[.int .i64 (row : Int), .int .i64 0]) ∧ P1 row col m' ∧ (col = N ∨ row = R) ∧ row ≤ R ∧ Below w.heap.size w w' := by
  have hs := pl.s1 h0
  have hC := refused_any v m w h (by rw [hs.1]; omega)
  rw [refM_shape hs hR hN0 hN] at hC
  have hH := fun W (hW : Below w.heap.size w W) => hermite_any pl v m W (h.up hW) h0 hR0 (by omega) (by omega)
  go_enter Tryz.func10, Tryz.ntmps10
  go_wp2_with fail
  refine hC.mono ?_
  rintro e w1 ⟨rfl, hb1⟩
  go_wp2_with fail
  refine (hH _ hb1).mono ?_
  rintro e w2 ⟨v', row, col, m', rfl, hP, hrc, hrow, hM, hb2⟩
  obtain ⟨a, ca, rfl, -, -⟩ := hM
  have hl : (m'.take row).length = row := by rw [List.length_take, (pl.s1 hP).1, Nat.min_eq_left hrow]
  rw [hl]
  clear hl
  go_wp2_with fail
  go_ret2
  exact ⟨row, col, m', rfl, hP, hrc, hrow, Bl.up hb1 hb2⟩
end Go.Proofs.YtdbpkoddfcdhdaaGreat

namespace Go.Proofs.YtdbpkoddfcdhdaaGreat
open Go.RowKit

theorem Below.of_grown {w w' : World} {base : Nat} {row : Option Nat} (hg : w.grownBy w' row) (hbase : base ≤ w.heap.size) (hr : ∀ k, row = some k → base ≤ k) : Below base w w' :=
  (Below.refl _ _).grown hg hbase hr

/-- v is a row of the call's own (from block base on): the integers l, which lay in w0 already. -/
def Ar (w0 w : World) (base : Nat) (v : Value) (l : List Int) : Prop :=
  ∃ xs, w.ownsRow base 56 2 v l.length xs ∧ ∀ i, i < l.length → ∃ s c n k, xs[i * 2]? = some (.bool s) ∧ xs[i * 2 + 1]? = some (.slice c n k) ∧ It w0 (.agg #[.bool s, .slice c n k]) (l.getD i 0)

theorem Ar.nil (w0 w : World) (base : Nat) : Ar w0 w base (.slice none 0 0) [] := ⟨[], World.ownsRow_nil _ _ _ _, fun i hi => absurd hi (Nat.not_lt_zero i)⟩

theorem Ar.keep {w0 w w' : World} {base : Nat} {v : Value} {l : List Int} (h : Ar w0 w base v l) (hb : Below w.heap.size w w') : Ar w0 w' base v l := by
  obtain ⟨xs, h1, h2⟩ := h
  refine ⟨xs, h1.kept (row := none) ⟨hb.os, hb.tape, hb.output, hb.size, fun k hk _ => hb.block k hk⟩ ?_, h2⟩
  cases hv : v.ownBlock with
  | none => exact .inl rfl
  | some k => exact .inr (by simp)
theorem Ar.alloc {w0 w : World} {base : Nat} {v : Value} {l : List Int} (h : Ar w0 w base v l) (o : Obj) : Ar w0 (w.alloc o) base v l := h.keep (below_new _ _)
theorem Ar.drew {w0 w : World} {base : Nat} {v : Value} {l : List Int} (h : Ar w0 w base v l) : Ar w0 w.drew base v l := h
theorem Ar.far {w0 w : World} {base : Nat} {v : Value} {l : List Int} (h : Ar w0 w base v l) {a : Addr} (ha : a.block < base) (u : Value) : Ar w0 (w.setCell a u) base v l := by
  obtain ⟨xs, h1, h2⟩ := h
  exact ⟨xs, ownsRow_setCell_below h1 ha u, h2⟩

theorem Ar.form {w0 w : World} {base : Nat} {v : Value} {l : List Int} (h : Ar w0 w base v l) : (v = .slice none 0 0 ∧ l = []) ∨ ∃ g cap, v = .slice (some ⟨g, 0, none⟩) l.length cap ∧ base ≤ g ∧ g < w.heap.size ∧ l.length ≤ cap := by
  obtain ⟨xs, ⟨h0, h1⟩, h2⟩ := h
  rcases h1 with ⟨h3, h4⟩ | ⟨g, cap, cur, h3, h4, h5, h6, -⟩
  · exact .inl ⟨h3, List.eq_nil_of_length_eq_zero h4⟩
  · exact .inr ⟨g, cap, h3, h4, (Array.getElem?_eq_some_iff.1 h5).1, h6⟩

theorem Ar.rw {w0 w : World} {base : Nat} {v : Value} {l : List Int} (h : Ar w0 w base v l) (hb : Below w0.heap.size w0 w) : Rw w v l := by
  obtain ⟨xs, h1, h2⟩ := h
  have hx := h1.1
  rcases h1.2 with ⟨rfl, h0⟩ | ⟨g, cap, cur, rfl, h3, h4, h5, -⟩
  · have : l = [] := List.eq_nil_of_length_eq_zero h0
    subst this
    exact ⟨none, 0, rfl, Nat.le_refl _, .inl rfl⟩
  · refine ⟨_, cap, rfl, h5, .inr ⟨g, 0, rfl, (Array.getElem?_eq_some_iff.1 h4).1, fun i hi => ?_⟩⟩
    obtain ⟨s, c, n, k, c0, c1, c2⟩ := h2 i hi
    have e0 := h1.cellAt (i * 2) (by omega)
    have e1 := h1.cellAt (i * 2 + 1) (by omega)
    exact ⟨s, c, n, k, by rw [Nat.zero_add, e0]; exact c0, by rw [Nat.zero_add, e1]; exact c1, c2.up hb⟩

theorem run_appI {w0 w : World} {base : Nat} {v : Value} {l : List Int} (t ty : TypeId) (ht : Tryz.prog.underlying t = some (.slice 56)) (h : Ar w0 w base v l) (hbase : base ≤ w.heap.size) {B T c1 : Nat} {fr : Nat × Nat} {s : Bool} {c : Option Addr} {n k : Nat} {x : Int}
    (hB : w.heap[B]? = some (.cells #[.bool s, .slice c n k] T fr)) (hx : It w0 (.agg #[.bool s, .slice c n k]) x) (hl : l.length ≤ 1099511627776) :
    ∃ g cap w', (Builtin.append_ #[t, t] ty #[v, .slice (some ⟨B, 0, none⟩) 1 c1]).run Tryz.prog w = .ok (.slice (some ⟨g, 0, none⟩) (l.length + 1) cap) w' ∧
      Ar w0 w' base (.slice (some ⟨g, 0, none⟩) (l.length + 1) cap) (l ++ [x]) ∧ Below base w w' := by
  obtain ⟨i0, hi, hz0, hz1, hz2⟩ := info_parts infoI
  obtain ⟨xs, h1, h2⟩ := h
  have hlt := h1.lt
  obtain ⟨g, cap, w', hr, k1, k2, k3, k4⟩ := run_append_lies (P := Tryz.prog) w t ty base 56 i0 _ 2 32 ht hi hz0 hz1 hz2 rfl (by omega) v l.length xs h1 ⟨B, 0, none⟩ 1 c1 [.bool s, .slice c n k] rfl
    (World.news_of_block hB) (by simp [Value.oneCell']) (by omega) (by unfold maxLen; omega) (by omega) hbase _ rfl
  refine ⟨g, cap, w', hr, ⟨xs ++ [.bool s, .slice c n k], by simpa using k1, fun i hi => ?_⟩, Below.of_grown k2 hbase (fun k hk => (hlt k hk).1)⟩
  have hxl := h1.1
  simp only [List.length_append, List.length_cons, List.length_nil] at hi
  by_cases e : i < l.length
  · obtain ⟨s', c', n', k', c0, c1, c2⟩ := h2 i e
    refine ⟨s', c', n', k', by rw [List.getElem?_append_left (by omega)]; exact c0, by rw [List.getElem?_append_left (by omega)]; exact c1, ?_⟩
    simp only [List.getD_eq_getElem?_getD, List.getElem?_append_left e] at c2 ⊢
    exact c2
  · have : i = l.length := by omega
    subst this
    refine ⟨s, c, n, k, by rw [List.getElem?_append_right (by omega)]; simp [hxl], by rw [List.getElem?_append_right (by omega)]; simp [hxl, show l.length * 2 + 1 - l.length * 2 = 1 by omega], ?_⟩
    simpa [List.getD_eq_getElem?_getD] using hx

theorem step_appI {ops : Array Oper} {o : Oper} {a : Act} {K : Act → World → Prop} {Q : Exit → Act → World → Prop} {E : Prop} {w0 w : World} (hgd : o.guard = none) (su sx : Operand) (t : TypeId)
    (ho : o.op = .call { callee := .builtin .append, args := #[su, sx], argTypes := #[t, t] }) (ht : Tryz.prog.underlying t = some (.slice 56)) (base : Nat) (v : Value) (l : List Int) (hs : a.eval su = v) (h : Ar w0 w base v l) (hbase : base ≤ w.heap.size)
    (B T c1 : Nat) (fr : Nat × Nat) (s : Bool) (c : Option Addr) (n k : Nat) (x : Int) (hxv : a.eval sx = .slice (some ⟨B, 0, none⟩) 1 c1)
    (hB : w.heap[B]? = some (.cells #[.bool s, .slice c n k] T fr)) (hx : It w0 (.agg #[.bool s, .slice c n k]) x) (hl : l.length ≤ 1099511627776)
    (hK : ∀ g cap w', Ar w0 w' base (.slice (some ⟨g, 0, none⟩) (l.length + 1) cap) (l ++ [x]) → Below base w w' → K (a.put o.dst (.slice (some ⟨g, 0, none⟩) (l.length + 1) cap)) w') :
    if Region.wanted o (yielded ops a.tmps) = true then Oper.wp Tryz.prog o a w K Q else E := by
  have hw : Region.wanted o (yielded ops a.tmps) = true := by simp [Region.wanted, hgd]
  rw [if_pos hw]
  obtain ⟨g, cap, w', hr, h2, h3⟩ := run_appI t o.type ht h hbase (c1 := c1) hB hx hl
  unfold Oper.wp execOp
  simp only [ho, resolve, invoke, builtin, Sem.run_bind, Sem.run_pure, Result.andThen_ok, List.map_toArray, List.map_cons, List.map_nil, hs, hxv, hr]
  exact hK g cap w' h2 h3

theorem wpl_appI {ops : Array Oper} {rest : List Oper} {o : Oper} {a : Act} {Q : Exit → Act → World → Prop} {w0 w : World} (hgd : o.guard = none) (su sx : Operand) (t : TypeId)
    (ho : o.op = .call { callee := .builtin .append, args := #[su, sx], argTypes := #[t, t] }) (ht : Tryz.prog.underlying t = some (.slice 56)) (base : Nat) (v : Value) (l : List Int) (hs : a.eval su = v) (h : Ar w0 w base v l) (hbase : base ≤ w.heap.size)
    (B T c1 : Nat) (fr : Nat × Nat) (s : Bool) (c : Option Addr) (n k : Nat) (x : Int) (hxv : a.eval sx = .slice (some ⟨B, 0, none⟩) 1 c1)
    (hB : w.heap[B]? = some (.cells #[.bool s, .slice c n k] T fr)) (hx : It w0 (.agg #[.bool s, .slice c n k]) x) (hl : l.length ≤ 1099511627776)
    (hK : ∀ g cap w', Ar w0 w' base (.slice (some ⟨g, 0, none⟩) (l.length + 1) cap) (l ++ [x]) → Below base w w' → wpList Tryz.prog ops Q rest (a.put o.dst (.slice (some ⟨g, 0, none⟩) (l.length + 1) cap)) w') :
    wpList Tryz.prog ops Q (o :: rest) a w := by
  refine wpList_plain hgd fun K hK' => ?_
  obtain ⟨g, cap, w', hr, h2, h3⟩ := run_appI t o.type ht h hbase (c1 := c1) hB hx hl
  unfold Oper.wp execOp
  simp only [ho, resolve, invoke, builtin, Sem.run_bind, Sem.run_pure, Result.andThen_ok, List.map_toArray, List.map_cons, List.map_nil, hs, hxv, hr]
  exact hK' _ _ (hK g cap w' h2 h3)
end Go.Proofs.YtdbpkoddfcdhdaaGreat

namespace Go.Proofs.YtdbpkoddfcdhdaaGreat
open Go.RowKit
attribute [local go_sem ↓] Go.wp_at_zero Go.wp_at_succ

/-- v is a slice of rows of the call's own (from block base on), which lay in w0 already. -/
def Am (w0 w : World) (base : Nat) (v : Value) (m : List (List Int)) : Prop :=
  ∃ xs, w.ownsRow base 36 1 v m.length xs ∧ ∀ i, i < m.length → ∃ c k, xs[i]? = some (.slice c (m.getD i []).length k) ∧ Rw w0 (.slice c (m.getD i []).length k) (m.getD i [])

theorem Am.nil (w0 w : World) (base : Nat) : Am w0 w base (.slice none 0 0) [] := ⟨[], World.ownsRow_nil _ _ _ _, fun i hi => absurd hi (Nat.not_lt_zero i)⟩

theorem Am.keep {w0 w w' : World} {base : Nat} {v : Value} {m : List (List Int)} (h : Am w0 w base v m) (hb : Below w.heap.size w w') : Am w0 w' base v m := by
  obtain ⟨xs, h1, h2⟩ := h
  refine ⟨xs, h1.kept (row := none) ⟨hb.os, hb.tape, hb.output, hb.size, fun k hk _ => hb.block k hk⟩ ?_, h2⟩
  cases hv : v.ownBlock with
  | none => exact .inl rfl
  | some k => exact .inr (by simp)
theorem Am.alloc {w0 w : World} {base : Nat} {v : Value} {m : List (List Int)} (h : Am w0 w base v m) (o : Obj) : Am w0 (w.alloc o) base v m := h.keep (below_new _ _)

theorem Am.mx {w0 w : World} {base : Nat} {v : Value} {m : List (List Int)} (h : Am w0 w base v m) (hb : Below w0.heap.size w0 w) : Mx w v m := by
  obtain ⟨xs, h1, h2⟩ := h
  rcases h1.2 with ⟨rfl, h0⟩ | ⟨g, cap, cur, rfl, h3, h4, h5, -⟩
  · have : m = [] := List.eq_nil_of_length_eq_zero h0
    subst this
    exact ⟨none, 0, rfl, Nat.le_refl _, .inl rfl⟩
  · refine ⟨_, cap, rfl, h5, .inr ⟨g, 0, rfl, (Array.getElem?_eq_some_iff.1 h4).1, fun i hi => ?_⟩⟩
    obtain ⟨c, k, c0, c1⟩ := h2 i hi
    have e0 := h1.cellAt i (by omega)
    exact ⟨c, k, by rw [Nat.zero_add, e0]; exact c0, c1.up hb⟩

theorem run_appR {w0 w : World} {base : Nat} {v : Value} {m : List (List Int)} (t ty : TypeId) (ht : Tryz.prog.underlying t = some (.slice 36)) (h : Am w0 w base v m) (hbase : base ≤ w.heap.size) {B T c1 : Nat} {fr : Nat × Nat} {c : Option Addr} {k : Nat} {x : List Int}
    (hB : w.heap[B]? = some (.cells #[.slice c x.length k] T fr)) (hx : Rw w0 (.slice c x.length k) x) (hl : m.length ≤ 1099511627776) :
    ∃ g cap w', (Builtin.append_ #[t, t] ty #[v, .slice (some ⟨B, 0, none⟩) 1 c1]).run Tryz.prog w = .ok (.slice (some ⟨g, 0, none⟩) (m.length + 1) cap) w' ∧
      Am w0 w' base (.slice (some ⟨g, 0, none⟩) (m.length + 1) cap) (m ++ [x]) ∧ Below base w w' := by
  obtain ⟨i0, hi, hz0, hz1, hz2⟩ := info_parts infoR
  obtain ⟨xs, h1, h2⟩ := h
  have hlt := h1.lt
  obtain ⟨g, cap, w', hr, k1, k2, k3, k4⟩ := run_append_lies (P := Tryz.prog) w t ty base 36 i0 _ 1 24 ht hi hz0 hz1 hz2 rfl (by omega) v m.length xs h1 ⟨B, 0, none⟩ 1 c1 [.slice c x.length k] rfl
    (World.news_of_block hB) (by simp [Value.oneCell']) (by omega) (by unfold maxLen; omega) (by omega) hbase _ rfl
  refine ⟨g, cap, w', hr, ⟨xs ++ [.slice c x.length k], by simpa using k1, fun i hi => ?_⟩, Below.of_grown k2 hbase (fun k hk => (hlt k hk).1)⟩
  have hxl := h1.1
  simp only [List.length_append, List.length_cons, List.length_nil] at hi
  by_cases e : i < m.length
  · obtain ⟨c', k', c0, c1⟩ := h2 i e
    have eg : (m ++ [x]).getD i [] = m.getD i [] := by simp only [List.getD_eq_getElem?_getD, List.getElem?_append_left e]
    rw [eg]
    exact ⟨c', k', by rw [List.getElem?_append_left (by omega)]; exact c0, c1⟩
  · have : i = m.length := by omega
    subst this
    have eg : (m ++ [x]).getD m.length [] = x := by simp [List.getD_eq_getElem?_getD]
    rw [eg]
    exact ⟨c, k, by rw [List.getElem?_append_right (by omega)]; simp [hxl], hx⟩

theorem wpl_appR {ops : Array Oper} {rest : List Oper} {o : Oper} {a : Act} {Q : Exit → Act → World → Prop} {w0 w : World} (hgd : o.guard = none) (su sx : Operand) (t : TypeId)
    (ho : o.op = .call { callee := .builtin .append, args := #[su, sx], argTypes := #[t, t] }) (ht : Tryz.prog.underlying t = some (.slice 36)) (base : Nat) (v : Value) (m : List (List Int)) (hs : a.eval su = v) (h : Am w0 w base v m) (hbase : base ≤ w.heap.size)
    (B T c1 : Nat) (fr : Nat × Nat) (c : Option Addr) (n k : Nat) (x : List Int) (hn : x.length = n) (hxv : a.eval sx = .slice (some ⟨B, 0, none⟩) 1 c1)
    (hB : w.heap[B]? = some (.cells #[.slice c n k] T fr)) (hx : Rw w0 (.slice c n k) x) (hl : m.length ≤ 1099511627776)
    (hK : ∀ g cap w', Am w0 w' base (.slice (some ⟨g, 0, none⟩) (m.length + 1) cap) (m ++ [x]) → Below base w w' → wpList Tryz.prog ops Q rest (a.put o.dst (.slice (some ⟨g, 0, none⟩) (m.length + 1) cap)) w') :
    wpList Tryz.prog ops Q (o :: rest) a w := by
  subst hn
  refine wpList_plain hgd fun K hK' => ?_
  obtain ⟨g, cap, w', hr, h2, h3⟩ := run_appR t o.type ht h hbase (c1 := c1) hB hx hl
  unfold Oper.wp execOp
  simp only [ho, resolve, invoke, builtin, Sem.run_bind, Sem.run_pure, Result.andThen_ok, List.map_toArray, List.map_cons, List.map_nil, hs, hxv, hr]
  exact hK' _ _ (hK g cap w' h2 h3)

/-- The first n integers of a row; those behind them. -/
theorem Rw.pre {w : World} {a : Option Addr} {N cap n : Nat} {r : List Int} (h : Rw w (.slice a N cap) r) (hn : n ≤ N) : Rw w (.slice a n cap) (r.take n) := by
  obtain ⟨_, _, e, h1, h2⟩ := h
  injection e with e1 e2 e3
  subst e1 e3
  refine ⟨_, _, by rw [List.length_take, ← e2, Nat.min_eq_left hn], by rw [List.length_take]; omega, h2.front n⟩

theorem Rw.suf {w : World} {b off N cap n : Nat} {r : List Int} (h : Rw w (.slice (some ⟨b, off, none⟩) N cap) r) (hn : n < N) : Rw w (.slice (some ⟨b, off + n * 2, none⟩) (N - n) (cap - n)) (r.drop n) := by
  obtain ⟨_, _, e, h1, h2⟩ := h
  injection e with e1 e2 e3
  subst e1 e3
  refine ⟨_, _, by rw [List.length_drop, ← e2], by rw [List.length_drop]; omega, ?_⟩
  rcases h2 with rfl | ⟨b', off', e1, hb, hc⟩
  · simp at e2; omega
  · injection e1 with e1
    injection e1 with e1 e1'
    subst e1 e1'
    refine .inr ⟨b, off + n * 2, rfl, hb, fun i hi => ?_⟩
    rw [List.length_drop] at hi
    obtain ⟨s, c, n', k, c0, c1, c2⟩ := hc (n + i) (by omega)
    refine ⟨s, c, n', k, ?_, ?_, ?_⟩
    · rw [show off + n * 2 + i * 2 = off + (n + i) * 2 by omega]; exact c0
    · rw [show off + n * 2 + i * 2 + 1 = off + (n + i) * 2 + 1 by omega]; exact c1
    · simp only [List.getD_eq_getElem?_getD, List.getElem?_drop] at c2 ⊢; exact c2

/-- The rows whose first n integers are 0: what is behind. -/
def kerL (n : Nat) (A : List (List Int)) : List (List Int) := (A.filter fun r => !(r.take n).any nz).map (List.drop n)

theorem kerL_take (n : Nat) (A : List (List Int)) (i : Nat) (h : i < A.length) :
    kerL n (A.take (i + 1)) = if ((A.getD i []).take n).any nz = true then kerL n (A.take i) else kerL n (A.take i) ++ [(A.getD i []).drop n] := by
  unfold kerL
  rw [List.take_succ_eq_append_getElem h, List.filter_append, List.map_append]
  have e : A.getD i [] = A[i] := by simp [List.getD_eq_getElem?_getD, h]
  rw [e]
  cases hc : (A[i].take n).any nz <;> simp [List.filter_cons, hc]

theorem kerL_length (n : Nat) (A : List (List Int)) : (kerL n A).length ≤ A.length := by
  unfold kerL; rw [List.length_map]; exact List.length_filter_le _ _

set_option maxRecDepth 100000 in
set_option maxHeartbeats 2000000 in
theorem Kernel_ok {R n : Nat} {P1 : Nat → Nat → List (List Int) → Prop} {P2 P3 : Nat → Nat → Nat → List (List Int) → Prop} (pl : Plan R (n + R) (n + R) P1 P2 P3) (v : Value) (m : List (List Int)) (w : World)
    (h : Mx w v m) (hs : Shape R n m) (h0 : P1 0 0 (unitM m n R)) (hR0 : 0 < R) (hR : R ≤ 12) (hN0 : 0 < n) (hN : n ≤ 12) :
    Calls Tryz.prog 26 #[v] w fun e w' => ∃ (v' : Value) (row col : Nat) (A : List (List Int)), e = .returned (.tuple #[v', .int .i64 0]) ∧ P1 row col A ∧ (col = n + R ∨ row = R) ∧ row ≤ R ∧ Mx w' v' (kerL n A) ∧ Below w.heap.size w w' := by
  have hC := refused_any v m w h (by rw [hs.1]; omega)
  rw [refM_shape hs hR hN0 hN] at hC
  have hH := fun W (hW : Below w.heap.size w W) => tracked_any pl v m W (h.up hW) hs h0 hR0 (by omega) (by omega)
  obtain ⟨_, _, _, _, _, rfl, -⟩ := h.len0 hs hR0
  have hb0 : ((R : Int) == 0) = false := by rw [beq_eq_false_iff_ne]; omega
  go_enter Tryz.func26, Tryz.ntmps26
  go_wp2_with fail
  refine hC.mono ?_
  rintro e w1 ⟨rfl, hb1⟩
  go_wp2_with fail
  refine (hH _ hb1).mono ?_
  rintro e w2 ⟨v', row, col, A, rfl, hP, hrc, hrow, hM, hb2⟩
  have hsA := pl.s1 hP
  obtain ⟨aa, caA, rfl, hcaA, hMi⟩ := hM
  have hbw := Bl.up hb1 hb2
  clear hb1 hb2
  rw [hsA.1]
  go_wp2_with fail
  clear hcaA
  go_loopw [7, 27] (fun s7 s wr => ∃ (i : Nat) (o : List (List Int)) (u : Value), i ≤ R ∧ s = .int .i64 i ∧ o = kerL n (A.take i) ∧ s7 = u ∧ Am w2 wr w2.heap.size u o ∧ Below w2.heap.size w2 wr)
    (fun _ s _ => R - (intOf s).toNat)
  case atStart => exact ⟨0, [], _, Nat.zero_le _, rfl, rfl, rfl, Am.nil _ _ _, Below.refl _ _⟩
  case round =>
    obtain ⟨i, o, u, hi, rfl, ho, rfl, hAm, hbl⟩ := hrel
    have HO := Lib.hid ho
    have hol : o.length ≤ 1099511627776 := by have := kerL_length n (A.take i); rw [← ho, List.length_take] at this; omega
    clear ho
    by_cases hlt : i < R
    · obtain ⟨ba, offa, rfl, hba, hla⟩ := hMi.at (i := i) (by rw [hsA.1]; exact hlt)
      obtain ⟨c1, k1, p0, p1⟩ := hla i (by rw [hsA.1]; exact hlt)
      have hlr := hsA.2 i hlt
      have htk := kerL_take n A i (by rw [hsA.1]; exact hlt)
      rw [hlr] at p0 p1
      clear hla
      obtain ⟨rr, hrr⟩ : ∃ rr, rr = A.getD i [] := ⟨_, rfl⟩
      rw [← hrr] at p1 hlr htk
      clear hrr
      have p1' := p1
      obtain ⟨_, _, e, hk, hri⟩ := p1'
      injection e with e1 e2 e3
      subst e1 e3
      clear e2
      obtain ⟨bb, offb, rfl, hbb, -⟩ := hri.at (i := 0) (by omega)
      clear hri
      replace p0 := keepc hbl p0
      have hpre := (p1.up hbl).pre (n := n) (by omega)
      have hsuf := p1.suf (n := n) (by omega)
      have hzc := fun W (hW : Below wr.heap.size wr W) => zero_any _ (rr.take n) W (hpre.up hW) (by rw [List.length_take]; omega)
      have i0 : (0 : Int) ≤ (n : Int) := by omega
      have i1 : (n : Int) ≤ (k1 : Int) := by omega
      have i2 : ¬ (k1 : Int) < (n : Int) := by omega
      have i3 : (n : Int) ≤ (n : Int) + (R : Int) := by omega
      have i4 : n < k1 := by omega
      have i5 : n < n + R := by omega
      have hln : (rr.drop n).length = R := by rw [List.length_drop, hlr]; omega
      have HLN := Lib.hid hln
      rw [show n + R - n = R by omega] at hsuf
      clear hk hlr hpre hln p1
      cases hz : (rr.take n).any nz with
      | true =>
        rw [hz] at hzc htk
        rw [if_pos rfl] at htk
        have HT := Lib.hid htk
        clear htk hz
        go_wp2_with (go_at_call 42; refine (hzc _ (Below.refl _ _)).mono ?_; rintro e w3 ⟨rfl, hb3⟩)
        go_roundw
        case rel => exact ⟨i + 1, o, _, by omega, by go_num, by rw [HT.out]; exact HO.out, rfl, hAm.keep hb3, hbl.trans (hb3.mono hbl.size)⟩
        case measure => simp [intOf]; omega
      | false =>
        rw [hz] at hzc htk
        rw [if_neg (by decide)] at htk
        have HT := Lib.hid htk
        clear htk hz
        go_upto_region 10 with (go_at_call 42; refine (hzc _ (Below.refl _ _)).mono ?_; rintro e w3 ⟨rfl, hb3⟩)
        have hAm3 := hAm.keep hb3
        have hbl3 := hbl.trans (hb3.mono hbl.size)
        have hsz3 := hbl3.size
        go_wp2_with (at_builtin; go_must (refine wpl_appR rfl (.tmp 35) (.tmp 39) _ rfl Tryz.underlying27 w2.heap.size _ o rfl (hAm3.alloc _) (by simp; omega) w3.heap.size _ _ _ _ R _ (rr.drop n) HLN.out rfl (heap_alloc_new _ _) hsuf hol ?_); intro g cap w4 hAm4 hb4)
        go_roundw
        case rel => exact ⟨i + 1, _, _, by omega, by go_num, by rw [HT.out, ← HO.out], rfl, hAm4, (Bl.alloc hbl3 _).trans hb4⟩
        case measure => simp [intOf]; omega
    · have hin : i = R := by omega
      subst hin
      go_wp2_with fail
      go_ret2
      refine ⟨_, row, col, A, rfl, hP, hrc, hrow, ?_, hbw.trans (hbl.mono hbw.size)⟩
      have := hAm.mx hbl
      rw [HO.out, List.take_of_length_le (by rw [hsA.1]; exact Nat.le_refl _)] at this
      exact this

theorem Kernel_bad (v : Value) (m : List (List Int)) (w : World) (h : Mx w v m) (hN : m.length ≤ 1099511627776) (hr : refM m ≠ 0) :
    Calls Tryz.prog 26 #[v] w fun e w' => e = .returned (.tuple #[.slice none 0 0, .int .i64 (refM m)]) ∧ Below w.heap.size w w' := by
  have hC := refused_any v m w h hN
  rcases refM_cases m with h0 | h0 | h0
  · exact absurd h0 hr
  all_goals
    rw [h0] at hC ⊢
    clear hr h0
    go_enter Tryz.func26, Tryz.ntmps26
    go_wp2_with (go_at_call 29; refine hC.mono ?_; rintro e w1 ⟨rfl, hb1⟩)
    go_ret2
    exact ⟨rfl, hb1⟩

theorem Kernel_nil (v : Value) (w : World) (h : Mx w v []) :
    Calls Tryz.prog 26 #[v] w fun e w' => e = .returned (.tuple #[.slice none 0 0, .int .i64 0]) ∧ Below w.heap.size w w' := by
  have hC := refused_any v [] w h (by decide)
  rw [refM_nil] at hC
  obtain ⟨a, ca, rfl, hca, hra⟩ := h
  clear hra hca
  rw [show (([] : List (List Int)).length) = 0 from rfl] at hC ⊢
  go_enter Tryz.func26, Tryz.ntmps26
  go_wp2_with (go_at_call 29; refine hC.mono ?_; rintro e w1 ⟨rfl, hb1⟩)
  go_ret2
  exact ⟨rfl, hb1⟩
end Go.Proofs.YtdbpkoddfcdhdaaGreat

namespace Go.Proofs.YtdbpkoddfcdhdaaGreat
open Go.RowKit
attribute [local go_sem ↓] Go.wp_at_zero Go.wp_at_succ

/-- What the reduction of a vector by rows asks of an invariant: PS i l: the first i rows have been taken away. -/
structure SPlan (R n : Nat) (A : List (List Int)) (PS : Nat → List Int → Prop) : Prop where
  s : ∀ {i l}, PS i l → l.length = n + R ∧ ∀ k, sz (l.getD k 0) ≤ 137438953472
  step : ∀ {i l} {k : Nat}, PS i l → i < R → idxI nz ((A.getD i []).take n) = (k : Int) → k < n →
    PS (i + 1) (lessR l (l.getD k 0 / (A.getD i []).getD k 0) (A.getD i []))

theorem Solve_bad (v u : Value) (m : List (List Int)) (l : List Int) (w : World) (h : Mx w v m) (hu : Rw w u l) (hN : m.length ≤ 1099511627776) (hr : refBy m l ≠ 0) :
    Calls Tryz.prog 19 #[v, u] w fun e w' => e = .returned (.tuple #[.slice none 0 0, .int .i64 (refBy m l)]) ∧ Below w.heap.size w w' := by
  have hC := refusedBy_any v u m l w h hu hN
  have hcases : refBy m l = 0 ∨ refBy m l = 1 ∨ refBy m l = 2 := by
    unfold refBy; split
    · exact .inr (.inr rfl)
    · split
      · exact .inr (.inl rfl)
      · exact refM_cases m
  rcases hcases with h0 | h0 | h0
  · exact absurd h0 hr
  all_goals
    rw [h0] at hC ⊢
    clear hr h0
    go_enter Tryz.func19, Tryz.ntmps19
    go_wp2_with (go_at_call 41; refine hC.mono ?_; rintro e w1 ⟨rfl, hb1⟩)
    go_ret2
    exact ⟨rfl, hb1⟩

theorem refBy_nil (l : List Int) (hl : l.length ≤ 12) : refBy [] l = 0 := by
  unfold refBy
  rw [if_neg (by rw [refM_nil]; simp; omega), if_neg (by simp)]
  exact refM_nil

theorem Solve_nil (v u : Value) (l : List Int) (w : World) (h : Mx w v []) (hu : Rw w u l) (hl : l.length ≤ 12) :
    Calls Tryz.prog 19 #[v, u] w fun e w' => e = .returned (.tuple #[.slice none 0 0, .int .i64 (if l.any nz then 6 else 0)]) ∧ Below w.heap.size w w' := by
  have hC := refusedBy_any v u [] l w h hu (by decide)
  rw [refBy_nil l hl] at hC
  have hZ := fun W (hW : Below w.heap.size w W) => zero_any u l W (hu.up hW) (by omega)
  obtain ⟨a, ca, rfl, hca, hra⟩ := h
  clear hra hca
  rw [show (([] : List (List Int)).length) = 0 from rfl] at hC ⊢
  cases hz : l.any nz with
  | true =>
    rw [hz] at hZ
    go_enter Tryz.func19, Tryz.ntmps19
    go_wp2_with fail
    refine hC.mono ?_
    rintro e w1 ⟨rfl, hb1⟩
    go_wp2_with fail
    refine (hZ _ hb1).mono ?_
    rintro e w2 ⟨rfl, hb2⟩
    go_wp2_with fail
    go_ret2
    exact ⟨rfl, Bl.up hb1 hb2⟩
  | false =>
    rw [hz] at hZ
    go_enter Tryz.func19, Tryz.ntmps19
    go_wp2_with fail
    refine hC.mono ?_
    rintro e w1 ⟨rfl, hb1⟩
    go_wp2_with fail
    refine (hZ _ hb1).mono ?_
    rintro e w2 ⟨rfl, hb2⟩
    go_wp2_with fail
    go_ret2
    exact ⟨rfl, Bl.up hb1 hb2⟩

theorem refBy_ok {R n : Nat} {m : List (List Int)} {l : List Int} (hs : Shape R n m) (hl : l.length = n) (hR0 : 0 < R) (hR : R ≤ 12) (hn0 : 0 < n) (hn : n ≤ 12) : refBy m l = 0 := by
  have hr := refM_shape hs hR hn0 hn
  unfold refBy
  rw [if_neg (by rw [hr]; simp; omega), if_neg (by rw [hs.2 0 hR0]; simp [hl])]
  exact hr

theorem idxI_range {p : Int → Bool} {l : List Int} : idxI p l = -1 ∨ ∃ k : Nat, idxI p l = k ∧ k < l.length ∧ p (l.getD k 0) = true := by
  unfold idxI
  split
  · rename_i h
    refine .inr ⟨_, rfl, h, ?_⟩
    have := List.findIdx_getElem (w := h)
    rw [List.getD_eq_getElem?_getD, List.getElem?_eq_getElem h]
    exact this
  · exact .inl rfl

/-- An integer of a row. -/
theorem Rw.elem {w : World} {b off N cap : Nat} {l : List Int} (h : Rw w (.slice (some ⟨b, off, none⟩) N cap) l) {k : Nat} (hk : k < N) :
    l.length = N ∧ b < w.heap.size ∧ ∃ s c n q, w.cell? ⟨b, off + k * 2, none⟩ = some (.bool s) ∧ w.cell? ⟨b, off + k * 2 + 1, none⟩ = some (.slice c n q) ∧ It w (.agg #[.bool s, .slice c n q]) (l.getD k 0) := by
  obtain ⟨_, _, e, h1, h2⟩ := h
  injection e with e1 e2 e3
  obtain ⟨b', off', e4, hb, hc⟩ := h2.at (i := k) (by omega)
  rw [← e1] at e4
  injection e4 with e4
  injection e4 with e5 e6
  subst e5 e6
  exact ⟨e2.symm, hb, hc k (by omega)⟩

/-- A row that is not empty lies somewhere. -/
theorem Rw.some {w : World} {v : Value} {l : List Int} (h : Rw w v l) (hl : 0 < l.length) : ∃ b off cap, v = .slice (some ⟨b, off, none⟩) l.length cap := by
  obtain ⟨a, cap, rfl, h1, h2⟩ := h
  obtain ⟨b, off, rfl, -⟩ := h2.at (i := 0) hl
  exact ⟨b, off, cap, rfl⟩

set_option maxRecDepth 100000 in
set_option maxHeartbeats 4000000 in
theorem Solve_ok {R n : Nat} {P1 : Nat → Nat → List (List Int) → Prop} {P2 P3 : Nat → Nat → Nat → List (List Int) → Prop} (pl : Plan R (n + R) (n + R) P1 P2 P3) (v u : Value) (m : List (List Int)) (l : List Int) (w : World)
    (h : Mx w v m) (hu : Rw w u l) (hs : Shape R n m) (hl : l.length = n) (h0 : P1 0 0 (unitM m n R)) (hR0 : 0 < R) (hR : R ≤ 12) (hN0 : 0 < n) (hN : n ≤ 12)
    (PS : List (List Int) → Nat → List Int → Prop) (hall : ∀ row col A, P1 row col A → (col = n + R ∨ row = R) → SmallM A ∧ SPlan R n A (PS A) ∧ PS A 0 (l ++ List.replicate R 0)) :
    Calls Tryz.prog 19 #[v, u] w fun e w' => ∃ (row col : Nat) (A : List (List Int)) (i : Nat) (t : List Int), P1 row col A ∧ (col = n + R ∨ row = R) ∧ row ≤ R ∧ PS A i t ∧ i ≤ R ∧ (i = R ∨ idxI nz ((A.getD i []).take n) = -1) ∧ Below w.heap.size w w' ∧
      (((t.take n).any nz = true ∧ e = .returned (.tuple #[.slice none 0 0, .int .i64 6])) ∨ ((t.take n).any nz = false ∧ ∃ v', e = .returned (.tuple #[v', .int .i64 0]) ∧ Rw w' v' (negR (t.drop n)))) := by
  have hC := refusedBy_any v u m l w h hu (by rw [hs.1]; omega)
  rw [refBy_ok hs hl hR0 hR hN0 hN] at hC
  have hH := fun W (hW : Below w.heap.size w W) => tracked_any pl v m W (h.up hW) hs h0 hR0 (by omega) (by omega)
  obtain ⟨_, _, _, _, _, rfl, -⟩ := h.len0 hs hR0
  have hb0 : ((R : Int) == 0) = false := by rw [beq_eq_false_iff_ne]; omega
  have hmk := mk_row ((n : Int) + (R : Int)) (n + R) (by omega) (by omega)
  obtain ⟨au, cu, rfl, hcu, hru⟩ := hu
  have hu' : Rw w (.slice au l.length cu) l := ⟨au, cu, rfl, hcu, hru⟩
  clear hcu hru
  have HLN := Lib.hid hl
  have HALL := Lib.hid hall
  clear hl hall h0
  go_enter Tryz.func19, Tryz.ntmps19
  go_wp2_with fail
  refine hC.mono ?_
  rintro e w1 ⟨rfl, hb1⟩
  go_wp2_with fail
  refine (hH _ hb1).mono ?_
  rintro e w2 ⟨v', row, col, A, rfl, hP, hrc, hrow, hM, hb2⟩
  have hsA := pl.s1 hP
  obtain ⟨hsmA, hsp, hps0⟩ := HALL.out row col A hP hrc
  obtain ⟨aa, caA, rfl, hcaA, hMi⟩ := hM
  have hbw := Bl.up hb1 hb2
  have hu2 := (hu'.up hb1).up hb2
  clear hb1 hb2 hcaA hu'
  rw [hsA.1]
  have hz0 := Ow.zeros w2 (n + R)
  have hle : l.length ≤ (List.replicate (n + R) (0 : Int)).length := by rw [HLN.out]; simp
  go_upto_region 11 with (with_reducible refine wpl_copyR rfl (.tmp 35) (.tmp 36) _ _ rfl Tryz.underlying36 w2.heap.size (n + R) cu au (List.replicate (n + R) 0) l (n + R) (by simp) rfl rfl hz0 (hu2.alloc _) hle ?_; intro w3 ho hk hsz hB; have hb3 := hB _ _ (below_new w2 _) (Nat.le_refl _))
  have hun : l ++ List.drop l.length (List.replicate (n + R) 0) = l ++ List.replicate R 0 := by simp [HLN.out]
  rw [hun] at ho
  clear hun hz0 hle hu2 hk hB
  have hb3' := hb3
  have hbw3 := Bl.up hbw hb3'
  have hrow3 := ho.row (cap := n + R) (by simp [HLN.out])
  have hll : (l ++ List.replicate R (0 : Int)).length = n + R := by simp [HLN.out]
  rw [hll] at hrow3
  clear hll
  replace hMi := hMi.up hb3'
  clear hb3 hb3' ho hsz hbw h hC
  go_upto_block 0 with fail
  go_cut [9] (fun s9 wc => ∃ (i : Nat) (t : List Int) (b off cap : Nat), i ≤ R ∧ (i = R ∨ idxI nz ((A.getD i []).take n) = -1) ∧ s9 = .slice (some ⟨b, off, none⟩) (n + R) cap ∧ Rw wc (.slice (some ⟨b, off, none⟩) (n + R) cap) t ∧ PS A i t ∧ Below w3.heap.size w3 wc)
  case first =>
    go_wp2_with fail
    go_loopw [9, 40] (fun s9 s wr => ∃ (i : Nat) (t : List Int) (b off cap : Nat), i ≤ R ∧ s = .int .i64 i ∧ s9 = .slice (some ⟨b, off, none⟩) (n + R) cap ∧ Rw wr (.slice (some ⟨b, off, none⟩) (n + R) cap) t ∧ PS A i t ∧ Below w3.heap.size w3 wr)
      (fun _ s _ => R - (intOf s).toNat)
    case atStart => exact ⟨0, _, _, _, _, Nat.zero_le _, rfl, rfl, hrow3, hps0, Below.refl _ _⟩
    case round =>
      obtain ⟨i, t, b, off, cap, hi, rfl, rfl, hrw, hps, hbl⟩ := hrel
      by_cases hlt : i < R
      · obtain ⟨ba, offa, rfl, hba, hla⟩ := hMi.at (i := i) (by rw [hsA.1]; exact hlt)
        obtain ⟨c1, k1, p0, p1⟩ := hla i (by rw [hsA.1]; exact hlt)
        have hlr := hsA.2 i hlt
        rw [hlr] at p0 p1
        clear hla
        have hstep := fun k => hsp.step (k := k) hps hlt
        obtain ⟨hlt', hsmt⟩ := hsp.s hps
        have hsmr := hsmA i
        obtain ⟨rr, hrr⟩ : ∃ rr, rr = A.getD i [] := ⟨_, rfl⟩
        rw [← hrr] at p1 hlr
        have p1' := p1
        obtain ⟨_, _, e, hk, hri⟩ := p1'
        injection e with e1 e2 e3
        subst e1 e3
        clear e2
        obtain ⟨bb, offb, rfl, hbb, hcb⟩ := hri.at (i := 0) (by omega)
        clear hri
        replace p0 := keepc hbl p0
        have p1u := p1.up hbl
        have hpre := p1u.pre (n := n) (by omega)
        have hic := idx1_any _ (rr.take n) 45 #[] nz wr (enters_of Tryz.func45 (by kernel_rfl) rfl) hpre (by rw [List.length_take]; omega) (fun j hj W v hb hv => sol1_any v _ W hv)
        have i0 : (0 : Int) ≤ (n : Int) := by omega
        have i1 : (n : Int) ≤ (k1 : Int) := by omega
        have i4 : n ≤ k1 := by omega
        have HRR := Lib.hid hrr
        clear hrr hk hpre
        rcases idxI_range (p := nz) (l := rr.take n) with hz | ⟨k, hz, hkl, -⟩
        · rw [hz] at hic
          have HZ := Lib.hid hz
          clear hz hstep hlr
          go_wp2_with (go_at_call 44; refine hic.mono ?_; rintro e w4 ⟨rfl, hb4⟩)
          go_meet
          case rel => exact ⟨i, t, b, off, cap, hi, .inr (by rw [← HRR.out]; exact HZ.out), rfl, hrw.up hb4, hps, hbl.trans (hb4.mono hbl.size)⟩
        · rw [hz] at hic
          rw [List.length_take, hlr] at hkl
          have hkn : k < n := by omega
          have hst := hstep k (by rw [← HRR.out]; exact hz) hkn
          rw [← HRR.out] at hst
          have HZ := Lib.hid hz
          have hk0 : (0 : Int) ≤ (k : Int) := by omega
          have hk1 : ¬ (k : Int) < 0 := by omega
          have hk2 : (k : Int) < (n : Int) + (R : Int) := by omega
          clear hz hstep hkl
          obtain ⟨-, -, s1, a1, n1, q1, x0, x1, x2⟩ := hrw.elem (k := k) (by omega)
          obtain ⟨-, -, s2, a2, n2, q2, y0, y1, y2⟩ := p1u.elem (k := k) (by omega)
          obtain ⟨hnz, HNZ⟩ : rr.getD k 0 ≠ 0 ∧ True := ⟨by
            rcases idxI_range (p := nz) (l := rr.take n) with hz | ⟨k', hz, hkl, hp⟩
            · rw [HZ.out] at hz; omega
            · rw [HZ.out] at hz
              have : k' = k := by omega
              subst this
              simp only [List.getD_eq_getElem?_getD] at hp ⊢
              rw [List.getElem?_take_of_lt hkn] at hp
              unfold nz at hp
              simpa using hp, trivial⟩
          have hs1 := hsmt k
          have hs2 := hsmr k
          rw [← HRR.out] at hs2
          generalize hx : t.getD k 0 = x at x2 hst hs1
          generalize hy : rr.getD k 0 = y at y2 hst hs2 hnz
          clear hx hy HNZ
          have hsq : sz (x / y) ≤ 274877906944 := Nat.le_trans (sz_mono (natAbs_div_le x _)) (Nat.le_trans hs1 (by decide))
          have HLT := Lib.hid hlt'
          have HLR := Lib.hid hlr
          have hll : t.length ≤ rr.length := by rw [hlt', hlr]; exact Nat.le_refl _
          have hlN : t.length ≤ 1099511627776 := by rw [hlt']; omega
          have HLL := Lib.hid hll
          have HLNN := Lib.hid hlN
          have hsmr' : ∀ k, sz (rr.getD k 0) ≤ 137438953472 := fun k => by rw [HRR.out]; exact hsmr k
          have HSR := Lib.hid hsmr'
          have HST := Lib.hid hsmt
          clear hlt' hlr hll hlN hsmr' hsmt hsmr
          go_upto_region 16 with (go_at_call 44; refine hic.mono ?_; rintro e w4 ⟨rfl, hb4⟩)
          replace x0 := keepc hb4 x0
          replace x1 := keepc hb4 x1
          replace x2 := x2.up hb4
          replace y0 := keepc hb4 y0
          replace y1 := keepc hb4 y1
          replace y2 := y2.up hb4
          replace p1u := p1u.up hb4
          replace hrw := hrw.up hb4
          have hbl4 := hbl.trans (hb4.mono hbl.size)
          clear hb4 hbl hic p0
          go_region_held3 (fun w' => w'.cell? ⟨b, off + k * 2, none⟩ = some (.bool s1) ∧ w'.cell? ⟨b, off + k * 2 + 1, none⟩ = some (.slice a1 n1 q1) ∧ w'.cell? ⟨bb, offb + k * 2, none⟩ = some (.bool s2) ∧ w'.cell? ⟨bb, offb + k * 2 + 1, none⟩ = some (.slice a2 n2 q2))
            ((repeat' (first | with_reducible assumption | (with_reducible refine And.intro ?_ ?_) | (with_reducible refine cellD ?_) | (with_reducible refine cellN ?_ _) | (with_reducible refine cellS ?_ (by omega)) | (with_reducible refine keepc (by with_reducible assumption) ?_))))
            (first
              | (go_at_call 48; with_reducible (refine (floor_any _ _ x y _ (by exact srch) (by exact srch) (by exact hnz) (by exact Nat.le_trans hs1 (by decide)) (by exact Nat.le_trans hs2 (by decide))).mono ?_); rintro e w5 ⟨vq, rfl, hq, hb5⟩; have p1v := p1u.drew.up hb5; have hrv := hrw.drew.up hb5; obtain ⟨s6, a6, n6, c6, rfl⟩ := hq.shape)
              | (go_at_call 47; (with_reducible refine (less_any _ _ _ t rr (x / y) _ hrv p1v hq HLL.out HLNN.out (fun k _ => Nat.le_trans (HST.out k) (by decide)) (fun k _ => Nat.le_trans (HSR.out k) (by decide)) hsq).mono ?_); rintro e w6 ⟨vl, rfl, hl6, hb6⟩; have hl7 : Rw w6 vl (lessR t (x / y) rr) := hl6; have hlen6 : (lessR t (x / y) rr).length = n + R := (by simp [lessR, HLT.out]); obtain ⟨b6, o6, cap6, hv6⟩ := hl7.some (by omega); rw [hlen6] at hv6; subst hv6; clear hl6 hlen6))
          clear x0 x1 x2 y0 y1 y2 hq
          go_wp2_with fail
          go_roundw
          case rel => exact ⟨i + 1, _, b6, o6, cap6, by omega, by go_num, rfl, hl7, hst, Bl.up (Bl.up (Bl.drew hbl4) hb5) hb6⟩
          case measure => simp [intOf]; omega
      · have hin : i = R := by omega
        subst hin
        go_wp2_with fail
        go_meet
        case rel => exact ⟨i, t, b, off, cap, hi, .inl rfl, rfl, hrw, hps, hbl⟩
  case rest =>
    obtain ⟨i, t, b, off, cap, hi, hex, rfl, hrw, hps, hbl⟩ := hcut
    have hbf := hbw3.trans (hbl.mono hbw3.size)
    obtain ⟨hlt', hsmt⟩ := hsp.s hps
    have HLT := Lib.hid hlt'
    have hcapn : n + R ≤ cap := by
      obtain ⟨_, _, e, h1, h2⟩ := hrw
      injection e with e1 e2 e3
      omega
    have i0 : (0 : Int) ≤ (n : Int) := by omega
    have i1 : (n : Int) ≤ (cap : Int) := by omega
    have i3 : (n : Int) ≤ (n : Int) + (R : Int) := by omega
    have i4 : n < cap := by omega
    have hpre := hrw.pre (n := n) (by omega)
    have hsuf := hrw.suf (n := n) (by omega)
    rw [show n + R - n = R by omega] at hsuf
    have hzc := zero_any _ (t.take n) wc hpre (by rw [List.length_take]; omega)
    clear hpre hrow3 hcapn
    cases hz : (t.take n).any nz with
    | true =>
      rw [hz] at hzc
      have HZ := Lib.hid hz
      clear hz hlt' hsmt
      go_wp2_with (go_at_call 42; refine hzc.mono ?_; rintro e w4 ⟨rfl, hb4⟩)
      go_ret2
      exact ⟨row, col, A, i, t, hP, hrc, hrow, hps, hi, hex, Bl.up hbf hb4, .inl ⟨HZ.out, rfl⟩⟩
    | false =>
      rw [hz] at hzc
      have HZ := Lib.hid hz
      have hdl : (t.drop n).length = R := by rw [List.length_drop, hlt']; omega
      have hsd : ∀ k, sz ((t.drop n).getD k 0) ≤ 137438953472 := fun k => by
        have := hsmt (n + k)
        simp only [List.getD_eq_getElem?_getD, List.getElem?_drop] at this ⊢
        exact this
      have hmx := fun W (hW : Below wc.heap.size wc W) => mix_any _ _ (t.drop n) (t.drop n) 50 #[] (fun k => - (t.drop n).getD k 0) W (enters_of Tryz.func50 (by kernel_rfl) rfl) (hsuf.up hW) (hsuf.up hW) (Nat.le_refl _) (by rw [hdl]; omega) (fun k hk W' uu vv hb hu hv => sol2_any uu vv _ _ W' hu hv (Nat.le_trans (hsd k) (by decide)))
      clear hz hlt' hsmt hdl hsd hsuf
      have hcn : ¬ cap = n := by omega
      go_upto_region 20 with (go_at_call 42; refine hzc.mono ?_; rintro e w4 ⟨rfl, hb4⟩)
      go_region_held3 (fun _ => True)
        (trivial)
        (first
          | (go_at_call 49; (try rw [if_neg hcn]); refine (hmx _ (by exact Below.drew hb4)).mono ?_; rintro e w5 ⟨r, rfl, hr, hb5⟩))
      go_wp2_with fail
      go_ret2
      exact ⟨row, col, A, i, t, hP, hrc, hrow, hps, hi, hex, Bl.up (Bl.drew (Bl.up hbf hb4)) hb5, .inr ⟨HZ.out, r, rfl, hr⟩⟩

/-- In: is there a solution? -/
theorem In_of (v u : Value) (w : World) (P : World → Prop) (b : Bool)
    (h : Calls Tryz.prog 19 #[v, u] w fun e w' => ∃ v', e = .returned (.tuple #[v', .int .i64 (if b then 0 else 6)]) ∧ P w') :
    Calls Tryz.prog 16 #[v, u] w fun e w' => e = .returned (.tuple #[.bool b, .int .i64 0]) ∧ P w' := by
  cases b with
  | true =>
    go_enter Tryz.func16, Tryz.ntmps16
    go_wp2_with fail
    refine h.mono ?_
    rintro e w1 ⟨v', rfl, hP⟩
    go_wp2_with fail
    go_ret2
    exact ⟨rfl, hP⟩
  | false =>
    go_enter Tryz.func16, Tryz.ntmps16
    go_wp2_with fail
    refine h.mono ?_
    rintro e w1 ⟨v', rfl, hP⟩
    go_wp2_with fail
    go_ret2
    exact ⟨rfl, hP⟩

theorem In_bad (v u : Value) (w : World) (P : World → Prop) (z : Int) (hz : z = 1 ∨ z = 2)
    (h : Calls Tryz.prog 19 #[v, u] w fun e w' => e = .returned (.tuple #[.slice none 0 0, .int .i64 z]) ∧ P w') :
    Calls Tryz.prog 16 #[v, u] w fun e w' => e = .returned (.tuple #[.bool false, .int .i64 z]) ∧ P w' := by
  rcases hz with rfl | rfl
  all_goals
    go_enter Tryz.func16, Tryz.ntmps16
    go_wp2_with fail
    refine h.mono ?_
    rintro e w1 ⟨rfl, hP⟩
    go_wp2_with fail
    go_ret2
    exact ⟨rfl, hP⟩
end Go.Proofs.YtdbpkoddfcdhdaaGreat
