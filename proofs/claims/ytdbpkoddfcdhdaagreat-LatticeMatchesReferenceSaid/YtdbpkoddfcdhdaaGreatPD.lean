/-
  Integers: signs, sums, differences, products, quotients.
  Integers: differences, comparisons.
  Variables that hold integers: boxes of two cells. What a store, a new block, a draw, a call that only makes memory leave of them: for a search.
  Rows of integers (two cells each), matrices of rows; blocks of the call's own that hold them.
  integer.Of
  Quotient and remainder: the plain law, and an end with three results.
-/
import Derived.Deep.RegionHeld3
import Derived.Deep.DrawnRows
import Derived.Deep.CutBlock
import Derived.Deep.DeepCutAuto
import Derived.Test.YtdbpkoddfcdhdaaGreatPC
set_option linter.unusedSimpArgs false
set_option linter.unusedVariables false

namespace Go.Proofs.YtdbpkoddfcdhdaaGreat
open Go.RowKit
attribute [local go_sem ↓] Go.wp_at_zero Go.wp_at_succ

/-- The integer of a sign and a size. -/
def sg (s : Bool) (x : Nat) : Int := if s then -(x : Int) else x

theorem it_of_nt {w : World} {v : Value} {x : Nat} {s : Bool} (h : Nt w v x) (hx : 0 < x) : It w (.agg #[.bool s, v]) (sg s x) := by
  obtain ⟨a, n, cap, f, rfl, h1, h2, h3, h4, rfl⟩ := h
  refine ⟨a, n, cap, f, ?_, h1, h2, h3, h4, ?_⟩
  · cases s <;> simp [sg] <;> omega
  · cases s <;> simp [sg]

theorem it_zero (w : World) : It w (.agg #[.bool false, .slice none 0 0]) 0 :=
  ⟨none, 0, 0, fun _ => 0, rfl, Nat.le_refl _, Wd.nil _ _ _, fun i hi => absurd hi (Nat.not_lt_zero i), .inl rfl, rfl⟩

/-- A new block of the call's own, filled. -/
theorem below_new (w : World) (o : Obj) : Below w.heap.size w (w.alloc o) := (Below.refl _ _).alloc (Nat.le_refl _) o

set_option maxHeartbeats 1000000 in
theorem of_any (s : Bool) (a : Option Addr) (n cap : Nat) (f : Nat → Nat) (w : World) (hn : n ≤ cap) (hN : n ≤ 4611686018427387904) (hw : Wd w a n f) (hf : Wf f n) :
    Calls Tryz.prog 71 #[.bool s, .slice a n cap] w fun e w' => ∃ v, e = .returned v ∧ It w' v (sg s (nv f n)) ∧ Below w.heap.size w w' := by
  have hle := tr_le f n
  go_enter Tryz.func71, Tryz.ntmps71
  go_wp2_with fail
  refine (trim_any a n cap f _ hn hN (hw.up (below_new _ _)) hf).mono ?_
  rintro e w' ⟨rfl, rfl⟩
  rcases Nat.eq_zero_or_pos (tr f n) with h0 | h0
  · have hv : nv f n = 0 := by rw [← nv_tr f n, h0]; rfl
    have HV := Lib.hid hv
    rw [h0]
    clear hv h0
    go_wp2_with fail
    exact bodyPost_ret (v := .agg #[.bool false, .slice none 0 0]) (by simp [results, Tryz.results71, go_sem]) rfl ⟨_, rfl, by rw [HV.out]; cases s <;> exact it_zero _, below_new _ _⟩
  · have hne : ((tr f n : Int) == 0) = false := by rw [beq_eq_false_iff_ne]; omega
    go_wp2_with fail
    refine bodyPost_ret (v := .agg #[.bool s, .slice a (tr f n) cap]) (by simp [results, Tryz.results71, go_sem]) rfl ⟨_, rfl, ?_, below_new _ _⟩
    refine it_of_nt (nt_of_tr hn (hw.up (below_new _ _)) hf) ?_
    rw [← nv_tr f n]
    rcases can_tr f n with c | c
    · omega
    · have := nv_pos_le (f := f) (n := tr f n) (i := tr f n - 1) (by omega)
      have h2 : 0 < f (tr f n - 1) * 4294967296 ^ (tr f n - 1) := Nat.mul_pos (by omega) (pw_pos _)
      omega

/-- .. of a size that is canonical already. -/
theorem of_nt (s : Bool) (v : Value) (x : Nat) (w : World) (h : Nt w v x) (hs : words x ≤ 4611686018427387904) :
    Calls Tryz.prog 71 #[.bool s, v] w fun e w' => ∃ v, e = .returned v ∧ It w' v (sg s x) ∧ Below w.heap.size w w' := by
  obtain ⟨a, n, cap, f, rfl, h1, h2, h3, h4, rfl⟩ := h
  rw [words_of_can h3 h4] at hs
  exact of_any s a n cap f w h1 hs h2 h3

theorem sg_abs (z : Int) : sg false z.natAbs = (z.natAbs : Int) := rfl
theorem sg_neg (z : Int) : sg (!decide (z < 0)) z.natAbs = -z := by unfold sg; by_cases h : z < 0 <;> simp [h] <;> omega
theorem sg_same (z : Int) : sg (decide (z < 0)) z.natAbs = z := by unfold sg; by_cases h : z < 0 <;> simp [h] <;> omega

/-- The words of an integer. -/
theorem It.parts {w : World} {v : Value} {z : Int} (h : It w v z) :
    ∃ a cap f, v = .agg #[.bool (decide (z < 0)), .slice a (sz z) cap] ∧ sz z ≤ cap ∧ Wd w a (sz z) f ∧ Wf f (sz z) ∧ Can f (sz z) ∧ nv f (sz z) = z.natAbs := by
  obtain ⟨a, n, cap, f, h1, h2, h3, h4, h5, h6⟩ := h
  have e : n = sz z := by unfold sz; rw [← h6, words_of_can h4 h5]
  subst e
  exact ⟨a, cap, f, h1, h2, h3, h4, h5, h6⟩

/-- An integer's shape alone. -/
theorem It.shape {w : World} {v : Value} {z : Int} (h : It w v z) : ∃ s a n cap, v = .agg #[.bool s, .slice a n cap] := by
  obtain ⟨a, n, cap, f, h1, _⟩ := h
  exact ⟨_, a, n, cap, h1⟩

/-- What a call that only makes memory keeps: for the walk. -/
theorem bcell {W w1 : World} (hb : Below W.heap.size W w1) : (∀ b o, b < W.heap.size → w1.cell? ⟨b, o, none⟩ = W.cell? ⟨b, o, none⟩) ∧ (∀ b o, b < W.heap.size → w1.frozen? ⟨b, o, none⟩ = W.frozen? ⟨b, o, none⟩) :=
  ⟨fun b o h => hb.cell (p := ⟨b, o, none⟩) h, fun b o h => hb.frozen (p := ⟨b, o, none⟩) h⟩

theorem sz_zero {z : Int} : sz z = 0 ↔ z = 0 := by unfold sz; rw [words_eq_zero]; omega

/-- No cell of block B is a word. -/
def NoW (w : World) (B : Nat) : Prop := ∀ o x, w.cell? ⟨B, o, none⟩ ≠ some (.int .u32 x)

def noW (v : Value) : Bool := match v with | .int .u32 _ => false | _ => true

theorem NoW.new (w : World) (cs : Array Value) (T : Nat) (h : cs.toList.all noW = true) : NoW (w.alloc (.cells cs T)) w.heap.size := by
  intro o x hx
  rw [World.cell?_alloc_at _ _ _ _ rfl] at hx
  have hm : (Value.int .u32 x) ∈ cs.toList := by
    rw [← Array.getElem?_toList] at hx
    exact List.mem_of_getElem? hx
  have := List.all_eq_true.1 h _ hm
  simp [noW] at this

theorem NoW.up {w w' : World} {B : Nat} (h : NoW w B) (hB : B < w.heap.size) (hb : Below w.heap.size w w') : NoW w' B := fun o x => by
  rw [hb.cell (p := ⟨B, o, none⟩) hB]; exact h o x

theorem NoW.alloc {w : World} {B : Nat} (h : NoW w B) (hB : B < w.heap.size) (o : Obj) : NoW (w.alloc o) B := h.up hB (below_new _ _)

theorem NoW.set {w : World} {B : Nat} (h : NoW w B) (a : Addr) (v : Value) (hv : noW v = true) : NoW (w.setCell a v) B := by
  intro o x hx
  by_cases e : a = ⟨B, o, none⟩
  · subst e
    cases hc : w.cell? ⟨B, o, none⟩ with
    | none =>
      have : (w.setCell ⟨B, o, none⟩ v).cell? ⟨B, o, none⟩ = none := by
        simp only [World.cell?, World.setCell, Array.getElem?_modify] at hc ⊢
        cases hh : w.heap[B]? with
        | none => simp
        | some ob =>
          rw [hh] at hc
          cases ob <;> simp at hc ⊢
          exact hc
      rw [this] at hx; cases hx
    | some u =>
      rw [World.cell?_setCell_same _ _ _ hc] at hx
      cases hx
      simp [noW] at hv
  · rw [World.cell?_setCell_other _ _ _ _ e] at hx
    exact h o x hx

theorem Wd.set {w : World} {a : Option Addr} {n : Nat} {f : Nat → Nat} (h : Wd w a n f) {B : Nat} (hB : NoW w B) (i : Nat) (v : Value) : Wd (w.setCell ⟨B, i, none⟩ v) a n f := by
  rcases h with h | ⟨b, off, h1, h2, h3⟩
  · exact .inl h
  · rcases Nat.eq_zero_or_pos n with hn | hn
    · exact .inl hn
    · refine .inr ⟨b, off, h1, by simpa using h2, fun j hj => ?_⟩
      rw [World.cell?_setCell_other]
      · exact h3 j hj
      · intro e
        have hb : B = b := by cases e; rfl
        subst hb
        exact hB _ _ (h3 j hj)

theorem It.set {w : World} {v : Value} {z : Int} (h : It w v z) {B : Nat} (hB : NoW w B) (i : Nat) (u : Value) : It (w.setCell ⟨B, i, none⟩ u) v z := by
  obtain ⟨a, n, cap, f, h1, h2, h3, h4⟩ := h
  exact ⟨a, n, cap, f, h1, h2, h3.set hB i u, h4⟩

/-- An integer that is stored into a box. -/
theorem It.put {w : World} {v : Value} {z : Int} (h : It w v z) {B : Nat} (hB : NoW w B) (s : Bool) (a : Option Addr) (n c : Nat) :
    It ((w.setCell ⟨B, 0, none⟩ (.bool s)).setCell ⟨B, 1, none⟩ (.slice a n c)) v z := (h.set hB _ _).set (hB.set _ _ rfl) _ _

theorem Nt.set {w : World} {v : Value} {x : Nat} (h : Nt w v x) {B : Nat} (hB : NoW w B) (i : Nat) (u : Value) : Nt (w.setCell ⟨B, i, none⟩ u) v x := by
  obtain ⟨a, n, cap, f, h1, h2, h3, h4⟩ := h
  exact ⟨a, n, cap, f, h1, h2, h3.set hB i u, h4⟩

/-- Block B is a box of two cells, x and y. -/
structure Bx (w : World) (B : Nat) (x y : Value) : Prop where
  c0 : w.cell? ⟨B, 0, none⟩ = some x
  c1 : w.cell? ⟨B, 1, none⟩ = some y
  f0 : w.frozen? ⟨B, 0, none⟩ = false
  f1 : w.frozen? ⟨B, 1, none⟩ = false

theorem Bx.lt {w : World} {B : Nat} {x y : Value} (h : Bx w B x y) : B < w.heap.size := World.block_lt_of_cell? w ⟨B, 0, none⟩ h.c0

theorem Bx.new (w : World) (x y : Value) (T : Nat) : Bx (w.alloc (.cells #[x, y] T)) w.heap.size x y :=
  ⟨by rw [World.cell?_alloc_at _ _ _ _ rfl]; rfl, by rw [World.cell?_alloc_at _ _ _ _ rfl]; rfl, World.frozen?_alloc_at _ _ _ _ rfl, World.frozen?_alloc_at _ _ _ _ rfl⟩

theorem Bx.up {w w' : World} {B : Nat} {x y : Value} (h : Bx w B x y) (hb : Below w.heap.size w w') : Bx w' B x y :=
  ⟨(hb.cell (p := ⟨B, 0, none⟩) h.lt).trans h.c0, (hb.cell (p := ⟨B, 1, none⟩) h.lt).trans h.c1, (hb.frozen (p := ⟨B, 0, none⟩) h.lt).trans h.f0, (hb.frozen (p := ⟨B, 1, none⟩) h.lt).trans h.f1⟩

theorem Bx.drew {w : World} {B : Nat} {x y : Value} (h : Bx w B x y) : Bx w.drew B x y := ⟨h.c0, h.c1, h.f0, h.f1⟩
theorem NoW.drew {w : World} {B : Nat} (h : NoW w B) : NoW w.drew B := h

theorem Bx.drewN {w : World} {B : Nat} {x y : Value} (h : Bx w B x y) (n : Nat) : Bx (w.drewN n) B x y := ⟨h.c0, h.c1, h.f0, h.f1⟩
theorem NoW.drewN {w : World} {B : Nat} (h : NoW w B) (n : Nat) : NoW (w.drewN n) B := h
theorem Wd.drewN {w : World} {a : Option Addr} {n : Nat} {f : Nat → Nat} (h : Wd w a n f) (k : Nat) : Wd (w.drewN k) a n f := h
theorem Wd.drew {w : World} {a : Option Addr} {n : Nat} {f : Nat → Nat} (h : Wd w a n f) : Wd w.drew a n f := h
theorem It.drew {w : World} {v : Value} {z : Int} (h : It w v z) : It w.drew v z := h
theorem It.drewN {w : World} {v : Value} {z : Int} (h : It w v z) (k : Nat) : It (w.drewN k) v z := h

theorem Bx.put {w : World} {B : Nat} {x y : Value} (h : Bx w B x y) (x' y' : Value) : Bx ((w.setCell ⟨B, 0, none⟩ x').setCell ⟨B, 1, none⟩ y') B x' y' := by
  refine ⟨?_, ?_, by simp [h.f0], by simp [h.f1]⟩
  · rw [World.cell?_setCell_other _ _ _ _ (by simp)]
    exact World.cell?_setCell_same _ _ _ h.c0
  · exact World.cell?_setCell_same _ _ _ (by rw [World.cell?_setCell_other _ _ _ _ (by simp)]; exact h.c1)

theorem Bx.other {w : World} {B : Nat} {x y : Value} (h : Bx w B x y) {B' : Nat} (hB : B' ≠ B) (i : Nat) (v : Value) : Bx (w.setCell ⟨B', i, none⟩ v) B x y :=
  ⟨by rw [World.cell?_setCell_other _ _ _ _ (by simp [hB])]; exact h.c0, by rw [World.cell?_setCell_other _ _ _ _ (by simp [hB])]; exact h.c1, by simp [h.f0], by simp [h.f1]⟩

/-- A cell that a call which only makes memory keeps. -/
theorem keepc {w w' : World} (hb : Below w.heap.size w w') {B o : Nat} {v : Value} (h : w.cell? ⟨B, o, none⟩ = some v) : w'.cell? ⟨B, o, none⟩ = some v :=
  (hb.cell (p := ⟨B, o, none⟩) (World.block_lt_of_cell? w ⟨B, o, none⟩ h)).trans h

theorem load_int (w : World) (B o : Nat) (x y : Value) (h0 : w.cell? ⟨B, o, none⟩ = some x) (h1 : w.cell? ⟨B, o + 1, none⟩ = some y) :
    (loadVar 56 ⟨B, o, none⟩).run Tryz.prog w = .ok (.agg #[x, y]) w := by
  simp [go_sem, h0, h1]

/-- A function's end whose result is an integer in a box. -/
theorem ret_box {fn : Func} {R : Ending → World → Prop} {t : Tmp} {a : Act} {w : World} {B : Nat} {x y : Value} (hr : fn.results = #[.cell t 56]) (ht : a.tmps.getD t undef = .pointer (some ⟨B, 0, none⟩)) (hd : a.defers = [])
    (h : Bx w B x y) (hR : R (.returned (.agg #[x, y])) w) : bodyPost Tryz.prog fn R .ret a w := by
  refine bodyPost_ret ?_ hd hR
  have hl := load_int w B 0 x y h.c0 h.c1
  have ht' : a.tmps[t]?.getD undef = .pointer (some ⟨B, 0, none⟩) := by simpa using ht
  have hA : (asAddr (.pointer (some ⟨B, 0, none⟩))).run Tryz.prog w = .ok ⟨B, 0, none⟩ w := rfl
  simp [results, hr, ht', hl, hA]

set_option maxHeartbeats 1000000 in
theorem neg_any (va : Value) (x : Int) (w : World) (hx : It w va x) (hs : sz x ≤ 4398046511104) :
    Calls Tryz.prog 51 #[va] w fun e w' => ∃ v, e = .returned v ∧ It w' v (-x) ∧ Below w.heap.size w w' := by
  obtain ⟨a, cap, f, rfl, h1, h2, h3, h4, h5⟩ := hx.parts
  have H5 := Lib.hid h5
  clear h5
  go_enter Tryz.func51, Tryz.ntmps51
  go_wp2_with fail
  refine (of_any _ a (sz x) cap f _ h1 (by omega) (h2.up ((below_new _ _).alloc (by simp) _)) h3).mono ?_
  rintro e w1 ⟨v, rfl, hv, hb⟩
  rw [H5.out, sg_neg] at hv
  have hB := (Bx.new (w.alloc (.cells #[.bool (decide (x < 0)), .slice a (sz x) cap] 56)) (.bool false) (.slice none 0 0) 56).up hb
  have hN := (NoW.new (w.alloc (.cells #[.bool (decide (x < 0)), .slice a (sz x) cap] 56)) #[.bool false, .slice none 0 0] 56 rfl).up (by simp) hb
  have hbw := ((below_new w (.cells #[.bool (decide (x < 0)), .slice a (sz x) cap] 56)).alloc (by simp) (.cells #[.bool false, .slice none 0 0] 56)).trans (hb.mono (by simp; omega))
  simp only [World.size_alloc] at hB hN
  have c0 := hB.c0
  have c1 := hB.c1
  have f0 := hB.f0
  have f1 := hB.f1
  clear hb
  obtain ⟨s', a', n', cap', rfl⟩ := hv.shape
  go_wp2_with fail
  exact ret_box (B := w.heap.size + 1) rfl rfl rfl (hB.put _ _) ⟨_, rfl, hv.put hN _ _ _ _, (hbw.setCell (by simp) _).setCell (by simp) _⟩

set_option maxHeartbeats 1000000 in
theorem abs_any (va : Value) (x : Int) (w : World) (hx : It w va x) (hs : sz x ≤ 4398046511104) :
    Calls Tryz.prog 70 #[va] w fun e w' => ∃ v, e = .returned v ∧ It w' v (x.natAbs : Int) ∧ Below w.heap.size w w' := by
  obtain ⟨a, cap, f, rfl, h1, h2, h3, h4, h5⟩ := hx.parts
  have H5 := Lib.hid h5
  clear h5
  go_enter Tryz.func70, Tryz.ntmps70
  go_wp2_with fail
  refine (of_any _ a (sz x) cap f _ h1 (by omega) (h2.up ((below_new _ _).alloc (by simp) _)) h3).mono ?_
  rintro e w1 ⟨v, rfl, hv, hb⟩
  rw [H5.out, sg_abs] at hv
  have hB := (Bx.new (w.alloc (.cells #[.bool (decide (x < 0)), .slice a (sz x) cap] 56)) (.bool false) (.slice none 0 0) 56).up hb
  have hN := (NoW.new (w.alloc (.cells #[.bool (decide (x < 0)), .slice a (sz x) cap] 56)) #[.bool false, .slice none 0 0] 56 rfl).up (by simp) hb
  have hbw := ((below_new w (.cells #[.bool (decide (x < 0)), .slice a (sz x) cap] 56)).alloc (by simp) (.cells #[.bool false, .slice none 0 0] 56)).trans (hb.mono (by simp; omega))
  simp only [World.size_alloc] at hB hN
  have c0 := hB.c0
  have c1 := hB.c1
  have f0 := hB.f0
  have f1 := hB.f1
  clear hb
  obtain ⟨s', a', n', cap', rfl⟩ := hv.shape
  go_wp2_with fail
  exact ret_box (B := w.heap.size + 1) rfl rfl rfl (hB.put _ _) ⟨_, rfl, hv.put hN _ _ _ _, (hbw.setCell (by simp) _).setCell (by simp) _⟩

theorem sign_any (va : Value) (x : Int) (w : World) (hx : It w va x) :
    Calls Tryz.prog 46 #[va] w fun e w' => e = .returned (.int .i64 (cmpI x 0)) ∧ Below w.heap.size w w' := by
  obtain ⟨a, cap, f, rfl, h1, h2, h3, h4, h5⟩ := hx.parts
  rcases Int.lt_trichotomy x 0 with h | h | h
  · have hz : ((sz x : Int) == 0) = false := by rw [beq_eq_false_iff_ne]; have := mt sz_zero.1 (show x ≠ 0 by omega); omega
    have hd : decide (x < 0) = true := by simpa using h
    go_enter Tryz.func46, Tryz.ntmps46
    go_wp2_with fail
    go_ret
    exact ⟨ret_of (by rw [cmpI_lt h]; rfl), below_new _ _⟩
  · subst h
    have hz : sz 0 = 0 := rfl
    rw [hz]
    clear hz
    go_enter Tryz.func46, Tryz.ntmps46
    go_wp2_with fail
    go_ret
    exact ⟨ret_of (by rw [cmpI_eq rfl]; rfl), below_new _ _⟩
  · have hz : ((sz x : Int) == 0) = false := by rw [beq_eq_false_iff_ne]; have := mt sz_zero.1 (show x ≠ 0 by omega); omega
    have hd : decide (x < 0) = false := by simp; omega
    go_enter Tryz.func46, Tryz.ntmps46
    go_wp2_with fail
    go_ret
    exact ⟨ret_of (by rw [cmpI_gt h]; rfl), below_new _ _⟩

/-- Two boxes of the arguments and one of the result. -/
theorem three_boxes (w : World) (s1 s2 : Bool) (a1 a2 : Option Addr) (n1 n2 c1 c2 T : Nat) :
    ∃ W, W = ((w.alloc (.cells #[.bool s1, .slice a1 n1 c1] T)).alloc (.cells #[.bool s2, .slice a2 n2 c2] T)).alloc (.cells #[.bool false, .slice none 0 0] T) ∧ Below w.heap.size w W ∧
      Bx W w.heap.size (.bool s1) (.slice a1 n1 c1) ∧ Bx W (w.heap.size + 1) (.bool s2) (.slice a2 n2 c2) ∧ Bx W (w.heap.size + 2) (.bool false) (.slice none 0 0) ∧ NoW W w.heap.size ∧ NoW W (w.heap.size + 1) ∧ NoW W (w.heap.size + 2) ∧ W.heap.size = w.heap.size + 3 := by
  have e1 : (w.alloc (.cells #[.bool s1, .slice a1 n1 c1] T)).heap.size = w.heap.size + 1 := World.size_alloc _ _
  have e2 : ((w.alloc (.cells #[.bool s1, .slice a1 n1 c1] T)).alloc (.cells #[.bool s2, .slice a2 n2 c2] T)).heap.size = w.heap.size + 2 := by rw [World.size_alloc, e1]
  have b1 := Bx.new w (.bool s1) (.slice a1 n1 c1) T
  have b2 := Bx.new (w.alloc (.cells #[.bool s1, .slice a1 n1 c1] T)) (.bool s2) (.slice a2 n2 c2) T
  have b3 := Bx.new ((w.alloc (.cells #[.bool s1, .slice a1 n1 c1] T)).alloc (.cells #[.bool s2, .slice a2 n2 c2] T)) (.bool false) (.slice none 0 0) T
  have n1' := NoW.new w #[.bool s1, .slice a1 n1 c1] T rfl
  have n2' := NoW.new (w.alloc (.cells #[.bool s1, .slice a1 n1 c1] T)) #[.bool s2, .slice a2 n2 c2] T rfl
  have n3' := NoW.new ((w.alloc (.cells #[.bool s1, .slice a1 n1 c1] T)).alloc (.cells #[.bool s2, .slice a2 n2 c2] T)) #[.bool false, .slice none 0 0] T rfl
  rw [e1] at b2 n2'
  rw [e2] at b3 n3'
  exact ⟨_, rfl, ((below_new w _).alloc (by rw [e1]; omega) _).alloc (by rw [e2]; omega) _, (b1.up (below_new _ _)).up (below_new _ _), b2.up (below_new _ _), b3,
    (n1'.alloc (by rw [e1]; omega) _).alloc (by rw [e2]; omega) _, n2'.alloc (by rw [e2]; omega) _, n3', by rw [World.size_alloc, e2]⟩

-- printed by gen/int.py
theorem mul_sg (x y : Int) (f g : Nat → Nat) (n m : Nat) (hf : nv f n = x.natAbs) (hg : nv g m = y.natAbs) : sg (!decide (x < 0) == decide (y < 0)) (nv f n * nv g m) = x * y := by
  rw [hf, hg]
  unfold sg
  have e : ((x.natAbs * y.natAbs : Nat) : Int) = ((x * y).natAbs : Int) := by rw [Int.natAbs_mul]
  by_cases h1 : x < 0 <;> by_cases h2 : y < 0 <;> simp only [h1, h2, decide_true, decide_false, beq_self_eq_true, Bool.not_true, Bool.not_false, Bool.false_eq_true, if_false, if_true, e, show (true == false) = false from rfl, show (false == true) = false from rfl]
  · have : 0 ≤ x * y := Int.mul_nonneg_of_nonpos_of_nonpos (by omega) (by omega)
    omega
  · have : x * y ≤ 0 := Int.mul_nonpos_of_nonpos_of_nonneg (by omega) (by omega)
    omega
  · have : x * y ≤ 0 := Int.mul_nonpos_of_nonneg_of_nonpos (by omega) (by omega)
    omega
  · have : 0 ≤ x * y := Int.mul_nonneg (by omega) (by omega)
    omega

set_option maxRecDepth 100000 in
set_option maxHeartbeats 2000000 in
theorem mul_any (va vb : Value) (x y : Int) (w : World) (hx : It w va x) (hy : It w vb y) (hsx : sz x ≤ 2199023255552) (hsy : sz y ≤ 2199023255552) :
    Calls Tryz.prog 34 #[va, vb] w fun e w' => ∃ v, e = .returned v ∧ It w' v (x * y) ∧ Below w.heap.size w w' := by
  obtain ⟨a, ca, f, rfl, h1, h2, h3, h4, h5⟩ := hx.parts
  obtain ⟨b, cb, g, rfl, k1, k2, k3, k4, k5⟩ := hy.parts
  have H5 := Lib.hid h5
  have K5 := Lib.hid k5
  clear h5 k5
  obtain ⟨W, hW, hw, d1, d2, d3, n1, n2, n3, -⟩ := three_boxes w (decide (x < 0)) (decide (y < 0)) a b (sz x) (sz y) ca cb 56
  replace hx := hx.up hw
  replace hy := hy.up hw
  replace h2 := h2.up hw
  replace k2 := k2.up hw
  go_enter Tryz.func34, Tryz.ntmps34
  go_wp2_with fail
  rw [← hW]
  clear hW
  replace hw := hw.drew
  replace d1 := d1.drew
  replace d2 := d2.drew
  replace d3 := d3.drew
  replace n3 := n3.drew
  replace hx : It W.drew _ x := hx
  replace hy : It W.drew _ y := hy
  replace h2 : Wd W.drew _ _ _ := h2
  replace k2 : Wd W.drew _ _ _ := k2
  go_region_held3 (fun w' => w'.cell? ⟨w.heap.size, 0, none⟩ = some (.bool (decide (x < 0))) ∧ w'.cell? ⟨w.heap.size, 1, none⟩ = some (.slice a (sz x) ca) ∧ w'.cell? ⟨w.heap.size + 1, 0, none⟩ = some (.bool (decide (y < 0))) ∧ w'.cell? ⟨w.heap.size + 1, 1, none⟩ = some (.slice b (sz y) cb))
    (first | exact ⟨d1.c0, d1.c1, d2.c0, d2.c1⟩ | exact ⟨((d1.other (by omega) _ _).other (by omega) _ _).c0, ((d1.other (by omega) _ _).other (by omega) _ _).c1, ((d2.other (by omega) _ _).other (by omega) _ _).c0, ((d2.other (by omega) _ _).other (by omega) _ _).c1⟩ | exact ⟨(d1.up (below_new _ _)).c0, (d1.up (below_new _ _)).c1, (d2.up (below_new _ _)).c0, (d2.up (below_new _ _)).c1⟩ | (go_keep; done) | (refine ⟨?_, ?_, ?_, ?_⟩ <;> (go_keep; done)))
    (first
      | (go_at_call 72; refine (natmul_any a b (sz x) (sz y) ca cb f g _ h1 k1 hsx hsy h2 k2 h3 k3).mono ?_; rintro e w1 ⟨vm, rfl, hvm, hb⟩; replace n3 := n3.up d3.lt hb; replace d1 := d1.up hb; replace d2 := d2.up hb; replace d3 := d3.up hb; replace hw := hw.trans (hb.mono hw.size); clear hb)
      | (go_at_call 71; refine (of_nt _ _ _ _ hvm (by exact by rw [H5.out, K5.out]; exact Nat.le_trans (words_mul _ _) (Nat.le_trans (Nat.add_le_add hsx hsy) (by decide)))).mono ?_; rintro e w2 ⟨v, rfl, hv, hb⟩; replace n3 := n3.up d3.lt hb; replace d1 := d1.up hb; replace d2 := d2.up hb; replace d3 := d3.up hb; replace hw := hw.trans (hb.mono hw.size); clear hb; have u0 := d3.c0; have u1 := d3.c1; have u2 := d3.f0; have u3 := d3.f1; obtain ⟨s', a', n', cap', rfl⟩ := hv.shape))
  all_goals (go_wp2_with fail; rw [mul_sg x y f g _ _ H5.out K5.out] at hv; exact ret_box (B := w.heap.size + 2) rfl rfl rfl (d3.put _ _) ⟨_, rfl, hv.put n3 _ _ _ _, (hw.setCell (by show w.heap.size ≤ w.heap.size + 2; omega) _).setCell (by show w.heap.size ≤ w.heap.size + 2; omega) _⟩)

theorem add_sg (x y : Int) (f g : Nat → Nat) (n m : Nat) (hf : nv f n = x.natAbs) (hg : nv g m = y.natAbs) (h : (decide (x < 0) == decide (y < 0)) = true) : sg (decide (x < 0)) (nv f n + nv g m) = x + y := by
  rw [hf, hg]
  unfold sg
  by_cases h1 : x < 0 <;> by_cases h2 : y < 0 <;> simp [h1, h2] at h ⊢ <;> omega
theorem sub_sg (x y : Int) (f g : Nat → Nat) (n m : Nat) (hf : nv f n = x.natAbs) (hg : nv g m = y.natAbs) (h : (decide (x < 0) == decide (y < 0)) = false) (hle : nv g m ≤ nv f n) : sg (decide (x < 0)) (nv f n - nv g m) = x + y := by
  rw [hf, hg] at *
  unfold sg
  by_cases h1 : x < 0 <;> by_cases h2 : y < 0 <;> simp [h1, h2] at h ⊢ <;> omega

set_option maxRecDepth 100000 in
set_option maxHeartbeats 4000000 in
theorem add_any (va vb : Value) (x y : Int) (w : World) (hx : It w va x) (hy : It w vb y) (hsx : sz x ≤ 2199023255552) (hsy : sz y ≤ 2199023255552) :
    Calls Tryz.prog 84 #[va, vb] w fun e w' => ∃ v, e = .returned v ∧ It w' v (x + y) ∧ Below w.heap.size w w' := by
  obtain ⟨a, ca, f, rfl, h1, h2, h3, h4, h5⟩ := hx.parts
  obtain ⟨b, cb, g, rfl, k1, k2, k3, k4, k5⟩ := hy.parts
  have H5 := Lib.hid h5
  have K5 := Lib.hid k5
  clear h5 k5
  obtain ⟨W, hW, hw, d1, d2, d3, n1, n2, n3, -⟩ := three_boxes w (decide (x < 0)) (decide (y < 0)) a b (sz x) (sz y) ca cb 56
  replace hx := hx.up hw
  replace hy := hy.up hw
  replace h2 := h2.up hw
  replace k2 := k2.up hw
  clear hx hy
  have hbig : words (nv f (sz x) + nv g (sz y)) ≤ 4611686018427387904 := by
    have := words_add (nv f (sz x)) (nv g (sz y))
    rw [words_of_can h3 h4, words_of_can k3 k4] at this
    omega
  by_cases hs : (decide (x < 0) == decide (y < 0)) = true
  · have HS := Lib.hid hs
    have p1 := d1.c0; have p2 := d1.c1; have q1 := d2.c0; have q2 := d2.c1
    go_enter Tryz.func84, Tryz.ntmps84
    go_wp2_with fail
    rw [← hW]
    clear hW
    go_quiet (fail)
    clear p1 p2 q1 q2
    replace hw := Below.drewN hw nq
    replace d1 := d1.drewN nq
    replace d2 := d2.drewN nq
    replace d3 := d3.drewN nq
    replace n3 := n3.drewN nq
    replace h2 := h2.drewN nq
    replace k2 := k2.drewN nq
    generalize W.drewN nq = W1 at *
    have p1 := d1.c0; have p2 := d1.c1; have q1 := d2.c0; have q2 := d2.c1
    go_wp2_with fail
    clear p1 p2 q1 q2
    replace hw := hw.drew
    replace d1 := d1.drew
    replace d2 := d2.drew
    replace d3 := d3.drew
    replace n3 := n3.drew
    replace h2 := h2.drew
    replace k2 := k2.drew
    go_region_held3 (fun w' => w'.cell? ⟨w.heap.size, 0, none⟩ = some (.bool (decide (x < 0))))
      (first | exact d1.c0 | exact ((d1.other (by omega) _ _).other (by omega) _ _).c0 | exact (d1.up (below_new _ _)).c0 | (go_keep; done) | (go_keep; done))
      (first
        | (go_at_call 97; refine (natadd_any a b (sz x) (sz y) ca cb f g _ h1 k1 hsx hsy h2 k2 h3 k3).mono ?_; rintro e w1 ⟨vm, rfl, hvm, hb⟩; replace n3 := n3.up d3.lt hb; replace d1 := d1.up hb; replace d2 := d2.up hb; replace d3 := d3.up hb; replace hw := hw.trans (hb.mono hw.size); clear hb)
        | (go_at_call 71; refine (of_nt _ _ _ _ hvm (by exact hbig)).mono ?_; rintro e w2 ⟨v, rfl, hv, hb⟩; replace n3 := n3.up d3.lt hb; replace d1 := d1.up hb; replace d2 := d2.up hb; replace d3 := d3.up hb; replace hw := hw.trans (hb.mono hw.size); clear hb; have u0 := d3.c0; have u1 := d3.c1; have u2 := d3.f0; have u3 := d3.f1; obtain ⟨s', a', n', cap', rfl⟩ := hv.shape))
    all_goals (go_wp2_with fail; rw [add_sg x y f g _ _ H5.out K5.out HS.out] at hv; exact ret_box (B := w.heap.size + 2) rfl rfl rfl (d3.put _ _) ⟨_, rfl, hv.put n3 _ _ _ _, (hw.setCell (by show w.heap.size ≤ w.heap.size + 2; omega) _).setCell (by show w.heap.size ≤ w.heap.size + 2; omega) _⟩)
  · have hs' : (decide (x < 0) == decide (y < 0)) = false := by simpa using hs
    have HS := Lib.hid hs'
    clear hs
    by_cases hlt : nv f (sz x) < nv g (sz y)
    · have hmn : sz x ≤ sz y := by have := words_mono (Nat.le_of_lt hlt); rw [words_of_can h3 h4, words_of_can k3 k4] at this; exact this
      have hle : nv f (sz x) ≤ nv g (sz y) := Nat.le_of_lt hlt
      have hbig : words (nv g (sz y) - nv f (sz x)) ≤ 4611686018427387904 := by have := words_mono (Nat.sub_le (nv g (sz y)) (nv f (sz x))); rw [words_of_can k3 k4] at this; omega
      have hcm : decide (cmpI (nv f (sz x) : Int) (nv g (sz y) : Int) < 0) = true := by rw [cmpI_lt (by omega)]; rfl
      have p1 := d1.c0; have p2 := d1.c1; have q1 := d2.c0; have q2 := d2.c1
      go_enter Tryz.func84, Tryz.ntmps84
      go_wp2_with fail
      rw [← hW]
      clear hW
      go_quiet (fail)
      clear p1 p2 q1 q2
      replace hw := Below.drewN hw nq
      replace d1 := d1.drewN nq
      replace d2 := d2.drewN nq
      replace d3 := d3.drewN nq
      replace n3 := n3.drewN nq
      replace h2 := h2.drewN nq
      replace k2 := k2.drewN nq
      generalize W.drewN nq = W1 at *
      have p1 := d1.c0; have p2 := d1.c1; have q1 := d2.c0; have q2 := d2.c1
      go_wp2_with fail
      refine (natcmp_any a b (sz x) (sz y) ca cb f g _ (by omega) (by omega) h2 k2 h3 k3 h4 k4).mono ?_
      rintro e w5 ⟨rfl, nk, hw5⟩
      clear p1 p2 q1 q2
      replace hw := Below.drewN hw nk
      replace d1 := d1.drewN nk
      replace d2 := d2.drewN nk
      replace d3 := d3.drewN nk
      replace n3 := n3.drewN nk
      replace h2 := h2.drewN nk
      replace k2 := k2.drewN nk
      rw [← hw5] at *
      clear hw5
      have p1 := d1.c0; have p2 := d1.c1; have q1 := d2.c0; have q2 := d2.c1
      go_wp2_with fail
      clear p1 p2 q1 q2
      replace hw := hw.drew
      replace d1 := d1.drew
      replace d2 := d2.drew
      replace d3 := d3.drew
      replace n3 := n3.drew
      replace h2 := h2.drew
      replace k2 := k2.drew
      go_region_held3 (fun w' => w'.cell? ⟨w.heap.size + 1, 0, none⟩ = some (.bool (decide (y < 0))))
        (first | exact d2.c0 | exact ((d2.other (by omega) _ _).other (by omega) _ _).c0 | exact (d2.up (below_new _ _)).c0 | (go_keep; done) | (go_keep; done))
        (first
          | (go_at_call 99; refine (natsub_any b a (sz y) (sz x) cb ca g f _ k1 h1 hsy hmn hle k2 h2 k3 h3).mono ?_; rintro e w1 ⟨vm, rfl, hvm, hb⟩; replace n3 := n3.up d3.lt hb; replace d1 := d1.up hb; replace d2 := d2.up hb; replace d3 := d3.up hb; replace hw := hw.trans (hb.mono hw.size); clear hb)
          | (go_at_call 71; refine (of_nt _ _ _ _ hvm (by exact hbig)).mono ?_; rintro e w2 ⟨v, rfl, hv, hb⟩; replace n3 := n3.up d3.lt hb; replace d1 := d1.up hb; replace d2 := d2.up hb; replace d3 := d3.up hb; replace hw := hw.trans (hb.mono hw.size); clear hb; have u0 := d3.c0; have u1 := d3.c1; have u2 := d3.f0; have u3 := d3.f1; obtain ⟨s', a', n', cap', rfl⟩ := hv.shape))
      all_goals (go_wp2_with fail; rw [sub_sg y x g f _ _ K5.out H5.out (by rw [Bool.beq_comm]; exact HS.out) hle, Int.add_comm] at hv; exact ret_box (B := w.heap.size + 2) rfl rfl rfl (d3.put _ _) ⟨_, rfl, hv.put n3 _ _ _ _, (hw.setCell (by show w.heap.size ≤ w.heap.size + 2; omega) _).setCell (by show w.heap.size ≤ w.heap.size + 2; omega) _⟩)
    · have hle : nv g (sz y) ≤ nv f (sz x) := by omega
      have hmn : sz y ≤ sz x := by have := words_mono hle; rw [words_of_can h3 h4, words_of_can k3 k4] at this; exact this
      have hbig : words (nv f (sz x) - nv g (sz y)) ≤ 4611686018427387904 := by have := words_mono (Nat.sub_le (nv f (sz x)) (nv g (sz y))); rw [words_of_can h3 h4] at this; omega
      have hcm : decide (cmpI (nv f (sz x) : Int) (nv g (sz y) : Int) < 0) = false := by
        rcases Nat.lt_or_ge (nv g (sz y)) (nv f (sz x)) with c | c
        · rw [cmpI_gt (by omega)]; rfl
        · rw [cmpI_eq (by omega)]; rfl
      have p1 := d1.c0; have p2 := d1.c1; have q1 := d2.c0; have q2 := d2.c1
      go_enter Tryz.func84, Tryz.ntmps84
      go_wp2_with fail
      rw [← hW]
      clear hW
      go_quiet (fail)
      clear p1 p2 q1 q2
      replace hw := Below.drewN hw nq
      replace d1 := d1.drewN nq
      replace d2 := d2.drewN nq
      replace d3 := d3.drewN nq
      replace n3 := n3.drewN nq
      replace h2 := h2.drewN nq
      replace k2 := k2.drewN nq
      generalize W.drewN nq = W1 at *
      have p1 := d1.c0; have p2 := d1.c1; have q1 := d2.c0; have q2 := d2.c1
      go_wp2_with fail
      refine (natcmp_any a b (sz x) (sz y) ca cb f g _ (by omega) (by omega) h2 k2 h3 k3 h4 k4).mono ?_
      rintro e w5 ⟨rfl, nk, hw5⟩
      clear p1 p2 q1 q2
      replace hw := Below.drewN hw nk
      replace d1 := d1.drewN nk
      replace d2 := d2.drewN nk
      replace d3 := d3.drewN nk
      replace n3 := n3.drewN nk
      replace h2 := h2.drewN nk
      replace k2 := k2.drewN nk
      rw [← hw5] at *
      clear hw5
      have p1 := d1.c0; have p2 := d1.c1; have q1 := d2.c0; have q2 := d2.c1
      go_wp2_with fail
      clear p1 p2 q1 q2
      replace hw := hw.drew
      replace d1 := d1.drew
      replace d2 := d2.drew
      replace d3 := d3.drew
      replace n3 := n3.drew
      replace h2 := h2.drew
      replace k2 := k2.drew
      go_region_held3 (fun w' => w'.cell? ⟨w.heap.size, 0, none⟩ = some (.bool (decide (x < 0))))
        (first | exact d1.c0 | exact ((d1.other (by omega) _ _).other (by omega) _ _).c0 | exact (d1.up (below_new _ _)).c0 | (go_keep; done) | (go_keep; done))
        (first
          | (go_at_call 99; refine (natsub_any a b (sz x) (sz y) ca cb f g _ h1 k1 hsx hmn hle h2 k2 h3 k3).mono ?_; rintro e w1 ⟨vm, rfl, hvm, hb⟩; replace n3 := n3.up d3.lt hb; replace d1 := d1.up hb; replace d2 := d2.up hb; replace d3 := d3.up hb; replace hw := hw.trans (hb.mono hw.size); clear hb)
          | (go_at_call 71; refine (of_nt _ _ _ _ hvm (by exact hbig)).mono ?_; rintro e w2 ⟨v, rfl, hv, hb⟩; replace n3 := n3.up d3.lt hb; replace d1 := d1.up hb; replace d2 := d2.up hb; replace d3 := d3.up hb; replace hw := hw.trans (hb.mono hw.size); clear hb; have u0 := d3.c0; have u1 := d3.c1; have u2 := d3.f0; have u3 := d3.f1; obtain ⟨s', a', n', cap', rfl⟩ := hv.shape))
      all_goals (go_wp2_with fail; rw [sub_sg x y f g _ _ H5.out K5.out HS.out hle] at hv; exact ret_box (B := w.heap.size + 2) rfl rfl rfl (d3.put _ _) ⟨_, rfl, hv.put n3 _ _ _ _, (hw.setCell (by show w.heap.size ≤ w.heap.size + 2; omega) _).setCell (by show w.heap.size ≤ w.heap.size + 2; omega) _⟩)

end Go.Proofs.YtdbpkoddfcdhdaaGreat

namespace Go.Proofs.YtdbpkoddfcdhdaaGreat
open Go.RowKit
attribute [local go_sem ↓] Go.wp_at_zero Go.wp_at_succ

set_option maxRecDepth 100000 in
set_option maxHeartbeats 2000000 in
theorem sub_any (va vb : Value) (x y : Int) (w : World) (hx : It w va x) (hy : It w vb y) (hsx : sz x ≤ 2199023255552) (hsy : sz y ≤ 2199023255552) :
    Calls Tryz.prog 59 #[va, vb] w fun e w' => ∃ v, e = .returned v ∧ It w' v (x - y) ∧ Below w.heap.size w w' := by
  obtain ⟨a, ca, f, rfl, h1, h2, h3, h4, h5⟩ := hx.parts
  obtain ⟨b, cb, g, rfl, k1, k2, k3, k4, k5⟩ := hy.parts
  have H5 := Lib.hid h5
  have K5 := Lib.hid k5
  clear h5 k5
  obtain ⟨W, hW, hw, d1, d2, d3, n1, n2, n3, -⟩ := three_boxes w (decide (x < 0)) (decide (y < 0)) a b (sz x) (sz y) ca cb 56
  replace hx := hx.up hw
  replace hy := hy.up hw
  clear h1 h2 h3 h4 k1 k2 k3 k4 H5 K5
  go_enter Tryz.func59, Tryz.ntmps59
  go_wp2_with fail
  rw [← hW]
  clear hW
  replace hw := hw.drew
  replace d1 := d1.drew
  replace d2 := d2.drew
  replace d3 := d3.drew
  replace n3 := n3.drew
  replace hx := hx.drew
  replace hy := hy.drew
  go_region_held3 (fun w' => w'.cell? ⟨w.heap.size, 0, none⟩ = some (.bool (decide (x < 0))) ∧ w'.cell? ⟨w.heap.size, 1, none⟩ = some (.slice a (sz x) ca) ∧ w'.cell? ⟨w.heap.size + 1, 0, none⟩ = some (.bool (decide (y < 0))) ∧ w'.cell? ⟨w.heap.size + 1, 1, none⟩ = some (.slice b (sz y) cb))
    (first | exact ⟨d1.c0, d1.c1, d2.c0, d2.c1⟩ | exact ⟨((d1.other (by omega) _ _).other (by omega) _ _).c0, ((d1.other (by omega) _ _).other (by omega) _ _).c1, ((d2.other (by omega) _ _).other (by omega) _ _).c0, ((d2.other (by omega) _ _).other (by omega) _ _).c1⟩ | exact ⟨(d1.up (below_new _ _)).c0, (d1.up (below_new _ _)).c1, (d2.up (below_new _ _)).c0, (d2.up (below_new _ _)).c1⟩ | (go_keep; done) | (refine ⟨?_, ?_, ?_, ?_⟩ <;> (go_keep; done)))
    (first
      | (go_at_call 51; refine (neg_any _ y _ hy (Nat.le_trans hsy (by decide))).mono ?_; rintro e w1 ⟨vm, rfl, hvm, hb⟩; replace n3 := n3.up d3.lt hb; replace d1 := d1.up hb; replace d2 := d2.up hb; replace d3 := d3.up hb; replace hx := hx.up hb; replace hy := hy.up hb; replace hw := hw.trans (hb.mono hw.size); clear hb)
      | (go_at_call 84; refine (add_any _ vm x (-y) _ hx hvm hsx (by rw [sz_neg]; exact hsy)).mono ?_; rintro e w2 ⟨v, rfl, hv, hb⟩; replace n3 := n3.up d3.lt hb; replace d1 := d1.up hb; replace d2 := d2.up hb; replace d3 := d3.up hb; replace hw := hw.trans (hb.mono hw.size); clear hb; have u0 := d3.c0; have u1 := d3.c1; have u2 := d3.f0; have u3 := d3.f1; obtain ⟨s', a', n', cap', rfl⟩ := hv.shape))
  all_goals (go_wp2_with fail; rw [← Int.sub_eq_add_neg] at hv; exact ret_box (B := w.heap.size + 2) rfl rfl rfl (d3.put _ _) ⟨_, rfl, hv.put n3 _ _ _ _, (hw.setCell (by show w.heap.size ≤ w.heap.size + 2; omega) _).setCell (by show w.heap.size ≤ w.heap.size + 2; omega) _⟩)

def orI (s : Int) : Int := if s = 0 then 1 else s

/-- Two boxes of the arguments. -/
theorem two_boxes (w : World) (s1 s2 : Bool) (a1 a2 : Option Addr) (n1 n2 c1 c2 T : Nat) :
    ∃ W, W = (w.alloc (.cells #[.bool s1, .slice a1 n1 c1] T)).alloc (.cells #[.bool s2, .slice a2 n2 c2] T) ∧ Below w.heap.size w W ∧
      Bx W w.heap.size (.bool s1) (.slice a1 n1 c1) ∧ Bx W (w.heap.size + 1) (.bool s2) (.slice a2 n2 c2) ∧ NoW W w.heap.size ∧ NoW W (w.heap.size + 1) ∧ W.heap.size = w.heap.size + 2 := by
  have e1 : (w.alloc (.cells #[.bool s1, .slice a1 n1 c1] T)).heap.size = w.heap.size + 1 := World.size_alloc _ _
  have b1 := Bx.new w (.bool s1) (.slice a1 n1 c1) T
  have b2 := Bx.new (w.alloc (.cells #[.bool s1, .slice a1 n1 c1] T)) (.bool s2) (.slice a2 n2 c2) T
  have n1' := NoW.new w #[.bool s1, .slice a1 n1 c1] T rfl
  have n2' := NoW.new (w.alloc (.cells #[.bool s1, .slice a1 n1 c1] T)) #[.bool s2, .slice a2 n2 c2] T rfl
  rw [e1] at b2 n2'
  exact ⟨_, rfl, (below_new w _).alloc (by rw [e1]; omega) _, b1.up (below_new _ _), b2, n1'.alloc (by rw [e1]; omega) _, n2', by rw [World.size_alloc, e1]⟩

theorem cmp_signs (x y : Int) (h : (decide (x < 0) == decide (y < 0)) = false) : cmpI (cmpI x 0) (cmpI y 0) = cmpI x y := by
  unfold cmpI
  by_cases h1 : x < 0 <;> by_cases h2 : y < 0 <;> simp [h1, h2] at h ⊢
  · have : 0 ≤ y := by omega
    rcases Int.lt_or_eq_of_le this with c | c
    · simp [c, show x < y by omega]
    · subst c; simp [h1]
  · have : 0 ≤ x := by omega
    rcases Int.lt_or_eq_of_le this with c | c
    · simp [c, show ¬ x < y by omega, show y < x by omega]
    · subst c; simp [h2, show ¬ (0 : Int) < y by omega]

theorem cmp_same (x y : Int) (f g : Nat → Nat) (n m : Nat) (hf : nv f n = x.natAbs) (hg : nv g m = y.natAbs) (h : (decide (x < 0) == decide (y < 0)) = true) :
    cmpI (nv f n : Int) (nv g m : Int) * orI (cmpI x 0) = cmpI x y := by
  rw [hf, hg]
  unfold orI
  have h' : (x < 0 ↔ y < 0) := by by_cases h1 : x < 0 <;> by_cases h2 : y < 0 <;> simp [h1, h2] at h ⊢
  rcases Int.lt_trichotomy x 0 with c | c | c
  · have c2 := h'.1 c
    rw [cmpI_lt c]
    simp only [show ((-1 : Int) = 0) = False from by simp, if_false]
    rcases Int.lt_trichotomy x y with d | d | d
    · rw [cmpI_lt d, cmpI_gt (by omega)]; rfl
    · rw [cmpI_eq d, cmpI_eq (by omega)]; rfl
    · rw [cmpI_gt d, cmpI_lt (by omega)]; rfl
  · subst c
    have c2 : ¬ y < 0 := fun e => by have := h'.2 e; omega
    rw [cmpI_eq (x := 0) (y := 0) rfl, if_pos rfl, Int.mul_one]
    congr 1; omega
  · have c2 : ¬ y < 0 := fun e => by have := h'.2 e; omega
    rw [cmpI_gt c]
    simp only [show ((1 : Int) = 0) = False from by simp, if_false, Int.mul_one]
    congr 1 <;> omega

theorem cmpI_range (x y : Int) : -1 ≤ cmpI x y ∧ cmpI x y ≤ 1 := by unfold cmpI; split <;> (try split) <;> omega

end Go.Proofs.YtdbpkoddfcdhdaaGreat

namespace Go.Proofs.YtdbpkoddfcdhdaaGreat
open Go.RowKit

/-- Block B is a variable that holds the integer z. -/
def Vx (w : World) (B : Nat) (z : Int) : Prop :=
  ∃ s a n c, Bx w B (.bool s) (.slice a n c) ∧ It w (.agg #[.bool s, .slice a n c]) z ∧ NoW w B

theorem Vx.mk {w : World} {B : Nat} {s : Bool} {a : Option Addr} {n c : Nat} {z : Int} (h : Bx w B (.bool s) (.slice a n c)) (hv : It w (.agg #[.bool s, .slice a n c]) z) (hn : NoW w B) : Vx w B z := ⟨s, a, n, c, h, hv, hn⟩

theorem Vx.lt {w : World} {B : Nat} {z : Int} (h : Vx w B z) : B < w.heap.size := by
  obtain ⟨s, a, n, c, h1, _⟩ := h
  exact h1.lt

theorem Vx.up {w w' : World} {B : Nat} {z : Int} (h : Vx w B z) (hb : Below w.heap.size w w') : Vx w' B z := by
  obtain ⟨s, a, n, c, h1, h2, h3⟩ := h
  exact ⟨s, a, n, c, h1.up hb, h2.up hb, h3.up h1.lt hb⟩

theorem Vx.alloc {w : World} {B : Nat} {z : Int} (h : Vx w B z) (o : Obj) : Vx (w.alloc o) B z := h.up (below_new _ _)
theorem Vx.drew {w : World} {B : Nat} {z : Int} (h : Vx w B z) : Vx w.drew B z := by
  obtain ⟨s, a, n, c, h1, h2, h3⟩ := h
  exact ⟨s, a, n, c, h1.drew, h2.drew, h3.drew⟩
theorem Vx.drewN {w : World} {B : Nat} {z : Int} (h : Vx w B z) (k : Nat) : Vx (w.drewN k) B z := by
  obtain ⟨s, a, n, c, h1, h2, h3⟩ := h
  exact ⟨s, a, n, c, h1.drewN k, h2.drewN k, h3.drewN k⟩

theorem Vx.new {w : World} {B T : Nat} {s : Bool} {a : Option Addr} {n c : Nat} {z : Int} (hB : B = w.heap.size) (hv : It w (.agg #[.bool s, .slice a n c]) z) : Vx (w.alloc (.cells #[.bool s, .slice a n c] T)) B z := by
  subst hB
  exact ⟨s, a, n, c, Bx.new _ _ _ _, hv.up (below_new _ _), NoW.new _ _ _ rfl⟩

theorem Vx.new0 {w : World} {B T : Nat} (hB : B = w.heap.size) : Vx (w.alloc (.cells #[.bool false, .slice none 0 0] T)) B 0 := Vx.new hB (it_zero _)

/-- Block B is a variable of an integer. -/
def Va (w : World) (B : Nat) : Prop := ∃ z, Vx w B z
theorem Vx.va {w : World} {B : Nat} {z : Int} (h : Vx w B z) : Va w B := ⟨z, h⟩
theorem Va.up {w w' : World} {B : Nat} (h : Va w B) (hb : Below w.heap.size w w') : Va w' B := h.imp fun _ h => h.up hb
theorem Va.alloc {w : World} {B : Nat} (h : Va w B) (o : Obj) : Va (w.alloc o) B := h.imp fun _ h => h.alloc o
theorem Va.drew {w : World} {B : Nat} (h : Va w B) : Va w.drew B := h.imp fun _ h => h.drew
theorem Va.new0 {w : World} {B T : Nat} (hB : B = w.heap.size) : Va (w.alloc (.cells #[.bool false, .slice none 0 0] T)) B := ⟨0, Vx.new0 hB⟩

theorem Vx.put {w : World} {B : Nat} {s : Bool} {a : Option Addr} {n c : Nat} {z : Int} (h : Va w B) (hv : It w (.agg #[.bool s, .slice a n c]) z) :
    Vx ((w.setCell ⟨B, 0, none⟩ (.bool s)).setCell ⟨B, 1, none⟩ (.slice a n c)) B z := by
  obtain ⟨z0, s', a', n', c', h1, h2, h3⟩ := h
  exact ⟨s, a, n, c, h1.put _ _, hv.put h3 _ _ _ _, (h3.set _ _ rfl).set _ _ rfl⟩

theorem Vx.other {w : World} {B B' : Nat} {s : Bool} {a : Option Addr} {n c : Nat} {z : Int} (h : Vx w B z) (h' : Va w B') (hne : B' ≠ B) :
    Vx ((w.setCell ⟨B', 0, none⟩ (.bool s)).setCell ⟨B', 1, none⟩ (.slice a n c)) B z := by
  obtain ⟨s1, a1, n1, c1, h1, h2, h3⟩ := h
  obtain ⟨z0, s2, a2, n2, c2, k1, k2, k3⟩ := h'
  exact ⟨s1, a1, n1, c1, (h1.other hne _ _).other hne _ _, h2.put k3 _ _ _ _, (h3.set _ _ rfl).set _ _ rfl⟩

theorem Va.st {w : World} {B B' : Nat} {s : Bool} {a : Option Addr} {n c : Nat} (h : Va w B) (h' : Va w B') (hne : B' ≠ B) :
    Va ((w.setCell ⟨B', 0, none⟩ (.bool s)).setCell ⟨B', 1, none⟩ (.slice a n c)) B := h.imp fun _ h => h.other h' hne

theorem It.st {w : World} {B' : Nat} {s : Bool} {a : Option Addr} {n c : Nat} {z : Int} {v : Value} (h : It w v z) (h' : Va w B') :
    It ((w.setCell ⟨B', 0, none⟩ (.bool s)).setCell ⟨B', 1, none⟩ (.slice a n c)) v z := by
  obtain ⟨z0, s2, a2, n2, c2, k1, k2, k3⟩ := h'
  exact h.put k3 _ _ _ _
theorem It.alloc {w : World} {v : Value} {z : Int} (h : It w v z) (o : Obj) : It (w.alloc o) v z := h.up (below_new _ _)
theorem Nt.alloc {w : World} {v : Value} {x : Nat} (h : Nt w v x) (o : Obj) : Nt (w.alloc o) v x := h.up (below_new _ _)
theorem Nt.drew {w : World} {v : Value} {x : Nat} (h : Nt w v x) : Nt w.drew v x := h
theorem Nt.st {w : World} {B' : Nat} {s : Bool} {a : Option Addr} {n c : Nat} {x : Nat} {v : Value} (h : Nt w v x) (h' : Va w B') :
    Nt ((w.setCell ⟨B', 0, none⟩ (.bool s)).setCell ⟨B', 1, none⟩ (.slice a n c)) v x := by
  obtain ⟨z0, s2, a2, n2, c2, k1, k2, k3⟩ := h'
  exact (h.set k3 _ _).set (k3.set _ _ rfl) _ _

theorem Va.free {w : World} {B : Nat} (h : Va w B) : w.frozen? ⟨B, 0, none⟩ = false ∧ w.frozen? ⟨B, 1, none⟩ = false := by
  obtain ⟨z, s, a, n, c, h1, h2, h3⟩ := h
  exact ⟨h1.f0, h1.f1⟩

theorem Va.cells {w : World} {B : Nat} (h : Va w B) : ∃ s a n c, w.cell? ⟨B, 0, none⟩ = some (.bool s) ∧ w.cell? ⟨B, 1, none⟩ = some (.slice a n c) ∧ w.frozen? ⟨B, 0, none⟩ = false ∧ w.frozen? ⟨B, 1, none⟩ = false := by
  obtain ⟨z, s, a, n, c, h1, h2, h3⟩ := h
  exact ⟨s, a, n, c, h1.c0, h1.c1, h1.f0, h1.f1⟩

/-- Below, for the search. -/
theorem Bl.st {W w : World} {B' : Nat} {s : Bool} {a : Option Addr} {n c : Nat} (h : Below W.heap.size W w) (hB : W.heap.size ≤ B') :
    Below W.heap.size W ((w.setCell ⟨B', 0, none⟩ (.bool s)).setCell ⟨B', 1, none⟩ (.slice a n c)) := (h.setCell (by exact hB) _).setCell (by exact hB) _
theorem Bl.alloc {W w : World} (h : Below W.heap.size W w) (o : Obj) : Below W.heap.size W (w.alloc o) := h.alloc h.size o
theorem Bl.drew {W w : World} (h : Below W.heap.size W w) : Below W.heap.size W w.drew := h.drew
theorem Bl.up {W w w' : World} (h : Below W.heap.size W w) (hb : Below w.heap.size w w') : Below W.heap.size W w' := h.trans (hb.mono h.size)

theorem cellN {w : World} {B o : Nat} {v : Value} (h : w.cell? ⟨B, o, none⟩ = some v) (ob : Obj) : (w.alloc ob).cell? ⟨B, o, none⟩ = some v := keepc (below_new _ _) h
theorem cellD {w : World} {B o : Nat} {v : Value} (h : w.cell? ⟨B, o, none⟩ = some v) : w.drew.cell? ⟨B, o, none⟩ = some v := h
theorem cellS {w : World} {B B' o i : Nat} {v u : Value} (h : w.cell? ⟨B, o, none⟩ = some v) (hne : B' ≠ B) : (w.setCell ⟨B', i, none⟩ u).cell? ⟨B, o, none⟩ = some v := by
  rw [World.cell?_setCell_other _ _ _ _ (by simp [hne])]; exact h

/-- A new variable's cells, in a later world. -/
theorem Vx.cells {w : World} {B : Nat} {z : Int} (h : Vx w B z) : ∃ s a n c, w.cell? ⟨B, 0, none⟩ = some (.bool s) ∧ w.cell? ⟨B, 1, none⟩ = some (.slice a n c) ∧ w.frozen? ⟨B, 0, none⟩ = false ∧ w.frozen? ⟨B, 1, none⟩ = false ∧ It w (.agg #[.bool s, .slice a n c]) z := by
  obtain ⟨s, a, n, c, h1, h2, h3⟩ := h
  exact ⟨s, a, n, c, h1.c0, h1.c1, h1.f0, h1.f1, h2⟩

/-- The search, for goals Vx, It, Below over worlds that are made of calls, new blocks, draws, stores into variables. -/
theorem srch {p : Prop} (h : p := by (repeat' (first | with_reducible assumption | (with_reducible exact Vx.va (by with_reducible assumption)) | (with_reducible refine Va.new0 (by first | rfl | (simp only [World.size_alloc, World.size_drew, World.size_setCell]; done) | (simp only [World.size_alloc, World.size_drew, World.size_setCell]; omega) | omega)) | (with_reducible refine Va.alloc ?_ _) | (with_reducible refine Va.drew ?_) | (with_reducible refine Va.st ?_ ?_ (by omega)) | (with_reducible refine Va.up ?_ (by with_reducible assumption)) | (with_reducible refine Vx.put ?_ ?_) | (with_reducible refine Vx.other ?_ ?_ (by omega)) | (with_reducible refine Vx.new0 (by first | rfl | (simp only [World.size_alloc, World.size_drew, World.size_setCell]; done) | (simp only [World.size_alloc, World.size_drew, World.size_setCell]; omega) | omega)) | (with_reducible refine Vx.new (by first | rfl | (simp only [World.size_alloc, World.size_drew, World.size_setCell]; done) | (simp only [World.size_alloc, World.size_drew, World.size_setCell]; omega) | omega) ?_) | (with_reducible refine Vx.alloc ?_ _) | (with_reducible refine Vx.drew ?_) | (with_reducible refine Vx.up ?_ (by with_reducible assumption)) | (with_reducible refine It.st ?_ ?_) | (with_reducible refine It.alloc ?_ _) | (with_reducible refine It.drew ?_) | (with_reducible refine It.up ?_ (by with_reducible assumption)) | (with_reducible refine Nt.st ?_ ?_) | (with_reducible refine Nt.alloc ?_ _) | (with_reducible refine Nt.drew ?_) | (with_reducible refine Nt.up ?_ (by with_reducible assumption)) | (with_reducible refine Bl.st ?_ (by omega)) | (with_reducible refine Bl.alloc ?_ _) | (with_reducible refine Bl.drew ?_) | (with_reducible refine Bl.up ?_ (by with_reducible assumption)) | (with_reducible exact Below.refl _ _)))) : p := h

end Go.Proofs.YtdbpkoddfcdhdaaGreat

namespace Go.Proofs.YtdbpkoddfcdhdaaGreat
open Go.RowKit

theorem infoI : (Tryz.prog.info? 56).map (fun i => (i.zero, i.size, i.bytes)) = some (some (.agg #[.bool false, .slice none 0 0]), 2, 32) := by kernel_rfl
theorem infoR : (Tryz.prog.info? 36).map (fun i => (i.zero, i.size, i.bytes)) = some (some (.slice none 0 0), 1, 24) := by kernel_rfl

/-- The l.length integers from a on. -/
def Ri (w : World) (a : Option Addr) (l : List Int) : Prop :=
  l = [] ∨ ∃ b off, a = some ⟨b, off, none⟩ ∧ b < w.heap.size ∧ ∀ i, i < l.length → ∃ s c n k, w.cell? ⟨b, off + i * 2, none⟩ = some (.bool s) ∧ w.cell? ⟨b, off + i * 2 + 1, none⟩ = some (.slice c n k) ∧ It w (.agg #[.bool s, .slice c n k]) (l.getD i 0)

/-- v is a row: the integers l. -/
def Rw (w : World) (v : Value) (l : List Int) : Prop := ∃ a cap, v = .slice a l.length cap ∧ l.length ≤ cap ∧ Ri w a l

theorem Ri.up {w w' : World} {a : Option Addr} {l : List Int} (h : Ri w a l) (hb : Below w.heap.size w w') : Ri w' a l := by
  rcases h with h | ⟨b, off, h1, h2, h3⟩
  · exact .inl h
  · refine .inr ⟨b, off, h1, Nat.lt_of_lt_of_le h2 hb.size, fun i hi => ?_⟩
    obtain ⟨s, c, n, k, c0, c1, c2⟩ := h3 i hi
    exact ⟨s, c, n, k, (hb.cell (p := ⟨b, _, none⟩) h2).trans c0, (hb.cell (p := ⟨b, _, none⟩) h2).trans c1, c2.up hb⟩

theorem Rw.up {w w' : World} {v : Value} {l : List Int} (h : Rw w v l) (hb : Below w.heap.size w w') : Rw w' v l := by
  obtain ⟨a, cap, h1, h2, h3⟩ := h
  exact ⟨a, cap, h1, h2, h3.up hb⟩
theorem Rw.alloc {w : World} {v : Value} {l : List Int} (h : Rw w v l) (o : Obj) : Rw (w.alloc o) v l := h.up (below_new _ _)
theorem Rw.drew {w : World} {v : Value} {l : List Int} (h : Rw w v l) : Rw w.drew v l := h

theorem Ri.at {w : World} {a : Option Addr} {l : List Int} (h : Ri w a l) {i : Nat} (hi : i < l.length) :
    ∃ b off, a = some ⟨b, off, none⟩ ∧ b < w.heap.size ∧ ∀ i, i < l.length → ∃ s c n k, w.cell? ⟨b, off + i * 2, none⟩ = some (.bool s) ∧ w.cell? ⟨b, off + i * 2 + 1, none⟩ = some (.slice c n k) ∧ It w (.agg #[.bool s, .slice c n k]) (l.getD i 0) := by
  rcases h with rfl | h
  · simp at hi
  · exact h

/-- Block g, of the call's own: the integers l. -/
def Ow (w : World) (g : Nat) (l : List Int) : Prop :=
  ∃ cur, w.heap[g]? = some (.cells cur 56 (0, 0)) ∧ cur.size = l.length * 2 ∧ NoW w g ∧ ∀ i, i < l.length → ∃ s c n k, cur[i * 2]? = some (.bool s) ∧ cur[i * 2 + 1]? = some (.slice c n k) ∧ It w (.agg #[.bool s, .slice c n k]) (l.getD i 0)

theorem Ow.lt {w : World} {g : Nat} {l : List Int} (h : Ow w g l) : g < w.heap.size := by
  obtain ⟨cur, h1, _⟩ := h
  exact (Array.getElem?_eq_some_iff.1 h1).1

theorem Ow.cells {w : World} {g : Nat} {l : List Int} (h : Ow w g l) {i : Nat} (hi : i < l.length) :
    ∃ s c n k, w.cell? ⟨g, i * 2, none⟩ = some (.bool s) ∧ w.cell? ⟨g, i * 2 + 1, none⟩ = some (.slice c n k) ∧ It w (.agg #[.bool s, .slice c n k]) (l.getD i 0) := by
  obtain ⟨cur, h1, h2, h3, h4⟩ := h
  obtain ⟨s, c, n, k, c0, c1, c2⟩ := h4 i hi
  exact ⟨s, c, n, k, by simp [World.cell?, h1, c0], by simp [World.cell?, h1, c1], c2⟩

theorem Ow.free {w : World} {g : Nat} {l : List Int} (h : Ow w g l) (i : Nat) : w.frozen? ⟨g, i, none⟩ = false := by
  obtain ⟨cur, h1, _⟩ := h
  simp [World.frozen?, h1]

theorem Ow.row {w : World} {g : Nat} {l : List Int} (h : Ow w g l) {cap : Nat} (hc : l.length ≤ cap) : Rw w (.slice (some ⟨g, 0, none⟩) l.length cap) l := by
  refine ⟨_, _, rfl, hc, .inr ⟨g, 0, rfl, h.lt, fun i hi => ?_⟩⟩
  obtain ⟨s, c, n, k, c0, c1, c2⟩ := h.cells hi
  exact ⟨s, c, n, k, by rw [Nat.zero_add]; exact c0, by rw [Nat.zero_add]; exact c1, c2⟩

theorem Ow.up {w w' : World} {g : Nat} {l : List Int} (h : Ow w g l) (hb : Below w.heap.size w w') : Ow w' g l := by
  have hl := h.lt
  obtain ⟨cur, h1, h2, h3, h4⟩ := h
  refine ⟨cur, (hb.block g hl).trans h1, h2, h3.up hl hb, fun i hi => ?_⟩
  obtain ⟨s, c, n, k, c0, c1, c2⟩ := h4 i hi
  exact ⟨s, c, n, k, c0, c1, c2.up hb⟩
theorem Ow.alloc {w : World} {g : Nat} {l : List Int} (h : Ow w g l) (o : Obj) : Ow (w.alloc o) g l := h.up (below_new _ _)

theorem Ow.drew {w : World} {g : Nat} {l : List Int} (h : Ow w g l) : Ow w.drew g l := h

/-- An integer is stored at place i. -/
theorem Ow.set {w : World} {g : Nat} {l : List Int} (h : Ow w g l) {i : Nat} (hi : i < l.length) {s : Bool} {a : Option Addr} {n c : Nat} {z : Int} (hv : It w (.agg #[.bool s, .slice a n c]) z) :
    Ow ((w.setCell ⟨g, i * 2, none⟩ (.bool s)).setCell ⟨g, i * 2 + 1, none⟩ (.slice a n c)) g (l.set i z) := by
  obtain ⟨cur, h1, h2, h3, h4⟩ := h
  have h3' := (h3.set ⟨g, i * 2, none⟩ (.bool s) rfl).set ⟨g, i * 2 + 1, none⟩ (.slice a n c) rfl
  have keep : ∀ {v z}, It w v z → It ((w.setCell ⟨g, i * 2, none⟩ (.bool s)).setCell ⟨g, i * 2 + 1, none⟩ (.slice a n c)) v z := fun hv => (hv.set h3 _ _).set (h3.set _ _ rfl) _ _
  refine ⟨(cur.setIfInBounds (i * 2) (.bool s)).setIfInBounds (i * 2 + 1) (.slice a n c), ?_, by simpa using h2, h3', ?_⟩
  · simp [World.setCell, Array.getElem?_modify, h1]
  · intro j hj
    simp only [List.length_set] at hj
    by_cases e : i = j
    · subst e
      refine ⟨s, a, n, c, ?_, ?_, ?_⟩
      · rw [Array.getElem?_setIfInBounds_ne (by omega), Array.getElem?_setIfInBounds_self_of_lt (by omega)]
      · rw [Array.getElem?_setIfInBounds_self_of_lt (by simp; omega)]
      · simp only [List.getD_eq_getElem?_getD, List.getElem?_set_self hi, Option.getD_some]
        exact keep hv
    · obtain ⟨s', c', n', k', c0, c1, c2⟩ := h4 j hj
      refine ⟨s', c', n', k', ?_, ?_, ?_⟩
      · rw [Array.getElem?_setIfInBounds_ne (by omega), Array.getElem?_setIfInBounds_ne (by omega)]; exact c0
      · rw [Array.getElem?_setIfInBounds_ne (by omega), Array.getElem?_setIfInBounds_ne (by omega)]; exact c1
      · simp only [List.getD_eq_getElem?_getD, List.getElem?_set_ne e]
        exact keep (by simpa using c2)

theorem zrow_getD (n i : Nat) : (List.replicate n (0 : Int)).getD i 0 = 0 := by
  simp only [List.getD_eq_getElem?_getD, List.getElem?_replicate]; split <;> rfl

theorem Ow.zeros (w : World) (n : Nat) : Ow (w.alloc (.cells (madeCells #[.bool false, .slice none 0 0] (n * 2)) 56)) w.heap.size (List.replicate n 0) := by
  have hs : ∀ j, j < n * 2 → (madeCells #[Value.bool false, .slice none 0 0] (n * 2))[j]? = some (if j % 2 = 0 then .bool false else .slice none 0 0) := by
    intro j hj
    simp only [madeCells, Array.getElem?_map]
    simp only [Array.getElem?_range, hj, if_true, Option.map_some]
    have : j % 2 = 0 ∨ j % 2 = 1 := by omega
    rcases this with h | h <;> simp [h]
  refine ⟨_, heap_alloc_new w _, by simp [size_madeCells], ?_, ?_⟩
  · intro o x hx
    rw [World.cell?_alloc_at _ _ _ _ rfl] at hx
    by_cases ho : o < n * 2
    · rw [hs o ho] at hx
      split at hx <;> simp at hx
    · rw [Array.getElem?_eq_none (by rw [size_madeCells]; omega)] at hx
      cases hx
  · intro i hi
    simp only [List.length_replicate] at hi
    refine ⟨false, none, 0, 0, ?_, ?_, ?_⟩
    · rw [hs _ (by omega)]; simp
    · rw [hs _ (by omega), if_neg (by omega)]
    · rw [zrow_getD]; exact it_zero _

theorem mk_row (z : Int) (k : Nat) (hz : z = k) (hk : k ≤ 1099511627776) (w : World) :
    (Instr.makeSlice 36 (.int .i64 z) (.int .i64 z)).run Tryz.prog w = .ok (.slice (some ⟨w.heap.size, 0, none⟩) k k) (w.alloc (.cells (madeCells #[.bool false, .slice none 0 0] (k * 2)) 56)) := by
  subst hz
  obtain ⟨i0, hi, hz0, hz1, hz2⟩ := info_parts infoI
  have h := run_make (P := Tryz.prog) w 36 56 i0 (.agg #[.bool false, .slice none 0 0]) Tryz.underlying36 hi hz0 .i64 .i64 (k : Int) (k : Int) (by omega) (Int.le_refl _) (by rw [hz2]; omega) (by omega)
  simpa [hz1, Value.cells] using h

/-- v is a matrix: the rows m. -/
def Mi (w : World) (a : Option Addr) (m : List (List Int)) : Prop :=
  m = [] ∨ ∃ b off, a = some ⟨b, off, none⟩ ∧ b < w.heap.size ∧ ∀ i, i < m.length → ∃ c k, w.cell? ⟨b, off + i, none⟩ = some (.slice c (m.getD i []).length k) ∧ Rw w (.slice c (m.getD i []).length k) (m.getD i [])

def Mx (w : World) (v : Value) (m : List (List Int)) : Prop := ∃ a cap, v = .slice a m.length cap ∧ m.length ≤ cap ∧ Mi w a m

theorem Mi.up {w w' : World} {a : Option Addr} {m : List (List Int)} (h : Mi w a m) (hb : Below w.heap.size w w') : Mi w' a m := by
  rcases h with h | ⟨b, off, h1, h2, h3⟩
  · exact .inl h
  · refine .inr ⟨b, off, h1, Nat.lt_of_lt_of_le h2 hb.size, fun i hi => ?_⟩
    obtain ⟨c, k, c0, c1⟩ := h3 i hi
    exact ⟨c, k, (hb.cell (p := ⟨b, _, none⟩) h2).trans c0, c1.up hb⟩
theorem Mx.up {w w' : World} {v : Value} {m : List (List Int)} (h : Mx w v m) (hb : Below w.heap.size w w') : Mx w' v m := by
  obtain ⟨a, cap, h1, h2, h3⟩ := h
  exact ⟨a, cap, h1, h2, h3.up hb⟩
theorem Mx.alloc {w : World} {v : Value} {m : List (List Int)} (h : Mx w v m) (o : Obj) : Mx (w.alloc o) v m := h.up (below_new _ _)
theorem Mx.drew {w : World} {v : Value} {m : List (List Int)} (h : Mx w v m) : Mx w.drew v m := h

theorem Mi.at {w : World} {a : Option Addr} {m : List (List Int)} (h : Mi w a m) {i : Nat} (hi : i < m.length) :
    ∃ b off, a = some ⟨b, off, none⟩ ∧ b < w.heap.size ∧ ∀ i, i < m.length → ∃ c k, w.cell? ⟨b, off + i, none⟩ = some (.slice c (m.getD i []).length k) ∧ Rw w (.slice c (m.getD i []).length k) (m.getD i []) := by
  rcases h with rfl | h
  · simp at hi
  · exact h

/-- Cells of block g are slices alone. -/
def Sl (w : World) (g : Nat) : Prop := ∀ o v, w.cell? ⟨g, o, none⟩ = some v → ∃ a n c, v = .slice a n c

/-- Block g, of the call's own: the rows m. -/
def Om (w : World) (g : Nat) (m : List (List Int)) : Prop :=
  ∃ cur, w.heap[g]? = some (.cells cur 36 (0, 0)) ∧ cur.size = m.length ∧ ∀ i, i < m.length → ∃ c k, cur[i]? = some (.slice c (m.getD i []).length k) ∧ Rw w (.slice c (m.getD i []).length k) (m.getD i [])

theorem Om.lt {w : World} {g : Nat} {m : List (List Int)} (h : Om w g m) : g < w.heap.size := by
  obtain ⟨cur, h1, _⟩ := h
  exact (Array.getElem?_eq_some_iff.1 h1).1

theorem Om.cells {w : World} {g : Nat} {m : List (List Int)} (h : Om w g m) {i : Nat} (hi : i < m.length) :
    ∃ c k, w.cell? ⟨g, i, none⟩ = some (.slice c (m.getD i []).length k) ∧ Rw w (.slice c (m.getD i []).length k) (m.getD i []) := by
  obtain ⟨cur, h1, h2, h3⟩ := h
  obtain ⟨c, k, c0, c1⟩ := h3 i hi
  exact ⟨c, k, by simp [World.cell?, h1, c0], c1⟩

theorem Om.free {w : World} {g : Nat} {m : List (List Int)} (h : Om w g m) (i : Nat) : w.frozen? ⟨g, i, none⟩ = false := by
  obtain ⟨cur, h1, _⟩ := h
  simp [World.frozen?, h1]

theorem Om.sl {w : World} {g : Nat} {m : List (List Int)} (h : Om w g m) : Sl w g := by
  obtain ⟨cur, h1, h2, h3⟩ := h
  intro o v hv
  simp only [World.cell?, h1] at hv
  have : o < m.length := by
    rcases Nat.lt_or_ge o m.length with h | h
    · exact h
    · simp [Array.getElem?_eq_none (show cur.size ≤ o by omega)] at hv
  obtain ⟨c, k, c0, c1⟩ := h3 o this
  simp [c0] at hv
  exact ⟨_, _, _, hv.symm⟩

theorem Om.mat {w : World} {g : Nat} {m : List (List Int)} (h : Om w g m) {cap : Nat} (hc : m.length ≤ cap) : Mx w (.slice (some ⟨g, 0, none⟩) m.length cap) m := by
  refine ⟨_, _, rfl, hc, .inr ⟨g, 0, rfl, h.lt, fun i hi => ?_⟩⟩
  obtain ⟨c, k, c0, c1⟩ := h.cells hi
  exact ⟨c, k, by rw [Nat.zero_add]; exact c0, c1⟩

theorem Om.up {w w' : World} {g : Nat} {m : List (List Int)} (h : Om w g m) (hb : Below w.heap.size w w') : Om w' g m := by
  have hl := h.lt
  obtain ⟨cur, h1, h2, h3⟩ := h
  refine ⟨cur, (hb.block g hl).trans h1, h2, fun i hi => ?_⟩
  obtain ⟨c, k, c0, c1⟩ := h3 i hi
  exact ⟨c, k, c0, c1.up hb⟩
theorem Om.alloc {w : World} {g : Nat} {m : List (List Int)} (h : Om w g m) (o : Obj) : Om (w.alloc o) g m := h.up (below_new _ _)
theorem Om.drew {w : World} {g : Nat} {m : List (List Int)} (h : Om w g m) : Om w.drew g m := h

theorem Sl.noW {w : World} {g : Nat} (h : Sl w g) : NoW w g := by
  intro o x hx
  obtain ⟨a, n, c, e⟩ := h _ _ hx
  cases e

/-- A row survives a store of a slice into a block of slices. -/
theorem Rw.set {w : World} {v : Value} {l : List Int} (h : Rw w v l) {g : Nat} (hg : Sl w g) (i : Nat) (u : Value) : Rw (w.setCell ⟨g, i, none⟩ u) v l := by
  obtain ⟨a, cap, h1, h2, h3⟩ := h
  refine ⟨a, cap, h1, h2, ?_⟩
  rcases h3 with h | ⟨b, off, e1, e2, e3⟩
  · exact .inl h
  · refine .inr ⟨b, off, e1, by simpa using e2, fun j hj => ?_⟩
    obtain ⟨s, c, n, k, c0, c1, c2⟩ := e3 j hj
    have hne : g ≠ b := by
      rintro rfl
      obtain ⟨x, y, z, e⟩ := hg _ _ c0
      cases e
    exact ⟨s, c, n, k, by rw [World.cell?_setCell_other _ _ _ _ (by simp [hne])]; exact c0, by rw [World.cell?_setCell_other _ _ _ _ (by simp [hne])]; exact c1, c2.set hg.noW _ _⟩

/-- A row is stored at place i. -/
theorem Om.set {w : World} {g : Nat} {m : List (List Int)} (h : Om w g m) {i : Nat} (hi : i < m.length) {v : Value} {l : List Int} (hv : Rw w v l) :
    Om (w.setCell ⟨g, i, none⟩ v) g (m.set i l) := by
  have hsl := h.sl
  obtain ⟨cur, h1, h2, h3⟩ := h
  refine ⟨cur.setIfInBounds i v, ?_, by simpa using h2, ?_⟩
  · simp [World.setCell, Array.getElem?_modify, h1]
  · intro j hj
    simp only [List.length_set] at hj
    by_cases e : i = j
    · subst e
      have hv' := hv.set hsl i v
      obtain ⟨a, cap, rfl, k1, k2⟩ := hv
      refine ⟨a, cap, ?_, ?_⟩
      · rw [Array.getElem?_setIfInBounds_self_of_lt (by omega)]
        simp only [List.getD_eq_getElem?_getD, List.getElem?_set_self hi, Option.getD_some]
      · simp only [List.getD_eq_getElem?_getD, List.getElem?_set_self hi, Option.getD_some]
        exact hv'
    · obtain ⟨c, k, c0, c1⟩ := h3 j hj
      refine ⟨c, k, ?_, ?_⟩
      · rw [Array.getElem?_setIfInBounds_ne e]
        simp only [List.getD_eq_getElem?_getD, List.getElem?_set_ne e]
        simpa using c0
      · simp only [List.getD_eq_getElem?_getD, List.getElem?_set_ne e]
        exact (by simpa using c1 : Rw w _ _).set hsl _ _

theorem Om.zeros (w : World) (n : Nat) : Om (w.alloc (.cells (madeCells #[.slice none 0 0] n) 36)) w.heap.size (List.replicate n []) := by
  have hs : ∀ j, j < n → (madeCells #[Value.slice none 0 0] n)[j]? = some (.slice none 0 0) := by
    intro j hj
    simp only [madeCells, Array.getElem?_map]
    simp [Array.getElem?_range, hj, Nat.mod_one]
  have hg : ∀ i, (List.replicate n ([] : List Int)).getD i [] = [] := by
    intro i; simp only [List.getD_eq_getElem?_getD, List.getElem?_replicate]; split <;> rfl
  refine ⟨_, heap_alloc_new w _, by simp [size_madeCells], fun i hi => ?_⟩
  simp only [List.length_replicate] at hi
  rw [hg]
  exact ⟨none, 0, hs i hi, none, 0, rfl, Nat.le_refl _, .inl rfl⟩

theorem mk_mat (z : Int) (k : Nat) (hz : z = k) (hk : k ≤ 1099511627776) (w : World) :
    (Instr.makeSlice 27 (.int .i64 z) (.int .i64 z)).run Tryz.prog w = .ok (.slice (some ⟨w.heap.size, 0, none⟩) k k) (w.alloc (.cells (madeCells #[.slice none 0 0] k) 36)) := by
  subst hz
  obtain ⟨i0, hi, hz0, hz1, hz2⟩ := info_parts infoR
  have h := run_make (P := Tryz.prog) w 27 36 i0 (.slice none 0 0) Tryz.underlying27 hi hz0 .i64 .i64 (k : Int) (k : Int) (by omega) (Int.le_refl _) (by rw [hz2]; omega) (by omega)
  simpa [hz1, Value.cells] using h

/-- Block g alone may have been written; there may be new blocks. -/
structure But (g : Nat) (w w' : World) : Prop where
  os : w'.os = w.os
  tape : w'.tape = w.tape
  output : w'.output = w.output
  size : w.heap.size ≤ w'.heap.size
  block : ∀ k, k < w.heap.size → k ≠ g → w'.heap[k]? = w.heap[k]?

theorem But.refl (g : Nat) (w : World) : But g w w := ⟨rfl, rfl, rfl, Nat.le_refl _, fun _ _ _ => rfl⟩
theorem But.trans {g : Nat} {a b c : World} (h : But g a b) (k : But g b c) : But g a c :=
  ⟨k.os.trans h.os, k.tape.trans h.tape, k.output.trans h.output, Nat.le_trans h.size k.size, fun i hi hg => (k.block i (Nat.lt_of_lt_of_le hi h.size) hg).trans (h.block i hi hg)⟩
theorem But.up {g : Nat} {a b c : World} (h : But g a b) (k : Below b.heap.size b c) : But g a c :=
  h.trans ⟨k.os, k.tape, k.output, k.size, fun i hi _ => k.block i hi⟩
theorem But.upB {g : Nat} {a b c : World} (h : But g a b) (k : Below a.heap.size b c) : But g a c :=
  ⟨k.os.trans h.os, k.tape.trans h.tape, k.output.trans h.output, Nat.le_trans h.size k.size, fun i hi hg => (k.block i hi).trans (h.block i hi hg)⟩
theorem But.alloc {g : Nat} {a b : World} (h : But g a b) (o : Obj) : But g a (b.alloc o) := h.up (below_new _ _)
theorem But.drew {g : Nat} {a b : World} (h : But g a b) : But g a b.drew := ⟨h.os, h.tape, h.output, h.size, h.block⟩
theorem But.set {g : Nat} {a b : World} (h : But g a b) (i : Nat) (v : Value) : But g a (b.setCell ⟨g, i, none⟩ v) :=
  h.trans ⟨rfl, rfl, rfl, by simp, fun k _ hg => Below.heap_setCell _ _ _ _ hg⟩
theorem But.below {g : Nat} {W a b : World} (h : Below W.heap.size W a) (hg : W.heap.size ≤ g) (k : But g a b) : Below W.heap.size W b :=
  h.trans ⟨k.os, k.tape, k.output, k.size, fun i hi => k.block i (Nat.lt_of_lt_of_le hi h.size) (by omega)⟩
/-- What is new in the call may be written besides. -/
theorem But.st {g : Nat} {a b : World} (h : But g a b) {B : Nat} (hB : a.heap.size ≤ B) (i : Nat) (v : Value) : But g a (b.setCell ⟨B, i, none⟩ v) :=
  ⟨h.os, h.tape, h.output, by simpa using h.size, fun k hk hg => (Below.heap_setCell _ _ _ _ (by show k ≠ B; omega)).trans (h.block k hk hg)⟩

theorem Wd.but {w w' : World} {a : Option Addr} {n : Nat} {f : Nat → Nat} (h : Wd w a n f) {g : Nat} (hg : NoW w g) (hb : But g w w') : Wd w' a n f := by
  rcases h with h | ⟨b, off, h1, h2, h3⟩
  · exact .inl h
  · rcases Nat.eq_zero_or_pos n with hn | hn
    · exact .inl hn
    · have hne : b ≠ g := by
        rintro rfl
        exact hg _ _ (h3 0 hn)
      exact .inr ⟨b, off, h1, Nat.lt_of_lt_of_le h2 hb.size, fun i hi => (World.cell?_of_block (w := w) (hb.block b h2 hne)).trans (h3 i hi)⟩

theorem It.but {w w' : World} {v : Value} {z : Int} (h : It w v z) {g : Nat} (hg : NoW w g) (hb : But g w w') : It w' v z := by
  obtain ⟨a, n, cap, f, h1, h2, h3, h4⟩ := h
  exact ⟨a, n, cap, f, h1, h2, h3.but hg hb, h4⟩

theorem Rw.but {w w' : World} {v : Value} {l : List Int} (h : Rw w v l) {g : Nat} (hg : Sl w g) (hb : But g w w') : Rw w' v l := by
  obtain ⟨a, cap, h1, h2, h3⟩ := h
  refine ⟨a, cap, h1, h2, ?_⟩
  rcases h3 with h | ⟨b, off, e1, e2, e3⟩
  · exact .inl h
  · refine .inr ⟨b, off, e1, Nat.lt_of_lt_of_le e2 hb.size, fun j hj => ?_⟩
    obtain ⟨s, c, n, k, c0, c1, c2⟩ := e3 j hj
    have hne : b ≠ g := by
      rintro rfl
      obtain ⟨x, y, z, e⟩ := hg _ _ c0
      cases e
    exact ⟨s, c, n, k, (World.cell?_of_block (w := w) (hb.block b e2 hne)).trans c0, (World.cell?_of_block (w := w) (hb.block b e2 hne)).trans c1, c2.but hg.noW hb⟩

/-- Of block g, cell i alone has been written: it is v. -/
def PutAt (g i : Nat) (v : Value) (w w' : World) : Prop := ∃ cur, w.heap[g]? = some (.cells cur 36 (0, 0)) ∧ w'.heap[g]? = some (.cells (cur.setIfInBounds i v) 36 (0, 0))

theorem Om.block {w : World} {g : Nat} {m : List (List Int)} (h : Om w g m) : ∃ cur, w.heap[g]? = some (.cells cur 36 (0, 0)) := h.imp fun _ h => h.1

theorem PutAt.set {w w1 : World} {g i : Nat} (h : ∃ cur, w.heap[g]? = some (.cells cur 36 (0, 0))) (hb : w1.heap[g]? = w.heap[g]?) (v : Value) : PutAt g i v w (w1.setCell ⟨g, i, none⟩ v) := by
  obtain ⟨cur, h⟩ := h
  refine ⟨cur, h, ?_⟩
  simp [World.setCell, Array.getElem?_modify, hb, h]

theorem PutAt.up {w w1 w2 : World} {g i : Nat} {v : Value} (h : PutAt g i v w w1) (hb : w2.heap[g]? = w1.heap[g]?) : PutAt g i v w w2 := by
  obtain ⟨cur, h1, h2⟩ := h
  exact ⟨cur, h1, hb.trans h2⟩

/-- A row is put at place i. -/
theorem Om.put {w w' : World} {g : Nat} {m : List (List Int)} (h : Om w g m) {i : Nat} (hi : i < m.length) {v : Value} {l : List Int} (hb : But g w w') (hp : PutAt g i v w w') (hv : Rw w' v l) : Om w' g (m.set i l) := by
  have hsl := h.sl
  obtain ⟨cur, h1, h2, h3⟩ := h
  obtain ⟨cur', k1, k2⟩ := hp
  rw [h1] at k1
  cases k1
  refine ⟨_, k2, by simpa using h2, ?_⟩
  intro j hj
  simp only [List.length_set] at hj
  by_cases e : i = j
  · subst e
    obtain ⟨a, cap, rfl, q1, q2⟩ := hv
    refine ⟨a, cap, ?_, ?_⟩
    · rw [Array.getElem?_setIfInBounds_self_of_lt (by omega)]
      simp only [List.getD_eq_getElem?_getD, List.getElem?_set_self hi, Option.getD_some]
    · simp only [List.getD_eq_getElem?_getD, List.getElem?_set_self hi, Option.getD_some]
      exact ⟨a, cap, rfl, q1, q2⟩
  · obtain ⟨c, k, c0, c1⟩ := h3 j hj
    refine ⟨c, k, ?_, ?_⟩
    · rw [Array.getElem?_setIfInBounds_ne e]
      simp only [List.getD_eq_getElem?_getD, List.getElem?_set_ne e]
      simpa using c0
    · simp only [List.getD_eq_getElem?_getD, List.getElem?_set_ne e]
      exact (by simpa using c1 : Rw w _ _).but hsl hb

/-- .. two rows, at two places. -/
theorem Om.put2 {w w1 w' : World} {g : Nat} {m : List (List Int)} (h : Om w g m) {i j : Nat} (hi : i < m.length) (hj : j < m.length) {u v : Value} {k l : List Int} (hb : But g w w1) (hp : PutAt g i u w w1) (hu : Rw w1 u k)
    (hb' : But g w1 w') (hp' : PutAt g j v w1 w') (hv : Rw w' v l) : Om w' g ((m.set i k).set j l) :=
  (h.put hi hb hp hu).put (by simpa using hj) hb' hp' hv

theorem Below.but {w w' : World} (h : Below w.heap.size w w') (g : Nat) : But g w w' := (But.refl g w).up h
theorem Below.at {w w' : World} {g : Nat} (h : Below w.heap.size w w') (hg : g < w.heap.size) : w'.heap[g]? = w.heap[g]? := h.block g hg
theorem set_heap (w : World) {g b i : Nat} (h : g ≠ b) (v : Value) : (w.setCell ⟨b, i, none⟩ v).heap[g]? = w.heap[g]? := Below.heap_setCell _ _ _ _ h

end Go.Proofs.YtdbpkoddfcdhdaaGreat

namespace Go.Proofs.YtdbpkoddfcdhdaaGreat
open Go.RowKit
attribute [local go_sem ↓] Go.wp_at_zero Go.wp_at_succ

theorem ret_vx {fn : Func} {R : Ending → World → Prop} {t : Tmp} {a : Act} {w : World} {B : Nat} {z : Int} (hr : fn.results = #[.cell t 56]) (ht : a.tmps.getD t undef = .pointer (some ⟨B, 0, none⟩)) (hd : a.defers = [])
    (h : Vx w B z) (hR : ∀ v, It w v z → R (.returned v) w) : bodyPost Tryz.prog fn R .ret a w := by
  obtain ⟨s, x, n, c, h1, h2, h3⟩ := h
  exact ret_box hr ht hd h1 (hR _ h2)

/-- The words of a 64-bit number. -/
theorem of_words (n : Int) (h1 : -9223372036854775808 ≤ n) (h2 : n ≤ 9223372036854775807) :
    nv (fun i => if i = 0 then n.natAbs % 4294967296 else n.natAbs / 4294967296) 2 = n.natAbs ∧ Wf (fun i => if i = 0 then n.natAbs % 4294967296 else n.natAbs / 4294967296) 2 := by
  constructor
  · simp [nv]; omega
  · intro i hi; show (if i = 0 then _ else _) < _; split <;> omega

theorem intof_any (n : Int) (w : World) (h1 : -9223372036854775808 ≤ n) (h2 : n ≤ 9223372036854775807) :
    Calls Tryz.prog 83 #[.int .i64 n] w fun e w' => ∃ v, e = .returned v ∧ It w' v n ∧ Below w.heap.size w w' := by
  go_enter Tryz.func83, Tryz.ntmps83
  go_wp2_with fail
  have hm : IntKind.u64.wrap (max n (wrap64 (-n))) = (n.natAbs : Int) := by
    simp [IntKind.wrap, IntKind.bits, IntKind.signed]
    unfold wrap64
    omega
  rw [hm]
  clear hm
  have e0 : ((n.natAbs : Int) % 4294967296) = ((n.natAbs % 4294967296 : Nat) : Int) := by omega
  have e1 : ((n.natAbs : Int) / 4294967296 % 4294967296) = ((n.natAbs / 4294967296 : Nat) : Int) := by omega
  rw [e0, e1]
  clear e0 e1
  have hw2 := (below_new w (.cells #[.bool false, .slice none 0 0] 56))
  have hb2 := hw2.alloc hw2.size (.cells #[.int .u32 ((n.natAbs % 4294967296 : Nat) : Int), .int .u32 ((n.natAbs / 4294967296 : Nat) : Int)] 85)
  obtain ⟨v1, v2⟩ := of_words n h1 h2
  have hO := Own.lit (w.alloc (.cells #[.bool false, .slice none 0 0] 56)) #[.int .u32 ((n.natAbs % 4294967296 : Nat) : Int), .int .u32 ((n.natAbs / 4294967296 : Nat) : Int)] 85 2 (wv fun i => if i = 0 then n.natAbs % 4294967296 else n.natAbs / 4294967296) rfl
    (fun i hi => by rcases i with _ | _ | i; rfl; rfl; omega)
  have hx := (Vx.new0 (w := w) (T := 56) rfl).alloc (.cells #[.int .u32 ((n.natAbs % 4294967296 : Nat) : Int), .int .u32 ((n.natAbs / 4294967296 : Nat) : Int)] 85)
  simp only [World.size_alloc] at hO
  refine (of_any _ _ 2 2 _ _ (Nat.le_refl _) (by omega) hO.wd v2).mono ?_
  rintro e w1 ⟨v, rfl, hv, hb⟩
  rw [v1, sg_same] at hv
  replace hx := hx.up hb
  replace hb2 := hb2.trans (hb.mono hb2.size)
  obtain ⟨s', a', n', cap', rfl⟩ := hv.shape
  clear hO hb hw2
  obtain ⟨s, a, k, c, c0, c1, f0, f1, -⟩ := hx.cells
  go_wp2_with fail
  exact ret_vx (B := w.heap.size) rfl rfl rfl (Vx.put hx.va hv) (fun v hv => ⟨_, rfl, hv, Bl.st hb2 (Nat.le_refl _)⟩)
end Go.Proofs.YtdbpkoddfcdhdaaGreat

namespace Go.Proofs.YtdbpkoddfcdhdaaGreat
open Go.RowKit

theorem sz_sg (s : Bool) (x : Nat) : sz (sg s x) = words x := by
  unfold sz sg; split <;> simp
theorem sz_abs (y : Int) : sz (y.natAbs : Int) = sz y := by unfold sz; simp

theorem cmpI_in (x y : Int) : -9223372036854775808 ≤ cmpI x y ∧ cmpI x y ≤ 9223372036854775807 := by unfold cmpI; split <;> (try split) <;> omega
theorem sz_cmpI (x y : Int) : sz (cmpI x y) ≤ 2199023255552 := by unfold cmpI; split <;> (try split) <;> decide
theorem It.sgn {w : World} {s : Bool} {a : Option Addr} {n c : Nat} {z : Int} (h : It w (.agg #[.bool s, .slice a n c]) z) : s = decide (z < 0) := by
  obtain ⟨a', n', c', f, h1, _⟩ := h
  simp at h1
  exact h1.1

/-- What the code computes is the quotient and the remainder that is not below 0. -/
theorem divmod_neg (x y : Int) (hy : y ≠ 0) (h : sg (decide (x < 0)) (x.natAbs % y.natAbs) < 0) :
    sg (!(decide (x < 0) == decide (y < 0))) (x.natAbs / y.natAbs) - cmpI y 0 = x / y ∧ sg (decide (x < 0)) (x.natAbs % y.natAbs) + (y.natAbs : Int) = x % y := by
  have hx : x < 0 := by
    by_cases hx : x < 0
    · exact hx
    · simp [sg, hx] at h; omega
  have hm := Nat.mod_lt x.natAbs (Nat.pos_of_ne_zero (mt Int.natAbs_eq_zero.1 hy))
  have hd := Nat.div_add_mod x.natAbs y.natAbs
  rw [Nat.mul_comm] at hd
  generalize x.natAbs / y.natAbs = q at *
  generalize x.natAbs % y.natAbs = r at *
  have hd' : ((q * y.natAbs : Nat) : Int) + (r : Int) = (x.natAbs : Int) := by omega
  rw [Int.natCast_mul] at hd'
  have hxa : (x.natAbs : Int) = -x := by omega
  have hr : 0 < r := by simp [sg, hx] at h; omega
  rcases Int.lt_or_gt_of_ne hy with hn | hp
  · have hya : (y.natAbs : Int) = -y := by omega
    rw [hxa, hya] at hd'
    have := (Int.ediv_emod_unique' (a := x) (b := y) (q := sg (!(decide (x < 0) == decide (y < 0))) q - cmpI y 0) (r := sg (decide (x < 0)) r + (y.natAbs : Int)) hn).2 ⟨?_, ?_, ?_⟩
    · exact ⟨this.1.symm, this.2.symm⟩
    · rw [cmpI_lt hn]; simp only [sg, hx, hn, hya, decide_true, beq_self_eq_true, Bool.not_true, Bool.false_eq_true, if_false, if_true, Int.mul_sub, Int.mul_neg, Int.mul_one]
      rw [Int.mul_neg, Int.mul_comm] at hd'; omega
    · simp only [sg, hx, decide_true, if_true]; omega
    · simp only [sg, hx, decide_true, if_true]; omega
  · have hya : (y.natAbs : Int) = y := by omega
    have hn : ¬ y < 0 := by omega
    rw [hxa, hya] at hd'
    have := (Int.ediv_emod_unique (a := x) (b := y) (q := sg (!(decide (x < 0) == decide (y < 0))) q - cmpI y 0) (r := sg (decide (x < 0)) r + (y.natAbs : Int)) hp).2 ⟨?_, ?_, ?_⟩
    · exact ⟨this.1.symm, this.2.symm⟩
    · rw [cmpI_gt hp]; simp only [sg, hx, hn, hya, decide_true, decide_false, if_true, Int.mul_sub, Int.mul_neg, Int.mul_one, show (true == false) = false from rfl, Bool.not_false]
      rw [Int.mul_comm] at hd'; omega
    · simp only [sg, hx, decide_true, if_true]; omega
    · simp only [sg, hx, decide_true, if_true]; omega
theorem divmod_pos (x y : Int) (hy : y ≠ 0) (h : ¬ sg (decide (x < 0)) (x.natAbs % y.natAbs) < 0) :
    sg (!(decide (x < 0) == decide (y < 0))) (x.natAbs / y.natAbs) = x / y ∧ sg (decide (x < 0)) (x.natAbs % y.natAbs) = x % y := by
  have hm := Nat.mod_lt x.natAbs (Nat.pos_of_ne_zero (mt Int.natAbs_eq_zero.1 hy))
  have hd := Nat.div_add_mod x.natAbs y.natAbs
  rw [Nat.mul_comm] at hd
  generalize x.natAbs / y.natAbs = q at *
  generalize x.natAbs % y.natAbs = r at *
  have hd' : ((q * y.natAbs : Nat) : Int) + (r : Int) = (x.natAbs : Int) := by omega
  rw [Int.natCast_mul] at hd'
  have key : y * sg (!(decide (x < 0) == decide (y < 0))) q + sg (decide (x < 0)) r = x := by
    by_cases hx : x < 0 <;> by_cases hn : y < 0
    · have hya : (y.natAbs : Int) = -y := by omega
      have hxa : (x.natAbs : Int) = -x := by omega
      rw [hxa, hya, Int.mul_neg, Int.mul_comm] at hd'
      simp only [sg, hx, hn, decide_true, beq_self_eq_true, Bool.not_true, Bool.false_eq_true, if_false, if_true]; omega
    · have hya : (y.natAbs : Int) = y := by omega
      have hxa : (x.natAbs : Int) = -x := by omega
      rw [hxa, hya, Int.mul_comm] at hd'
      simp only [sg, hx, hn, decide_true, decide_false, if_true, Int.mul_neg, show (true == false) = false from rfl, Bool.not_false]; omega
    · have hya : (y.natAbs : Int) = -y := by omega
      have hxa : (x.natAbs : Int) = x := by omega
      rw [hxa, hya, Int.mul_neg, Int.mul_comm] at hd'
      simp only [sg, hx, hn, decide_true, decide_false, if_true, if_false, Bool.false_eq_true, Int.mul_neg, show (false == true) = false from rfl, Bool.not_false]; omega
    · have hya : (y.natAbs : Int) = y := by omega
      have hxa : (x.natAbs : Int) = x := by omega
      rw [hxa, hya, Int.mul_comm] at hd'
      simp only [sg, hx, hn, decide_false, beq_self_eq_true, Bool.not_true, Bool.false_eq_true, if_false]; omega
  have hs : sg (decide (x < 0)) r < (y.natAbs : Int) := by unfold sg; split <;> omega
  rcases Int.lt_or_gt_of_ne hy with hn | hp
  · have := (Int.ediv_emod_unique' (a := x) (b := y) (q := sg (!(decide (x < 0) == decide (y < 0))) q) (r := sg (decide (x < 0)) r) hn).2 ⟨by omega, by omega, by omega⟩
    exact ⟨this.1.symm, this.2.symm⟩
  · have := (Int.ediv_emod_unique (a := x) (b := y) (q := sg (!(decide (x < 0) == decide (y < 0))) q) (r := sg (decide (x < 0)) r) hp).2 ⟨by omega, by omega, by omega⟩
    exact ⟨this.1.symm, this.2.symm⟩

theorem ret_vx2e {fn : Func} {R : Ending → World → Prop} {a : Act} {w : World} {B C : Nat} {e y z : Int} (hr : fn.results = #[.cell 4 56, .cell 5 56, .tmp 6]) (ht : a.tmps.getD 4 undef = .pointer (some ⟨B, 0, none⟩)) (ht' : a.tmps.getD 5 undef = .pointer (some ⟨C, 0, none⟩)) (h6 : a.tmps.getD 6 undef = .int .i64 e) (hd : a.defers = [])
    (h : Vx w B y) (h' : Vx w C z) (hR : ∀ u v, It w u y → It w v z → R (.returned (.tuple #[u, v, .int .i64 e])) w) : bodyPost Tryz.prog fn R .ret a w := by
  obtain ⟨s, x, n, c, h1, h2, h3⟩ := h
  obtain ⟨s', x', n', c', k1, k2, k3⟩ := h'
  refine bodyPost_ret ?_ hd (hR _ _ h2 k2)
  have hl := load_int w B 0 _ _ h1.c0 h1.c1
  have kl := load_int w C 0 _ _ k1.c0 k1.c1
  have ht1 : a.tmps[4]?.getD undef = .pointer (some ⟨B, 0, none⟩) := by simpa using ht
  have ht2 : a.tmps[5]?.getD undef = .pointer (some ⟨C, 0, none⟩) := by simpa using ht'
  have ht3 : a.tmps[6]?.getD undef = .int .i64 e := by simpa using h6
  have hA : ∀ B, (asAddr (.pointer (some ⟨B, 0, none⟩))).run Tryz.prog w = .ok ⟨B, 0, none⟩ w := fun _ => rfl
  simp [results, hr, ht1, ht2, ht3, hl, kl, hA]

end Go.Proofs.YtdbpkoddfcdhdaaGreat
