/-
  The reference of factor: Trial.
-/
import Derived.Test.YtblebpmlkpobnaaGreatFZZA
import Derived.Test.YtblebpmlkpobnaaGreatFZC
import Derived.Test.YtblebpmlkpobnaaGreatFZW
import Derived.Test.YtblebpmlkpobnaaGreatFZL
import Derived.Test.YtblebpmlkpobnaaGreatFS
import Derived.Test.YtblebpmlkpobnaaGreatFZV
import Derived.Test.YtblebpmlkpobnaaGreatFQ1
import Derived.Test.YtblebpmlkpobnaaGreatFZT
set_option linter.unusedSimpArgs false
set_option linter.unusedVariables false
set_option maxRecDepth 100000
set_option maxHeartbeats 8000000
namespace Go.Proofs.YtblebpmlkpobnaaGreat
open Go.RowKit
attribute [local go_sem ↓] Go.wp_at_zero Go.wp_at_succ
def kvT : Kv where
 R := fun _ _ _ => True
 V := fun i w B => (i = 4 -> Fv w B) /\ (i = 5 -> Vx w B 0) /\ B < w.heap.size
 js := fun i => decide (i = 4 \/ i = 5)
 up := fun h _ => h
 vup := fun h hb => ⟨fun e => (h.1 e).up hb, fun e => (h.2.1 e).up hb, Nat.lt_of_lt_of_le h.2.2 hb.size⟩
 vlt := fun h => h.2.2
theorem upto_get {b i : Nat} (h : i < (upto b).length) : (upto b)[i] = i + 2 := by
 unfold upto at h |-;rw [List.getElem_range']; omega
theorem upto_ln (b : Nat) : (upto b).length = b - 1 := by unfold upto; rw [List.length_range']
structure RtI (W0 wr : World) (n b B B7 m : Nat) (P : List (Nat × Nat)) (vP : Value) : Prop where
 hB : BuT 36 wr B vP (.slice none 0 0) n (zP P) [] b
 hk : ∀ k, bset B vP (.slice none 0 0) k -> W0.heap.size + 2 <= k
 h7 : Vx wr B7 m
 n7 : ¬ bset B vP (.slice none 0 0) B7
 l7 : W0.heap.size + 2 <= B7
 hW : Below W0.heap.size W0 wr
 hD : wr.heap[W0.heap.size + 1]? = some (.cells #[.bool false, .slice none 0 0, .slice none 0 0, .slice none 0 0, .int .i64 0] 36 (0, 0))
section
variable {W0 wr w' : World} {n b B B7 m : Nat} {P : List (Nat × Nat)} {vP : Value}
theorem RtI.up (h : RtI W0 wr n b B B7 m P vP) (hb : Below wr.heap.size wr w') : RtI W0 w' n b B B7 m P vP :=
 ⟨h.hB.up hb, h.hk, h.h7.up hb, h.n7, h.l7, Bl.up h.hW hb, (hb.block _ (Array.getElem?_eq_some_iff.1 h.hD).1).trans h.hD⟩
theorem RtI.fr {S : Nat -> Prop} (h : RtI W0 wr n b B B7 m P vP) (hb : ButS S wr w') (hS : ∀ g, S g -> NoW wr g) (hn : ∀ g, S g -> wr.heap.size <= g) : RtI W0 w' n b B B7 m P vP :=
 ⟨h.hB.fr hb hS (fun k hk e => by have := h.hB.slt k hk; have := hn k e; omega), h.hk, Vx.fr hb hS (fun e => by have := h.h7.lt; have := hn _ e; omega) h.h7, h.n7, h.l7, ButS.below h.hW hb h.hW.size (fun k e => Nat.le_trans h.hW.size (hn k e)),
  (hb.block _ (Array.getElem?_eq_some_iff.1 h.hD).1 (fun e => by have := (Array.getElem?_eq_some_iff.1 h.hD).1; have := hn _ e; omega)).trans h.hD⟩
theorem RtI.put {s : Bool} {a : Option Addr} {q c m' : Nat} (h : RtI W0 wr n b B B7 m P vP) (hv : It wr (.agg #[.bool s, .slice a q c]) m') : RtI W0 ((wr.setCell ⟨B7, 0, none⟩ (.bool s)).setCell ⟨B7, 1, none⟩ (.slice a q c)) n b B B7 m' P vP := by
 have hbf := (ButS.set wr B7 0 (.bool s)).trans (ButS.set _ B7 1 (.slice a q c));have hSn : ∀ g, g = B7 -> NoW wr g := fun g e => by rw [e]; exact h.h7.nw
 have h2 := h.l7;exact ⟨h.hB.fr hbf hSn (fun k hk e => h.n7 (e ▸ hk)), h.hk, Vx.put h.h7.va hv, h.n7, h.l7, ButS.below h.hW hbf h.hW.size (fun k e => by omega), (hbf.block _ (Array.getElem?_eq_some_iff.1 h.hD).1 (by omega)).trans h.hD⟩
theorem RtI.known {vP' : Value} {d k : Nat} (h : RtI W0 wr n b B B7 m P vP) (h1 : BuT 36 w' B vP' (.slice none 0 0) n (zP P ++ [((d : Int), (k : Int))]) [] b) (hb : ButS (bset B vP (.slice none 0 0)) wr w')
  (hk : ∀ k, bset B vP' (.slice none 0 0) k -> bset B vP (.slice none 0 0) k \/ wr.heap.size <= k) : RtI W0 w' n b B B7 m (P ++ [(d, k)]) vP' := by
 have h2 := h.hW.size;have h3 := (Array.getElem?_eq_some_iff.1 h.hD).1
 exact ⟨by rw [zP_append]; exact h1, fun k hk' => (hk k hk').elim (h.hk k) (fun e => by omega), Vx.fr hb h.hB.nw h.n7 h.h7, fun e => (hk B7 e).elim h.n7 (fun e => by have := h.h7.lt; omega), h.l7, ButS.below h.hW hb h2 (fun k e => by have := h.hk k e; omega),
  (hb.block _ h3 (fun e => by have := h.hk _ e; omega)).trans h.hD⟩
end
theorem rtrial_bad (vn : Value) (n b : Int) (w : World) (hn : It w vn n) (hbad : n < 1 \/ b < 0 \/ 65536 < b) :
  Calls Tryz.prog 44 #[vn, .int .i64 b] w fun e w' => ∃ v, e = .returned (.tuple #[v, .int .i64 1]) /\ Fx w' v f0 /\ Below w.heap.size w w' := by
 obtain ⟨W, s1, a1, n1, c1, rfl, hW, bw, vX, hs, p0, p1, hx'⟩ := box1 w hn;clear hn;go_enter Tryz.func44, Tryz.ntmps44
 go_upto_region 1 with fail;rw [<- hW];clear hW;have hD := heap_alloc_new W (.cells #[.bool false, .slice none 0 0, .slice none 0 0, .slice none 0 0, .int .i64 0] 36);rw [hs] at hD;replace vX := vX.alloc (.cells #[.bool false, .slice none 0 0, .slice none 0 0, .slice none 0 0, .int .i64 0] 36);have hbl := Bl.alloc bw (.cells #[.bool false, .slice none 0 0, .slice none 0 0, .slice none 0 0, .int .i64 0] 36);clear hx' p0 p1 bw hs;generalize W.alloc (.cells #[.bool false, .slice none 0 0, .slice none 0 0, .slice none 0 0, .int .i64 0] 36) = W1 at *;obtain ⟨e1, e2, e3, e4, g0, g1, -, -, ixd⟩ := vX.cells;go_wp2_with fail;refine (rsign_any _ n W1 ixd).mono ?_;rintro e w1 ⟨rfl, hb1⟩;have hHD := (hb1.block (w.heap.size + 1) (Array.getElem?_eq_some_iff.1 hD).1).trans hD;have hBw := Bl.up hbl hb1;have HBw := Lib.hid hBw;clear g0 g1 ixd vX hD hbl hb1 hBw;by_cases c1 : n < 1
 ·have hc1 : cmpI n 0 < 1 := by unfold cmpI; split <;> (try split) <;> omega
  generalize cmpI n 0 = cc at *;clear hbad
  (have HHD := Lib.hid hHD
   obtain ⟨d0, d1, d2, d3, d4, f0, f1, f2, f3, f4⟩ := heap5' hHD;clear hHD;go_wp2_with fail;have hfin := five_but (w1) (w.heap.size + 1) (.bool false) (.slice none 0 0) (.slice none 0 0) (.slice none 0 0) (.int .i64 0);refine ret_fact2 (B := w.heap.size + 1) (x0 := .bool false) (x1 := .slice none 0 0) (x2 := .slice none 0 0) (x3 := .slice none 0 0) (x4 := .int .i64 0) (y := .int .i64 1) rfl rfl rfl rfl (five_heap HHD.out _ _ _ _ _) ?_)
  exact ⟨_, rfl, fx_zero _, ButS.below HBw.out hfin HBw.out.size (fun g e => by omega)⟩
 have hc1 : ¬ cmpI n 0 < 1 := by unfold cmpI; split <;> (try split) <;> omega
 generalize cmpI n 0 = cc at *;by_cases c2 : b < 0
 ·clear hbad
  (have HHD := Lib.hid hHD
   obtain ⟨d0, d1, d2, d3, d4, f0, f1, f2, f3, f4⟩ := heap5' hHD;clear hHD;go_wp2_with fail;have hfin := five_but (w1) (w.heap.size + 1) (.bool false) (.slice none 0 0) (.slice none 0 0) (.slice none 0 0) (.int .i64 0);refine ret_fact2 (B := w.heap.size + 1) (x0 := .bool false) (x1 := .slice none 0 0) (x2 := .slice none 0 0) (x3 := .slice none 0 0) (x4 := .int .i64 0) (y := .int .i64 1) rfl rfl rfl rfl (five_heap HHD.out _ _ _ _ _) ?_)
  exact ⟨_, rfl, fx_zero _, ButS.below HBw.out hfin HBw.out.size (fun g e => by omega)⟩
 have c3 : b > 65536 := by omega
 clear hbad
 (have HHD := Lib.hid hHD
  obtain ⟨d0, d1, d2, d3, d4, f0, f1, f2, f3, f4⟩ := heap5' hHD;clear hHD;go_wp2_with fail;have hfin := five_but (w1) (w.heap.size + 1) (.bool false) (.slice none 0 0) (.slice none 0 0) (.slice none 0 0) (.int .i64 0);refine ret_fact2 (B := w.heap.size + 1) (x0 := .bool false) (x1 := .slice none 0 0) (x2 := .slice none 0 0) (x3 := .slice none 0 0) (x4 := .int .i64 0) (y := .int .i64 1) rfl rfl rfl rfl (five_heap HHD.out _ _ _ _ _) ?_)
 exact ⟨_, rfl, fx_zero _, ButS.below HBw.out hfin HBw.out.size (fun g e => by omega)⟩
theorem rtrial_ok (vn : Value) (n b : Nat) (w : World) (hn : It w vn n) (h1 : 1 <= n) (hb : b <= 65536) (hsz : sz n <= 1099511627776) :
  Calls Tryz.prog 44 #[vn, .int .i64 b] w fun e w' =>
   ∃ v t, e = .returned (.tuple #[v, .int .i64 0]) /\ Fx w' v (zF t) /\ TrialTo n b t /\ Below w.heap.size w w' := by
 obtain ⟨W, s1, a1, n1, c1, rfl, hW, bw, vX, hs, p0, p1, hx'⟩ := box1 w hn;clear hn;go_enter Tryz.func44, Tryz.ntmps44
 go_upto_region 1 with fail;rw [<- hW];clear hW;have D4 := heap_alloc_new W (.cells #[.bool false, .slice none 0 0, .slice none 0 0, .slice none 0 0, .int .i64 0] 36);have hx4 := hx'.alloc (.cells #[.bool false, .slice none 0 0, .slice none 0 0, .slice none 0 0, .int .i64 0] 36);replace bw := Bl.alloc bw (.cells #[.bool false, .slice none 0 0, .slice none 0 0, .slice none 0 0, .int .i64 0] 36);replace p0 := cellN p0 (.cells #[.bool false, .slice none 0 0, .slice none 0 0, .slice none 0 0, .int .i64 0] 36);replace p1 := cellN p1 (.cells #[.bool false, .slice none 0 0, .slice none 0 0, .slice none 0 0, .int .i64 0] 36);rw [hs] at D4;have hz4 : (W.alloc (.cells #[.bool false, .slice none 0 0, .slice none 0 0, .slice none 0 0, .int .i64 0] 36)).heap.size = w.heap.size + 2 := by simp [hs]
 clear hx' vX;generalize W.alloc (.cells #[.bool false, .slice none 0 0, .slice none 0 0, .slice none 0 0, .int .i64 0] 36) = W1 at *;clear hs;have i1 : ¬ (b : Int) < 0 := by omega
 have i2 : ¬ (b : Int) > 65536 := by omega
 have i3 : decide ((b : Int) < 0) = false := decide_eq_false i1;have i4 : decide ((b : Int) > 65536) = false := decide_eq_false i2;go_wp2_with fail;refine (rsign_any _ _ W1 hx4).mono ?_;rintro e w1 ⟨rfl, hb1⟩;have hc0 : cmpI (n : Int) 0 = 1 := by unfold cmpI; rw [if_neg (by omega), if_pos (by omega)]
 rw [hc0];clear hc0;replace bw := Bl.up bw hb1;replace p0 := keepc hb1 p0;replace p1 := keepc hb1 p1;replace hx4 := hx4.up hb1;replace D4 := (hb1.block (w.heap.size + 1) (by omega)).trans D4;have HD4 := Lib.hid D4;have HX4 := Lib.hid hx4;have HBW := Lib.hid bw;have HSZ1 := Lib.hid (Nat.le_trans (Nat.le_of_eq hz4.symm) hb1.size);have HSZ1 := Lib.hid (Nat.le_trans (Nat.le_of_eq hz4.symm) hb1.size);have HSZ1 := Lib.hid (Nat.le_trans (Nat.le_of_eq hz4.symm) hb1.size);have HSZ1 := Lib.hid (Nat.le_trans (Nat.le_of_eq hz4.symm) hb1.size);have HSZ1 := Lib.hid (Nat.le_trans (Nat.le_of_eq hz4.symm) hb1.size);have HSZ1 := Lib.hid (Nat.le_trans (Nat.le_of_eq hz4.symm) hb1.size);have HSZ1 := Lib.hid (Nat.le_trans (Nat.le_of_eq hz4.symm) hb1.size);have HSZ1 := Lib.hid (Nat.le_trans (Nat.le_of_eq hz4.symm) hb1.size);have HSZ1 := Lib.hid (Nat.le_trans (Nat.le_of_eq hz4.symm) hb1.size);have HSZ1 := Lib.hid (Nat.le_trans (Nat.le_of_eq hz4.symm) hb1.size);have HSZ1 := Lib.hid (Nat.le_trans (Nat.le_of_eq hz4.symm) hb1.size);have HSZ1 := Lib.hid (Nat.le_trans (Nat.le_of_eq hz4.symm) hb1.size);have HSZ1 := Lib.hid (Nat.le_trans (Nat.le_of_eq hz4.symm) hb1.size);have HSZ1 := Lib.hid (Nat.le_trans (Nat.le_of_eq hz4.symm) hb1.size);clear hb1 hz4 D4 hx4 bw;go_upto_region 3 with fail;refine wp_region_T (by kernel_rfl) [] (S := fun w' => w'.cell? ⟨w.heap.size, 0, none⟩ = some (.bool s1) /\ w'.cell? ⟨w.heap.size, 1, none⟩ = some (.slice a1 n1 c1)) ⟨p0, p1⟩ (fun hHeld => ?_);refine kL 0 rfl ?_;(refine pL 1 rfl ?_; refine pL 2 rfl ?_)
 refine kL 3 rfl ?_;clear hHeld
 refine wpAnyT_all [(4, some 6), (5, some 7)] 2 (FlV kvT w1) rfl (by kernel_rfl) (by decide) (by kernel_rfl) (by kernel_rfl) (by kernel_rfl)
  (fun bb x wz h => ⟨keepc h.bl p0, keepc h.bl p1⟩) (fun x => FlV.start _ _ _) ?_ ?_
 ·intro i hi;have hi' : i = 4 \/ i = 5 := by simpa using hi
  clear hi;rcases hi' with rfl | rfl
  ·refine ⟨_, rfl, fun bb xx wz hJ hbf hw K hK => ?_⟩;clear hbf hw;simp only [actA] at hK |-;go_simp;exact hK.out _ _ (hJ.var (i := 4) rfl ⟨fun _ => Fv.new wz, nzz, by simp⟩ (below_new _ _))
  ·refine ⟨_, rfl, fun bb xx wz hJ hbf hw K hK => ?_⟩;clear hbf hw;simp only [actA] at hK |-;go_simp;exact hK.out _ _ (hJ.var (i := 5) rfl ⟨nzz, fun _ => Vx.new0 rfl, by simp⟩ (below_new _ _))
 intro bb xx wz hbb hJ;obtain ⟨B6, hx6, hB6, hV6⟩ := hJ.pj 4 rfl (hbb 4 (by decide));obtain ⟨B7, hx7, hB7, hV7⟩ := hJ.pj 5 rfl (hbb 5 (by decide));have hne := hJ.ne 4 5 rfl rfl (by decide) (hbb 4 (by decide)) (hbb 5 (by decide));have hbz := hJ.bl;clear hbb hJ;replace hV6 : Fv wz B6 := hV6.1 rfl;replace hV7 : Vx wz B7 0 := hV7.2.1 rfl;have hn67 : B6 ≠ B7 := fun e => hne (by rw [hx6, hx7, e]);simp only [actM, hx6, hx7];clear hx6 hx7 hne;have hX := HX4.out.up hbz;obtain ⟨y, hy⟩ : ∃ y : FvT, y = ⟨s1, a1, n1, c1, none, 0, 0, none, 0, 0, b⟩ := ⟨_, rfl⟩;have hb2 := fput_but wz B6 y;have hS6 : ∀ g, g = B6 -> NoW wz g := fun g e => by rw [e]; exact hV6.nw
 have hX2 := hX.fr hb2 hS6;have hV72 := Vx.fr hb2 hS6 (fun e => hn67 e.symm) hV7;have hbu := (ButS.set (fput wz B6 y) B7 0 (.bool s1)).trans (ButS.set _ B7 1 (.slice a1 n1 c1));have hS7 : ∀ g, g = B7 -> NoW (fput wz B6 y) g := fun g e => by rw [e]; exact hV72.nw
 have hH6 := (hbu.block B6 (Nat.lt_of_lt_of_le hV6.lt hb2.size) hn67).trans (fput_heap hV6 y);have hbW := ButS.below (ButS.below (Bl.up HBW.out hbz) hb2 (Bl.up HBW.out hbz).size (fun g e => by have := HBW.out.size; omega)) hbu (Nat.le_trans (Bl.up HBW.out hbz).size hb2.size) (fun g e => by have := HBW.out.size; omega);have hD6 := (hbu.block _ (Nat.lt_of_lt_of_le (Array.getElem?_eq_some_iff.1 ((hbz.block _ (Array.getElem?_eq_some_iff.1 HD4.out).1).trans HD4.out)).1 hb2.size) (by have := (Array.getElem?_eq_some_iff.1 HD4.out).1; omega)).trans ((hb2.block _ (Array.getElem?_eq_some_iff.1 ((hbz.block _ (Array.getElem?_eq_some_iff.1 HD4.out).1).trans HD4.out)).1 (by have := (Array.getElem?_eq_some_iff.1 HD4.out).1; omega)).trans ((hbz.block _ (Array.getElem?_eq_some_iff.1 HD4.out).1).trans HD4.out));have hX3 := hX2.fr hbu hS7
 have hbn : ∀ k, bset B6 (.slice none 0 0) (.slice none 0 0) k -> k = B6 := fun k hk => by
  rcases hk with h | h | h
  ·exact h
  ·simp [Value.ownBlock] at h
  ·simp [Value.ownBlock] at h
 have hq : RtI w (((fput wz B6 y).setCell ⟨B7, 0, none⟩ (.bool s1)).setCell ⟨B7, 1, none⟩ (.slice a1 n1 c1)) n b B6 B7 n [] (.slice none 0 0) :=
  ⟨⟨⟨s1, a1, n1, c1, by rw [hH6, hy], hX3⟩, So.nil eP _ 0, So.nil eP _ 0, fun g h => by simp [Value.ownBlock] at h, by simp [Value.ownBlock], by simp [Value.ownBlock]⟩, fun k hk => by rw [hbn k hk]; have := HSZ1.out; omega, Vx.put hV72.va hX2, fun h => hn67 (hbn _ h).symm, by have := HSZ1.out; omega, hbW, hD6⟩
 have hsz1 := HSZ1.out;have HQ := Lib.hid hq;obtain ⟨y6, d0, d1, d2, d3, d4, f0, f1, f2, f3, f4⟩ := hV6.cells;obtain ⟨_, _, _, _, e0, e1, g0, g1, -⟩ := hV72.cells;have r0 := keepc hbz p0;have r1 := keepc hbz p1;have r2 := cell_fr hb2 (cell_lt r0) (by omega) r0;have r3 := cell_fr hb2 (cell_lt r1) (by omega) r1;have r4 := cell_fr hbu (cell_lt r2) (by omega) r2;have r5 := cell_fr hbu (cell_lt r3) (by omega) r3;subst hy;clear hX hb2 hS6 hX2 hV72 hbu hS7 hH6 hbW hD6 hX3 hbn hq hV6 hV7 hn67 hbz p0 p1 hsz1;unfold fput at e0 e1 g0 g1 r2 r3 r4 r5 HQ;dsimp only at e0 e1 g0 g1 r2 r3 r4 r5 HQ;have hHeld : (fun w' : World => w'.cell? ⟨w.heap.size, 0, none⟩ = some (.bool s1) /\ w'.cell? ⟨w.heap.size, 1, none⟩ = some (.slice a1 n1 c1)) wz := ⟨r0, r1⟩;(refine oL 6 rfl fun K hK => tL ?_; go_simp);(go_wp2_with fail; clear hHeld; refine nxL hK ⟨r2, r3⟩ fun hHeld => tL ?_; clear hK);(refine oL 7 rfl fun K hK => tL ?_; go_simp);(go_wp2_with fail; clear hHeld; refine nxL hK ⟨r4, r5⟩ fun hHeld => tL ?_; clear hK);refine dT ?_;clear d0 d1 d2 d3 d4 f0 f1 f2 f3 f4 e0 e1 g0 g1 r0 r1 r2 r3 r4 r5 hHeld HX4 HBW HD4;generalize ((((((wz.setCell ⟨B6, 0, none⟩ (.bool s1)).setCell ⟨B6, 1, none⟩ (.slice a1 n1 c1)).setCell ⟨B6, 2, none⟩ (.slice none 0 0)).setCell ⟨B6, 3, none⟩ (.slice none 0 0)).setCell ⟨B6, 4, none⟩ (.int .i64 (b : Int))).setCell ⟨B7, 0, none⟩ (.bool s1)).setCell ⟨B7, 1, none⟩ (.slice a1 n1 c1) = w3 at *
 have hT := fun i => trL_le ((upto b).take i) n (fun d hd => by
  have := List.mem_range'_1.1 (List.mem_of_mem_take hd);omega) h1
 have HT := Lib.hid hT;have hul : (upto b).length = b - 1 := upto_ln b;have HUL := Lib.hid hul;clear hT hul;go_wp2_with fail
 go_loopw [8, 9, 10] (fun s8 s9 s10 wr => ∃ (i : Nat) (vP : Value), s8 = .int .i64 ((i : Int) + 2) /\ i <= b - 1 /\ RtI w wr n b B6 B7 (trL ((upto b).take i) n).2 (trL ((upto b).take i) n).1 vP)
  (fun s8 _ _ _ => b + 2 - (intOf s8).toNat)
 case atStart => exact ⟨0, _, rfl, Nat.zero_le _, HQ.out⟩
 case round =>
  clear HQ;obtain ⟨i, vP, rfl, hi, hI⟩ := hrel;have hw2 : IntKind.i64.wrap ((i : Int) + 2) = (i : Int) + 2 := by rw [IntKind.wrap_i64]; omega
  by_cases hlt : i < b - 1
  ·have i1 : (i : Int) + 2 <= (b : Int) := by omega
   have hil : i < (upto b).length := by rw [HUL.out]; exact hlt
   have hstep := trL_take (n := n) hil;have hug := upto_get hil;obtain ⟨t1, t2, t3⟩ := HT.out i;obtain ⟨m, hm⟩ : ∃ m, m = (trL ((upto b).take i) n).2 := ⟨_, rfl⟩;obtain ⟨P, hP⟩ : ∃ P, P = (trL ((upto b).take i) n).1 := ⟨_, rfl⟩;rw [<- hm, <- hP] at hI;rw [hug, <- hm, <- hP] at hstep;rw [<- hm] at t1 t2;rw [<- hP, List.length_take, HUL.out] at t3;obtain ⟨d, hd⟩ : ∃ d, d = i + 2 := ⟨_, rfl⟩;rw [<- hd] at hstep;have hdi : (i : Int) + 2 = (d : Int) := by omega
   have hd2 : 2 <= d := by omega
   have hd3 : d <= 65536 := by omega
   have hpe : (trL ((upto b).take i) n) = (P, m) := by rw [hm, hP]
   rw [hpe] at hstep;have HST := Lib.hid hstep;have HDI := Lib.hid hd;have hszd : sz (d : Int) <= 4 := words_le_of_lt (Nat.lt_of_le_of_lt (show (d : Int).natAbs <= 65536 by omega) (by decide));have hszm : sz (m : Int) <= 1099511627776 := Nat.le_trans (sz_mono (by omega)) hsz;have hlP : (zP P).length + 1 <= 1099511627776 := by rw [zP_len]; omega
   rw [hdi] at hw2 i1 |-;have hwu : IntKind.u64.wrap (d : Int) = (d : Int) := by rw [IntKind.wrap_u64]; omega
   have HLT := Lib.hid hlt;clear hm hP hug hstep hpe hil hdi hi hd hlt t2 t3;obtain ⟨s7, a7, n7, c7, x0, x1, -, -, hxm⟩ := hI.h7.cells;have HI := Lib.hid hI;have HXM := Lib.hid hxm;clear hI hxm;go_wp2_with fail;refine (rem_any _ m d wr HXM.out (by omega) (by omega) (Nat.le_trans hszm (by decide))).mono ?_;rintro e w4 ⟨rfl, hb4⟩;replace HI := Lib.hid (HI.out.up hb4);replace HXM := Lib.hid (HXM.out.up hb4);replace x0 := keepc hb4 x0;replace x1 := keepc hb4 x1;clear hb4;by_cases hdm : d ∣ m
   ·have hne : (((m % d : Nat) : Int) != 0) = false := by rw [bne_eq_false_iff_eq, Nat.mod_eq_zero_of_dvd hdm]; rfl
    rw [if_pos hdm] at HST;obtain ⟨k, hk⟩ : ∃ k, k = mlt d m := ⟨_, rfl⟩;obtain ⟨c, hc⟩ : ∃ c, c = cof d m := ⟨_, rfl⟩;rw [<- hk, <- hc] at HST
    have htake : ∀ va vb W, It W va m -> It W vb d -> Calls Tryz.prog 21 #[va, vb] W fun e w' => ∃ v, e = .returned (.tuple #[.int .i64 (k : Int), v]) /\ It w' v c /\ Below W.heap.size W w' := fun va vb W hx hy => by
     rw [hk, hc];exact rtimes2_any va vb m d W hx hy t1 hd2 hszm (Nat.le_trans hszd (by decide))
    clear hk hc hdm;obtain ⟨q, hq⟩ : ∃ q, ((m % d : Nat) : Int) = q := ⟨_, rfl⟩;rw [hq] at hne |-;clear hq;go_upto_region 8 with fail;refine wp_region_T (by kernel_rfl) [9] (S := fun w' => w'.cell? ⟨B7, 0, none⟩ = some (.bool s7) /\ w'.cell? ⟨B7, 1, none⟩ = some (.slice a7 n7 c7)) ⟨x0, x1⟩ (fun hHeld => ?_);refine kL 0 rfl ?_;refine pL 1 rfl ?_;clear hHeld
    refine wpAnyT_all [(2, some 40), (3, some 41), (4, some 37), (5, some 42), (6, some 43), (7, some 10), (8, some 9)] 1 (Fl (knT d k c) 7 w4) rfl (by kernel_rfl) (by decide) (by kernel_rfl) (by kernel_rfl) (by kernel_rfl)
     (fun bb x wz h => ⟨keepc h.bl x0, keepc h.bl x1⟩) (fun x => Fl.start _ _ _ _) ?_ ?_
    ·intro i hi;have hi' : i = 2 \/ i = 3 \/ i = 4 \/ i = 5 \/ i = 6 \/ i = 7 \/ i = 8 := by simpa using hi
     clear hi;rcases hi' with rfl | rfl | rfl | rfl | rfl | rfl | rfl
     ·refine ⟨_, rfl, fun bb x wz hJ hbb hw K hK => ?_⟩;clear hbb hw;simp only [actA] at hK |-;go_simp;refine (rof_any (d : Int) _ (by omega) (by omega)).mono ?_;rintro e w2 ⟨v, rfl, hv, hb⟩;exact hK.out _ _ (hJ.call (i := 2) (by decide) (Z := fun _ => False) (kn2 hv) (fun k hk => hk.elim) hb)
     ·refine ⟨_, rfl, fun bb x wz hJ hbb hw K hK => ?_⟩;obtain ⟨Z, hR, -, -⟩ := hJ.pr 2 (by decide) (hw 2 (by kernel_rfl));have hv2 := hR.1 rfl;clear hbb hw hR;simp only [actA] at hK |-;go_simp;refine (htake _ _ wz (HXM.out.up hJ.bl) hv2).mono ?_;rintro e w2 ⟨v, rfl, hv, hb⟩;exact hK.out _ _ (hJ.call (i := 3) (by decide) (Z := fun _ => False) (kn3 hv) (fun k hk => hk.elim) hb)
     ·refine ⟨_, rfl, fun bb x wz hJ hbb hw K hK => ?_⟩
      have hp : ∃ u, x 3 = .tuple #[.int .i64 (k : Int), u] /\ It wz u c := by
       obtain ⟨Z, hR, -, -⟩ := hJ.pr 3 (by decide) (hw 3 (by kernel_rfl));exact hR.2.1 (.inl rfl)
      have hh := Classical.choose_spec hp;generalize Classical.choose hp = u at hh;have hxu := hh.1;have hu := hh.2;clear hbb hw hp hh;simp only [actA, hxu] at hK |-;go_simp;exact hK.out _ _ (hJ.call (i := 4) (by decide) (Z := fun _ => False) (kn4 hu) (fun k hk => hk.elim) (Below.refl _ _))
     ·refine ⟨_, rfl, fun bb x wz hJ hbb hw K hK => ?_⟩
      have hp : ∃ u, x 4 = .tuple #[.int .i64 (k : Int), u] /\ It wz u c := by
       obtain ⟨Z, hR, -, -⟩ := hJ.pr 4 (by decide) (hw 4 (by kernel_rfl));exact hR.2.1 (.inr rfl)
      have hh := Classical.choose_spec hp;generalize Classical.choose hp = u at hh;have hxu := hh.1;have hu := hh.2;clear hbb hw hp hh;simp only [actA, hxu] at hK |-;go_simp;exact hK.out _ _ (hJ.call (i := 5) (by decide) (Z := fun _ => False) (kn5) (fun k hk => hk.elim) (Below.refl _ _))
     ·refine ⟨_, rfl, fun bb x wz hJ hbb hw K hK => ?_⟩
      have hp : ∃ u, x 4 = .tuple #[.int .i64 (k : Int), u] /\ It wz u c := by
       obtain ⟨Z, hR, -, -⟩ := hJ.pr 4 (by decide) (hw 4 (by kernel_rfl));exact hR.2.1 (.inr rfl)
      have hh := Classical.choose_spec hp;generalize Classical.choose hp = u at hh;have hxu := hh.1;have hu := hh.2;clear hbb hw hp hh;simp only [actA, hxu] at hK |-;go_simp;exact hK.out _ _ (hJ.call (i := 6) (by decide) (Z := fun _ => False) (kn6 hu) (fun k hk => hk.elim) (Below.refl _ _))
     ·refine ⟨_, rfl, fun bb x wz hJ hbb hw K hK => ?_⟩;clear hbb hw;simp only [actA] at hK |-;go_simp;exact hK.out _ _ (hJ.var (W' := wz.alloc (.cells #[.bool false, .slice none 0 0] 33)) (Vx.new0 (w := wz) rfl) (below_new _ _))
     ·refine ⟨_, rfl, fun bb x wz hJ hbb hw K hK => ?_⟩
      have hx5 : x 5 = .int .i64 (k : Int) := by
       obtain ⟨Z, hR, -, -⟩ := hJ.pr 5 (by decide) (hw 5 (by kernel_rfl));exact hR.2.2.1 (.inl rfl)
      clear hbb hw;simp only [actA, hx5] at hK |-;go_simp;exact hK.out _ _ (hJ.call (i := 8) (by decide) (Z := fun _ => False) (kn8) (fun k hk => hk.elim) (Below.refl _ _))
    ·intro bb x wz hbb hJ;obtain ⟨Z, hR, -, -⟩ := hJ.pr 6 (by decide) (hbb 6 (by decide));have hu := hR.2.2.2 rfl;obtain ⟨Z', hR', -, -⟩ := hJ.pr 8 (by decide) (hbb 8 (by decide));have h5 := hR'.2.2.1 (.inr rfl);obtain ⟨B13, hx13, hB13, hV13⟩ := hJ.pj (hbb 7 (by decide));have hbz := hJ.bl;clear hbb hJ hR hR';obtain ⟨u2, hu2⟩ : ∃ u2, u2 = x 2 := ⟨_, rfl⟩;obtain ⟨u3, hu3⟩ : ∃ u3, u3 = x 3 := ⟨_, rfl⟩;obtain ⟨u4, hu4⟩ : ∃ u4, u4 = x 4 := ⟨_, rfl⟩;obtain ⟨u5, hu5⟩ : ∃ u5, u5 = x 5 := ⟨_, rfl⟩;obtain ⟨s3, a3, n3, c3, hx6⟩ := hu.shape;rw [hx6] at hu;simp only [actM, hx13, hx6, h5, <- hu2, <- hu3, <- hu4, <- hu5];clear hx13 hx6 h5 hu2 hu3 hu4 hu5;have hHd : (fun w' : World => w'.cell? ⟨B7, 0, none⟩ = some (.bool s7) /\ w'.cell? ⟨B7, 1, none⟩ = some (.slice a7 n7 c7)) wz := ⟨keepc hbz x0, keepc hbz x1⟩;obtain ⟨y1, y2, y3, y4, z0, z1, z2, z3, -⟩ := hV13.cells;(refine oL 9 rfl fun K hK => tL ?_; go_simp);(go_wp2_with fail; refine xL hK (tL ?_); clear hK);refine dT ?_;clear z0 z1 z2 z3 hHd x0 x1 HXM;have hbf := (ButS.set wz B13 0 (.bool s3)).trans (ButS.set _ B13 1 (.slice a3 n3 c3));have hSn : ∀ g, g = B13 -> NoW wz g := fun g e => by rw [e]; exact Vx.nw hV13
     have hI3 : RtI w ((wz.setCell ⟨B13, 0, none⟩ (.bool s3)).setCell ⟨B13, 1, none⟩ (.slice a3 n3 c3)) n b B6 B7 m P vP :=
      RtI.fr HI.out ((ButS.of hbz (fun g => g = B13)).trans hbf) (fun g e => by
       rw [e];exact fun o x he => absurd (cell_lt he) (by omega)) (fun g e => by rw [e]; exact hB13)
     have hV3 := Vx.put hV13.va hu;have hn13 : ¬ bset B6 vP (.slice none 0 0) B13 := fun hs => by have := HI.out.hB.slt _ hs; omega
     have h137 : B13 ≠ B7 := fun e => by have := HI.out.h7.lt; omega
     generalize (wz.setCell ⟨B13, 0, none⟩ (.bool s3)).setCell ⟨B13, 1, none⟩ (.slice a3 n3 c3) = w5 at *;clear hbf hSn hV13 hbz hu HI htake hne;have HI := Lib.hid hI3;have HV := Lib.hid hV3;clear hI3 hV3;go_upto_region 9 with fail;obtain ⟨_, _, _, _, q0, q1, q2, q3, q4, z0, z1, z2, z3, z4, -⟩ := HI.out.hB.cellsA;obtain ⟨s13, a13, n13, c13, w0, w1', g0, g1, hxv⟩ := Vx.cells HV.out;obtain ⟨aP, cP, rfl, hcP⟩ := HI.out.hB.hP.slice;have HXV := Lib.hid hxv;clear hxv q0 q1 q3 q4 z0 z1 z3 z4 g0 g1 hcP;refine wp_region_U (by kernel_rfl) [10] (S := (fun w' : World => w'.cell? ⟨B6, 2, none⟩ = some (.slice aP (zP P).length cP))) (S2 := (fun w' : World => w'.cell? ⟨B13, 0, none⟩ = some (.bool s13) /\ w'.cell? ⟨B13, 1, none⟩ = some (.slice a13 n13 c13))) ⟨w0, w1'⟩ q2 (fun hH2 hHeld => ?_);refine upL 0 rfl ?_;refine ukL 1 rfl ?_;refine upL 2 rfl ?_;refine upL 4 rfl ?_;refine upL 8 rfl ?_;(refine uoL 3 rfl fun K hK => tL ?_; go_simp)
     refine (rof_any (d : Int) _ (by omega) (by omega)).mono ?_;rintro e w6 ⟨v6, rfl, hv6, hb6⟩;obtain ⟨s6, a6, n6, c6, rfl⟩ := hv6.shape;have hbT := Bl.up (Bl.drew (Below.refl w5.heap.size w5)) hb6;replace HI := Lib.hid (HI.out.up hbT);replace HXV := Lib.hid (HXV.out.up hbT);replace HV := Lib.hid (Vx.up HV.out hbT);have HV6 := Lib.hid hv6;replace q2 := keepc hbT q2;replace w0 := keepc hbT w0;replace w1' := keepc hbT w1';clear hv6 hb6 hbT hH2 hHeld;go_wp2_with fail;refine hK.out _ _ ⟨w0, w1'⟩ (fun _ => q2) ?_;have hHeld : (fun w' : World => w'.cell? ⟨B6, 2, none⟩ = some (.slice aP (zP P).length cP)) w6 := q2;have hH2 : (fun w' : World => w'.cell? ⟨B13, 0, none⟩ = some (.bool s13) /\ w'.cell? ⟨B13, 1, none⟩ = some (.slice a13 n13 c13)) w6 := ⟨w0, w1'⟩;clear hK;refine tL ?_;refine upL 5 rfl ?_;(refine uoL 6 rfl fun K hK => tL ?_; go_simp)
     have hbP := below_new w6 (.cells #[.bool s6, .slice a6 n6 c6, .int .i64 (k : Int)] 49);have hsc : Sc eP (w6.alloc (.cells #[.bool s6, .slice a6 n6 c6, .int .i64 (k : Int)] 49)) w6.heap.size 0 [((d : Int), (k : Int))] := Sc.one (heap_alloc_new w6 _) ⟨s6, a6, n6, c6, rfl, HV6.out.up hbP⟩;have hI7 := HI.out.up hbP;have hX7 := HXV.out.up hbP;replace q2 := keepc hbP q2;replace w0 := keepc hbP w0;replace w1' := keepc hbP w1';have hl7 := hbP.size;have h13 := (Vx.up HV.out hbP).lt;clear hH2 hHeld HV6 hbP;go_wp2_with fail;refine hK.out _ _ ⟨w0, w1'⟩ (fun _ => q2) ?_;have hHeld : (fun w' : World => w'.cell? ⟨B6, 2, none⟩ = some (.slice aP (zP P).length cP)) (w6.alloc (.cells #[.bool s6, .slice a6 n6 c6, .int .i64 (k : Int)] 49)) := q2;have hH2 : (fun w' : World => w'.cell? ⟨B13, 0, none⟩ = some (.bool s13) /\ w'.cell? ⟨B13, 1, none⟩ = some (.slice a13 n13 c13)) (w6.alloc (.cells #[.bool s6, .slice a6 n6 c6, .int .i64 (k : Int)] 49)) := ⟨w0, w1'⟩;clear hK;refine tL ?_;refine wpAnyU_one (i := 7) (by as_aux_lemma => kernel_rfl) rfl (fun K hK => ?_);refine step_apS (E := eP) (by rfl) (.tmp 45) (.tmp 50) _ (by rfl) Tryz.underlying34 0 _ (zP P) [((d : Int), (k : Int))] (by rfl) hI7.hB.hP (Nat.zero_le _) w6.heap.size 0 1 1 (by rfl) rfl hsc (by decide) hlP ?_;intro g8 cap8 w8 h8 hb8 hg8
     have hg8' : ∀ g, (Value.slice (some ⟨g8, 0, none⟩) ((zP P).length + 1) cap8).ownBlock = some g -> (Value.slice aP (zP P).length cP).ownBlock = some g \/ g = (w6.alloc (.cells #[.bool s6, .slice a6 n6 c6, .int .i64 (k : Int)] 49)).heap.size := fun g hg => by
      have : g8 = g := by simpa [Value.ownBlock] using hg
      rw [<- this]; exact hg8
     obtain ⟨k1', k2', k3'⟩ := hI7.hB.setP hb8 h8 hg8';have hI9 := hI7.known k1' k2' k3';have hX9 := hX7.fr k2' hI7.hB.nw;obtain ⟨_, _, _, _, -, -, -, -, -, -, -, zf2, -, -, -⟩ := hI7.hB.cellsA;have d8 := cell_fr hb8 (cell_lt q2) hI7.hB.d2 q2;have f8 := frozen_fr hb8 (cell_lt q2) hI7.hB.d2 zf2;replace w0 := cell_fr hb8 (cell_lt w0) (fun e => hn13 (.inr (.inl e))) w0;replace w1' := cell_fr hb8 (cell_lt w1') (fun e => hn13 (.inr (.inl e))) w1';have r0 := cell_fr (ButS.set w8 B6 2 (.slice (some ⟨g8, 0, none⟩) ((zP P).length + 1) cap8)) (cell_lt w0) (fun e => hn13 (.inl e)) w0;have r1 := cell_fr (ButS.set w8 B6 2 (.slice (some ⟨g8, 0, none⟩) ((zP P).length + 1) cap8)) (cell_lt w1') (fun e => hn13 (.inl e)) w1';have HI9 := Lib.hid (hI9.put hX9);obtain ⟨_, _, _, _, t0, t1, t2, t3, -⟩ := Vx.cells hI9.h7;clear hI7 hX7 hb8 h8 hg8 hg8' k1' k2' k3' hI9 hX9 zf2 hsc hl7 h13 hH2 hHeld HI HXV HV q2;refine hK.out _ _ ⟨w0, w1'⟩ (fun _ => d8) ?_;have hHeld : (fun w' : World => w'.cell? ⟨B6, 2, none⟩ = some (.slice aP (zP P).length cP)) w8 := d8;have hH2 : (fun w' : World => w'.cell? ⟨B13, 0, none⟩ = some (.bool s13) /\ w'.cell? ⟨B13, 1, none⟩ = some (.slice a13 n13 c13)) w8 := ⟨w0, w1'⟩;clear hK;refine tL ?_;refine upL 9 rfl ?_;(refine uoL 10 rfl fun K hK => tL ?_; go_simp)
     go_wp2_with fail;refine hK.out _ _ ⟨r0, r1⟩ nzz ?_;clear hK;refine tL ?_;have hbu := (ButS.set (w8.setCell ⟨B6, 2, none⟩ (.slice (some ⟨g8, 0, none⟩) ((zP P).length + 1) cap8)) B7 0 (.bool s13)).trans (ButS.set _ B7 1 (.slice a13 n13 c13));have u0 := cell_fr hbu (cell_lt r0) h137 r0;have u1 := cell_fr hbu (cell_lt r1) h137 r1;(refine uoL 11 rfl fun K hK => tL ?_; go_simp)
     go_wp2_with fail;refine hK.out _ _ ⟨u0, u1⟩ nzz ?_;clear hK;refine tL ?_;refine wpAnyU_done (by kernel_rfl) ?_ _;clear hbu u0 u1 r0 r1 w0 w1' d8 f8 t0 t1 t2 t3 hHeld hH2;go_wp2_with fail;have := HLT.out;refine ⟨⟨i + 1, _, by rw [HDI.out]; go_num, by omega, by rw [HST.out]; exact HI9.out⟩, by simp [intOf]; omega⟩
   ·have hne : (((m % d : Nat) : Int) != 0) = true := by
     rw [bne_iff_ne];have := mt Nat.dvd_of_mod_eq_zero hdm;omega
    rw [if_neg hdm] at HST;clear x0 x1 HXM;obtain ⟨q, hq⟩ : ∃ q, ((m % d : Nat) : Int) = q := ⟨_, rfl⟩;rw [hq] at hne |-;go_wp2_with fail;have := HLT.out;refine ⟨⟨i + 1, vP, by rw [HDI.out]; go_num, by omega, by rw [HST.out]; exact HI.out⟩, by simp [intOf]; omega⟩
  ·have hie : i = b - 1 := by omega
   subst hie;have i1 : ¬ ((b - 1 : Nat) : Int) + 2 <= (b : Int) := by omega
   rw [List.take_of_length_le (by rw [HUL.out]; exact Nat.le_refl _)] at hI;have t0 := HT.out (b - 1);rw [List.take_of_length_le (by rw [HUL.out]; exact Nat.le_refl _), HUL.out] at t0;have hke := trL_keys (upto b) n;have hTI := fun t => tidy_trial (N := n) (B := b) (t := t) t0.1;obtain ⟨m, hm⟩ : ∃ m, (trL (upto b) n).2 = m := ⟨_, rfl⟩;obtain ⟨P, hP⟩ : ∃ P, (trL (upto b) n).1 = P := ⟨_, rfl⟩;simp only [hm, hP] at hI t0 hke hTI;obtain ⟨q, hq⟩ : ∃ q : Int, ((b - 1 : Nat) : Int) = q := ⟨_, rfl⟩;rw [hq] at i1 hw2 |-;have HI := Lib.hid hI;have HTI := Lib.hid hTI;have HKE := Lib.hid hke;have HT0 := Lib.hid t0;obtain ⟨s7, a7, n7, c7, x0, x1, -, -, hxm⟩ := Vx.cells hI.h7;have hszm : sz (m : Int) <= 1099511627776 := Nat.le_trans (sz_mono (by have := t0.2.1; omega)) hsz;have HXM := Lib.hid hxm;clear hI t0 hke hTI hm hP hq hxm hlt hi HT HUL;go_upto_region 10 with fail;refine wp_region_T (by kernel_rfl) [] (S := fun w' => w'.cell? ⟨B7, 0, none⟩ = some (.bool s7) /\ w'.cell? ⟨B7, 1, none⟩ = some (.slice a7 n7 c7)) ⟨x0, x1⟩ (fun hHeld => ?_);refine kL 0 rfl ?_;(refine oL 1 rfl fun K hK => tL ?_; go_simp);refine (rone_any _).mono ?_;rintro e w4 ⟨v4, rfl, hv4, hb4⟩;have hbT := Bl.up (Bl.drew (Below.refl wr.heap.size wr)) hb4;replace x0 := keepc hbT x0;replace x1 := keepc hbT x1;(go_wp2_with fail; clear hHeld; refine nxL hK ⟨x0, x1⟩ fun hHeld => tL ?_; clear hK);(refine oL 2 rfl fun K hK => tL ?_; go_simp);refine (rcmp_any _ _ (m : Int) 1 w4 (HXM.out.up hbT) hv4 (Nat.le_trans hszm (by decide)) (by decide)).mono ?_;rintro e w5 ⟨rfl, hb5⟩;replace hbT := Bl.up hbT hb5;replace x0 := keepc hb5 x0;replace x1 := keepc hb5 x1;clear hb4 hb5 hv4;(go_wp2_with fail; clear hHeld; refine nxL hK ⟨x0, x1⟩ fun hHeld => tL ?_; clear hK);refine pL 3 rfl ?_;refine dT ?_;clear hHeld;replace HI := Lib.hid (HI.out.up hbT);replace HXM := Lib.hid (HXM.out.up hbT);clear hbT;obtain ⟨R, hR⟩ : ∃ R, R = (if 1 < m then [(m, 1)] else [] : List (Nat × Nat)) := ⟨_, rfl⟩;obtain ⟨_, _, _, _, -, -, -, c3', -, -, -, -, f3', -, -⟩ := HI.out.hB.cellsA;by_cases h1m : 1 < m
   case' pos =>
    have hcc : cmpI (m : Int) 1 > 0 := cmp_pos.2 h1m;rw [if_pos h1m] at hR;generalize cmpI (m : Int) 1 = cc at *;have hbP := below_new w5 (.cells #[.bool s7, .slice a7 n7 c7, .int .i64 1] 49);have hS := So.one (E := eP) (base := 0) (cs := [.bool s7, .slice a7 n7 c7, .int .i64 1]) (x := ((m : Int), (1 : Int))) (heap_alloc_new w5 (.cells #[.bool s7, .slice a7 n7 c7, .int .i64 1] 49)) (Nat.zero_le _) ⟨s7, a7, n7, c7, rfl, HXM.out.up hbP⟩;have hI2 := HI.out.up hbP;have hlt := HI.out.hB.slt
    have hB2 := hI2.hB.putR hS (fun g hg e => by
     have e' : w5.heap.size = g := by simpa [Value.ownBlock] using hg
     have := hlt g e;omega)
    have hbs := ButS.set (w5.alloc (.cells #[.bool s7, .slice a7 n7 c7, .int .i64 1] 49)) B6 3 (.slice (some ⟨w5.heap.size, 0, none⟩) 1 1);have hbW := ButS.below hI2.hW hbs hI2.hW.size (fun k e => by have := HI.out.hk k (.inl e); omega);have hbD := (hbs.block _ (Array.getElem?_eq_some_iff.1 hI2.hD).1 (fun e => by have := HI.out.hk _ (.inl e); omega)).trans hI2.hD;rw [show [((m : Int), (1 : Int))] = zP R by rw [hR]; rfl] at hB2;obtain ⟨_, _, _, _, -, -, -, c3n, -, -, -, -, f3n, -, -⟩ := hI2.hB.cellsA;have HB2 := Lib.hid hB2;have HBW := Lib.hid hbW;have HBD := Lib.hid hbD;clear hbP hS hI2 hlt hB2 hbs hbW hbD HI;go_upto_region 12 with fail;clear x0 x1 c3' f3' c3n f3n hcc HXM;generalize (w5.alloc (.cells #[.bool s7, .slice a7 n7 c7, .int .i64 1] 49)).setCell ⟨B6, 3, none⟩ (.slice (some ⟨w5.heap.size, 0, none⟩) 1 1) = wa at *;obtain ⟨vR, hvR⟩ : ∃ vR : Value, .slice (some ⟨w5.heap.size, 0, none⟩) 1 1 = vR := ⟨_, rfl⟩;rw [hvR] at HB2;clear hvR
   case' neg =>
    have hcc : ¬ cmpI (m : Int) 1 > 0 := fun h => h1m (cmp_pos.1 h);rw [if_neg h1m] at hR;generalize cmpI (m : Int) 1 = cc at *;have hB2 := HI.out.hB;rw [show ([] : List (Int × Int)) = zP R by rw [hR]; rfl] at hB2;have HB2 := Lib.hid hB2;have HBW := Lib.hid HI.out.hW;have HBD := Lib.hid HI.out.hD;clear hB2 HI;go_upto_region 12 with fail;clear x0 x1 c3' f3' hcc HXM;obtain ⟨vR, hvR⟩ : ∃ vR : Value, .slice none 0 0 = vR := ⟨_, rfl⟩;rw [hvR] at HB2;clear hvR;generalize w5 = wa at *
   all_goals
    obtain ⟨sG, aG, nG, cG, hh, hfx⟩ := HB2.out.fx;obtain ⟨aPv, cPv, hvP, -⟩ := HB2.out.hP.slice;obtain ⟨aRv, cRv, hvR, -⟩ := HB2.out.hR.slice;obtain ⟨t0, t1, t2, t3, t4, -, -, -, -, -⟩ := heap5' hh;have HFX := Lib.hid (show Fx wa (.agg #[.bool sG, .slice aG nG cG, vP, vR, .int .i64 (b : Int)]) (zF ⟨n, P, R, b⟩) from hfx);rw [hvP, hvR] at HFX;have HL1 := Lib.hid (show P.length <= 100000000 by have := HT0.out.2.2; omega);have HL2 := Lib.hid (show R.length <= 100000000 by rw [hR]; simp)
    have HZ1 := Lib.hid (show ∀ p ∈ P, sz ((p.1 : Nat) : Int) <= 1099511627776 from fun p hp => by
     have := List.mem_range'_1.1 (HKE.out p hp);exact Nat.le_trans (show sz (p.1 : Int) <= 4 from words_le_of_lt (Nat.lt_of_le_of_lt (show (p.1 : Int).natAbs <= 65536 by omega) (by decide))) (by decide))
    have HZ2 := Lib.hid (show ∀ p ∈ R, sz ((p.1 : Nat) : Int) <= 1099511627776 from fun p hp => by
     rw [hR] at hp
     first
      | (rw [List.mem_singleton.1 hp]; exact hszm)
      | cases hp)
    have HEQ := Lib.hid (show R = if 1 < m then [(m, 1)] else [] by first | rw [if_pos h1m, hR] | rw [if_neg h1m, hR]);rw [hvP] at t2;rw [hvR] at t3;clear hh hfx hR h1m;go_wp2_with fail;refine (rtidy_any _ ⟨n, P, R, b⟩ _ HFX.out hb HL1.out HL2.out HZ1.out HZ2.out).mono ?_;rintro e w9 ⟨v, t, rfl, hF, hT, hb9⟩;have hBw := Bl.up HBW.out hb9;have hHD := (hb9.block (w.heap.size + 1) (Array.getElem?_eq_some_iff.1 HBD.out).1).trans HBD.out;obtain ⟨sF, aF, nF, cF, vP6, vR6, rfl, hF1, hF2, hF3⟩ := hF;obtain ⟨aP6, cP6, rfl, hF2'⟩ := id hF2;obtain ⟨aR6, cR6, rfl, hF3'⟩ := id hF3;obtain ⟨lP, hlP⟩ : ∃ lP, (zF t).P.length = lP := ⟨_, rfl⟩;obtain ⟨lR, hlR⟩ : ∃ lR, (zF t).R.length = lR := ⟨_, rfl⟩;obtain ⟨bT, hbT⟩ : ∃ bT, (zF t).B = bT := ⟨_, rfl⟩;rw [hlP] at hF2 |-;rw [hlR] at hF3 |-;rw [hbT];have H1 := Lib.hid hF1;have H2 := Lib.hid hF2;have H3 := Lib.hid hF3;have HBW2 := Lib.hid hBw;have HHD := Lib.hid hHD;have HT := Lib.hid (HTI.out t (HEQ.out ▸ hT));have HBT := Lib.hid hbT;obtain ⟨d0, d1, d2, d3, d4, f0, f1, f2, f3, f4⟩ := heap5' hHD;clear hF1 hF2 hF3 hF2' hF3' hlP hlR hbT hBw hHD hT hb9 t0 t1 t2 t3 t4 HFX HL1 HL2 HZ1 HZ2 HBW;go_wp2_with fail;have hbu := five_but w9 (w.heap.size + 1) (.bool sF) (.slice aF nF cF) (.slice aP6 lP cP6) (.slice aR6 lR cR6) (.int .i64 bT);have hDh := five_heap HHD.out (.bool sF) (.slice aF nF cF) (.slice aP6 lP cP6) (.slice aR6 lR cR6) (.int .i64 bT);have hnw := five_nw HHD.out;have hfin : Fx _ (.agg #[.bool sF, .slice aF nF cF, .slice aP6 lP cP6, .slice aR6 lR cR6, .int .i64 bT]) (zF t) := ⟨sF, aF, nF, cF, _, _, by rw [HBT.out], H1.out.fr hbu hnw, H2.out.fr hbu hnw (fun hl => H2.out.not_fact HHD.out hl), H3.out.fr hbu hnw (fun hl => H3.out.not_fact HHD.out hl)⟩;refine ret_fact2 (B := w.heap.size + 1) (T := 36) (fr := (0, 0)) (x0 := .bool sF) (x1 := .slice aF nF cF) (x2 := .slice aP6 lP cP6) (x3 := .slice aR6 lR cR6) (x4 := .int .i64 bT) (y := .int .i64 0) rfl rfl rfl rfl hDh ?_;exact ⟨_, t, rfl, hfin, HT.out, ButS.below HBW2.out hbu HBW2.out.size (fun g e => by omega)⟩
end Go.Proofs.YtblebpmlkpobnaaGreat
