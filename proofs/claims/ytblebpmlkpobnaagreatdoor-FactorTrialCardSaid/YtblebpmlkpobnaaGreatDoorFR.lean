/-
  factor.Merge.
-/
import Derived.Test.YtblebpmlkpobnaaGreatDoorFQ1
set_option linter.unusedSimpArgs false
set_option linter.unusedVariables false
set_option maxRecDepth 100000
set_option maxHeartbeats 4000000
namespace Go.Proofs.YtblebpmlkpobnaaGreatDoor
open Go.RowKit
attribute [local go_sem ↓] Go.wp_at_zero Go.wp_at_succ
theorem Ss.lit2 {α : Type} {E : Elt α} {w : World} (T : TypeId) (a1 a2 : Option Addr) (n1 n2 c1 c2 : Nat) (l1 l2 : List α) (h1n : l1.length = n1) (h2n : l2.length = n2) (h1 : Sr E w (.slice a1 n1 c1) l1) (h2 : Sr E w (.slice a2 n2 c2) l2) :
  Ss E (w.alloc (.cells #[.slice a1 n1 c1, .slice a2 n2 c2] T)) (.slice (some ⟨w.heap.size, 0, none⟩) 2 2) [l1, l2] :=
 ⟨_, _, fun i => if i = 0 then .slice a1 n1 c1 else .slice a2 n2 c2, rfl, (Own.lit w #[.slice a1 n1 c1, .slice a2 n2 c2] T 2 _ rfl (fun i hi => by
   have : i = 0 \/ i = 1 := by omega
   rcases this with rfl | rfl <;> rfl)).cl, fun i hi => by
  have hi' : i = 0 \/ i = 1 := by simp at hi; omega
  rcases hi' with rfl | rfl
  ·exact h1.alloc _
  ·exact h2.alloc _⟩
theorem mergeC_any (v : Value) (x : Int) (B : Nat) (aL : Option Addr) (nL cL : Nat) (l : List Int) (w : World) (hx : It w v x) (hB : w.heap[B]? = some (.cells #[.slice aL nL cL] 51 (0, 0))) (hL : Sr eI w (.slice aL nL cL) l) (hN : l.length <= 1099511627776) (hs : ∀ x ∈ l, sz x <= 1099511627776) (hsx : sz x <= 1099511627776) :
  Calls Tryz.prog 56 #[v, .pointer (some ⟨B, 0, none⟩)] w fun e w' => e = .returned (.bool (!decide (x ∈ l))) /\ Below w.heap.size w w' := by
 obtain ⟨s, a, k, c, rfl⟩ := hx.shape;have hV := Vx.new (w := w) (T := 29) rfl hx;have hb := below_new w (.cells #[.bool s, .slice a k c] 29);have hB2 := (hb.block B (Array.getElem?_eq_some_iff.1 hB).1).trans hB;have hL2 := hL.alloc (.cells #[.bool s, .slice a k c] 29);clear hx hB hL;go_enter Tryz.func56, Tryz.ntmps56
 go_upto_region 1 with fail;generalize w.alloc (.cells #[.bool s, .slice a k c] 29) = W at *;obtain ⟨x1, x2, x3, x4, e0, e1, -, -, ix⟩ := hV.cells;have f0 : W.cell? ⟨B, 0, none⟩ = some (.slice aL nL cL) := by simp [World.cell?, hB2]
 clear hB2;go_wp2_with fail;refine (has_any _ _ l x W hL2 ix hN hs hsx).mono ?_;rintro e w2 ⟨rfl, hb2⟩;have hbl := Bl.up hb hb2;clear e0 e1 f0 ix hV hL2 hb hb2;go_wp2_with fail;go_ret
 exact ⟨rfl, hbl⟩
def mgP (f g : Fn) (o : List Nat) (i : Nat) : List (Nat × Nat) := pows f.N ((o.take i).filter (knw f g))
def mgR (f g : Fn) (o : List Nat) (i : Nat) : List (Nat × Nat) := pows f.N ((o.take i).filter (fun x => !knw f g x))
theorem mg_yes {f g : Fn} {o : List Nat} {i : Nat} (hi : i < o.length) (h : knw f g (o.getD i 0) = true) : mgP f g o (i + 1) = mgP f g o i ++ [(o.getD i 0, mlt (o.getD i 0) f.N)] /\ mgR f g o (i + 1) = mgR f g o i := by
 unfold mgP mgR;rw [take_get hi, List.filter_append, List.filter_append, List.filter_cons_of_pos h, List.filter_cons_of_neg (by show ¬ (!knw f g (o.getD i 0)) = true; rw [h]; decide), List.filter_nil, List.filter_nil, pows_snoc, List.append_nil];exact ⟨rfl, rfl⟩
theorem mg_no {f g : Fn} {o : List Nat} {i : Nat} (hi : i < o.length) (h : ¬ knw f g (o.getD i 0) = true) : mgP f g o (i + 1) = mgP f g o i /\ mgR f g o (i + 1) = mgR f g o i ++ [(o.getD i 0, mlt (o.getD i 0) f.N)] := by
 unfold mgP mgR;rw [take_get hi, List.filter_append, List.filter_append, List.filter_cons_of_neg h, List.filter_cons_of_pos (by show (!knw f g (o.getD i 0)) = true; rw [Bool.eq_false_iff.2 h]; rfl), List.filter_nil, List.filter_nil, pows_snoc, List.append_nil];exact ⟨rfl, rfl⟩
theorem mg_len (f g : Fn) (o : List Nat) (i : Nat) : (mgP f g o i).length <= o.length /\ (mgR f g o i).length <= o.length := by
 unfold mgP mgR pows;simp only [List.length_map];have h2 := List.length_filter_le (knw f g) (o.take i);have h3 := List.length_filter_le (fun x => !knw f g x) (o.take i);have h4 : (o.take i).length <= o.length := by simp; omega
 omega
theorem BuO.mg {w' : World} {B : Nat} {vP' vR' : Value} {f g : Fn} {o : List Nat} {i : Nat} (h : BuO w' B vP' vR' (f.N : Int) (zP (mgP f g o i)) (zP (mgR f g o i)) ((max f.B g.B : Nat) : Int) ((o.getD i 0 : Nat) : Int) ((mlt (o.getD i 0) f.N : Nat) : Int)) (hi : i < o.length) (hd : o.getD i 0 ∉ knownN f g) :
  Bu w' B vP' vR' (f.N : Int) (zP (mgP f g o (i + 1))) (zP (mgR f g o (i + 1))) ((max f.B g.B : Nat) : Int) := by
 have e : (((max f.B g.B : Nat) : Int) + 1) * (((max f.B g.B : Nat) : Int) + 1) = (((max f.B g.B + 1) * (max f.B g.B + 1) : Nat) : Int) := by
  generalize max f.B g.B = m;simp
 by_cases hs : sml (max f.B g.B) (o.getD i 0) = true
 ·obtain ⟨e1, e2⟩ := mg_yes (f := f) (g := g) hi (by unfold knw; rw [hs, Bool.or_true]);rw [e1, e2, zP_append];unfold sml at hs;have hs := of_decide_eq_true hs;exact h.1 (by rw [e]; omega)
 ·obtain ⟨e1, e2⟩ := mg_no (f := f) (g := g) hi (by unfold knw; rw [decide_eq_false hd, Bool.eq_false_iff.2 hs]; decide);rw [e1, e2, zP_append];unfold sml at hs;have hs : ¬ o.getD i 0 < (max f.B g.B + 1) * (max f.B g.B + 1) := fun hh => hs (decide_eq_true hh);exact h.2 (by rw [e]; omega)
theorem merge_arg (va vb : Value) (f g : Fz) (w : World) (ha : Fx w va f) (hb : Fx w vb g) (hsf : sz f.N <= 1099511627776) (hsg : sz g.N <= 1099511627776) (hne : f.N ≠ g.N) :
  Calls Tryz.prog 15 #[va, vb] w fun e w' => ∃ v, e = .returned (.tuple #[v, .int .i64 1]) /\ Fx w' v f0 /\ Below w.heap.size w w' := by
 obtain ⟨W, s1, a1, n1, c1, aP1, cP1, aR1, cR1, s2, a2, n2, c2, aP2, cP2, aR2, cR2, rfl, rfl, hW, bl, hs, hF, hG⟩ := boxF2 w ha hb;clear ha hb;go_enter Tryz.func15, Tryz.ntmps15
 go_upto_region 1 with fail;rw [<- hW];have hD := heap_alloc_new W (.cells #[.bool false, .slice none 0 0, .slice none 0 0, .slice none 0 0, .int .i64 0] 32);rw [hs] at hD;have hF3 := hF.alloc (.cells #[.bool false, .slice none 0 0, .slice none 0 0, .slice none 0 0, .int .i64 0] 32);have hG3 := hG.alloc (.cells #[.bool false, .slice none 0 0, .slice none 0 0, .slice none 0 0, .int .i64 0] 32);have hbl := Bl.alloc bl (.cells #[.bool false, .slice none 0 0, .slice none 0 0, .slice none 0 0, .int .i64 0] 32);clear hW hF hG bl hs;generalize W.alloc (.cells #[.bool false, .slice none 0 0, .slice none 0 0, .slice none 0 0, .int .i64 0] 32) = W at *;obtain ⟨p0, p1, -, -, -⟩ := hF3.cells;obtain ⟨q0, q1, -, -, -⟩ := hG3.cells;have hN1 := hF3.hN;have hN2 := hG3.hN;go_wp2_with fail;refine (cmp_any _ _ f.N g.N W hN1 hN2 (Nat.le_trans hsf (by decide)) (Nat.le_trans hsg (by decide))).mono ?_;rintro e w1 ⟨rfl, hb1⟩;have hd : (cmpI f.N g.N != 0) = true := by rw [bne_iff_ne, ne_eq, cmpI_zero]; exact hne
 generalize cmpI f.N g.N = cc at *;have hHD := (hb1.block (w.heap.size + 1 + 1) (Array.getElem?_eq_some_iff.1 hD).1).trans hD;have hBw := Bl.up hbl hb1;clear p0 p1 q0 q1 hN1 hN2 hF3 hG3 hD hbl hb1 hne
 (have HHD := Lib.hid hHD
  obtain ⟨d0, d1, d2, d3, d4, f0, f1, f2, f3, f4⟩ := heap5' hHD;clear hHD;go_wp2_with fail;have hfin := five_but (w1) (w.heap.size + 1 + 1) (.bool false) (.slice none 0 0) (.slice none 0 0) (.slice none 0 0) (.int .i64 0);refine ret_fact2 (B := w.heap.size + 1 + 1) (x0 := .bool false) (x1 := .slice none 0 0) (x2 := .slice none 0 0) (x3 := .slice none 0 0) (x4 := .int .i64 0) (y := .int .i64 1) rfl rfl rfl rfl (five_heap HHD.out _ _ _ _ _) ?_)
 exact ⟨_, rfl, fx_zero _, ButS.below hBw hfin hBw.size (fun g e => by omega)⟩
theorem merge_ok (va vb : Value) (f g : Fn) (w : World) (ha : Fx w va (zF f)) (hb : Fx w vb (zF g)) (hf : RightN f) (hg : RightN g) (hm : Md f.N) (hN : f.N = g.N) :
  Calls Tryz.prog 15 #[va, vb] w fun e w' => ∃ o, CB (allN f g) o /\ Below w.heap.size w w' /\
   (((∀ p ∈ knownN f g, p ∈ o) /\ ∃ v c, e = .returned (.tuple #[v, .int .i64 0]) /\ Fx w' v (zF c) /\ MergeTo f g o c) \/ (¬ (∀ p ∈ knownN f g, p ∈ o) /\ ∃ v, e = .returned (.tuple #[v, .int .i64 50]) /\ Fx w' v f0)) := by
 obtain ⟨W1, s, a, n, c, aP, cP, aR, cR, rfl, hW1, b1, hs1, hF⟩ := boxN w ha;obtain ⟨W2, s2, a2, n2, c2, aP2, cP2, aR2, cR2, rfl, hW2, b2, hs2, hG⟩ := boxN W1 (hb.up b1);clear ha hb;have hmg : Md g.N := hN ▸ hm;have hLen := hf.len hm;have hLeng := hg.len hmg
 have hAP : (allN f g).prod <= f.N * g.N * (f.N * g.N) := by
  unfold allN;rw [List.prod_append_nat, List.prod_append_nat, List.prod_append_nat];exact Nat.mul_le_mul (Nat.mul_le_mul hf.rprod hg.rprod) (Nat.mul_le_mul hf.pprod hg.pprod)
 have hAM : Mdst (allN f g).prod := (Md.prod4 hm hmg hm hmg).mono hAP;have hAL : (allN f g).length <= 1048576 := by unfold allN; simp only [List.length_append, ks_len]; omega
 have hKL : (knownN f g).length <= 131072 := by unfold knownN; simp only [List.length_append, ks_len]; omega
 have hKs : ∀ x ∈ knownN f g, sz (x : Int) <= 4096 := fun x hx => by
  unfold knownN at hx;rcases List.mem_append.1 hx with hx | hx
  ·exact hf.szk hm (by rw [ks_append]; exact List.mem_append_left _ hx)
  ·exact hg.szk hmg (by rw [ks_append]; exact List.mem_append_left _ hx)
 have hA1 : ∀ x ∈ allN f g, 1 <= x := fun x hx => by
  unfold allN at hx;rcases List.mem_append.1 hx with hx | hx
  ·rcases List.mem_append.1 hx with hx | hx
   ·have := hf.incR.big hx; omega
   ·have := hg.incR.big hx; omega
  ·rcases List.mem_append.1 hx with hx | hx
   ·have := hf.incP.big hx; omega
   ·have := hg.incP.big hx; omega
 have HAM := Lib.hid hAM;have HAL := Lib.hid hAL;have HKs := Lib.hid hKs;have HA1 := Lib.hid hA1;clear hAP hAM hAL hKs hA1;go_enter Tryz.func15, Tryz.ntmps15
 go_upto_region 1 with fail;rw [<- hW1];rw [show (W1.alloc (.cells #[.bool s2, .slice a2 n2 c2, .slice aP2 g.P.length cP2, .slice aR2 g.R.length cR2, .int .i64 (g.B : Int)] 32)) = W2 from hW2.symm];rw [hs1] at hG hs2;have hD := heap_alloc_new W2 (.cells #[.bool false, .slice none 0 0, .slice none 0 0, .slice none 0 0, .int .i64 0] 32);rw [hs2] at hD;have hF3 := (hF.up b2).alloc (.cells #[.bool false, .slice none 0 0, .slice none 0 0, .slice none 0 0, .int .i64 0] 32);have hG3 := hG.alloc (.cells #[.bool false, .slice none 0 0, .slice none 0 0, .slice none 0 0, .int .i64 0] 32);have hbl := Bl.alloc (Bl.up b1 b2) (.cells #[.bool false, .slice none 0 0, .slice none 0 0, .slice none 0 0, .int .i64 0] 32);have hsz : (W2.alloc (.cells #[.bool false, .slice none 0 0, .slice none 0 0, .slice none 0 0, .int .i64 0] 32)).heap.size = w.heap.size + 3 := by rw [World.size_alloc, hs2]
 clear hW1 hW2 hs1 hs2 b1 b2 hF hG;generalize W2.alloc (.cells #[.bool false, .slice none 0 0, .slice none 0 0, .slice none 0 0, .int .i64 0] 32) = W at *;have HBL := Lib.hid hbl;have HSZ := Lib.hid hsz;obtain ⟨p0, p1, p2, p3, p4, hN1, -, -⟩ := hF3.cellsN;obtain ⟨q0, q1, q2, q3, q4, hN2, -, -⟩ := hG3.cellsN;have HF := Lib.hid hF3;have HG := Lib.hid hG3;have HD := Lib.hid hD;clear hF3 hG3 hD hbl;go_wp2_with fail;refine (cmp_any _ _ (f.N : Int) (g.N : Int) W hN1 hN2 (Nat.le_trans (hm.sz (Nat.le_refl _)) (by decide)) (Nat.le_trans (hmg.sz (Nat.le_refl _)) (by decide))).mono ?_;rintro e w1 ⟨rfl, hb1⟩;have hd : (cmpI (f.N : Int) (g.N : Int) != 0) = false := by rw [bne_eq_false_iff_eq, cmpI_zero, hN]
 generalize cmpI (f.N : Int) (g.N : Int) = cc at *;have HNN := Lib.hid hN;clear p0 p1 p2 p3 p4 q0 q1 q2 q3 q4 hN1 hN2 hN;obtain ⟨p0, p1, p2, p3, p4, -, hP1, -⟩ := (HF.out.up hb1).cellsN;obtain ⟨q0, q1, q2, q3, q4, -, hP2, -⟩ := (HG.out.up hb1).cellsN;have HB1 := Lib.hid hb1;clear hb1;go_wp2_with fail;have hss := Ss.lit2 (w := w1) 30 aP aP2 f.P.length g.P.length cP cP2 (zP f.P) (zP g.P) (zP_len _) (zP_len _) hP1 hP2;have hb2 := Bl.alloc HB1.out (.cells #[.slice aP f.P.length cP, .slice aP2 g.P.length cP2] 30);clear p0 p1 p2 p3 p4 q0 q1 q2 q3 q4 hP1 hP2;refine (numbers_any _ [zP f.P, zP g.P] _ hss (by simp [zP_len]; omega) (by simp)).mono ?_;rintro e w2 ⟨vK, rfl, hK, hb3⟩;rw [show ([zP f.P, zP g.P].flatten.map Prod.fst) = zI (knownN f g) by unfold knownN; simp [zI_append, zP_fst]] at hK;replace hK := hK.base hb2.size;have hb4 := Bl.up hb2 hb3;obtain ⟨aK, cK, rfl, hcK⟩ := hK.slice;rw [zI_len] at hK hcK |-;clear hss hb2 hb3;have HK := Lib.hid hK;have HB2 := Lib.hid hb4;clear hK;obtain ⟨p0, p1, p2, p3, p4, -, -, hR1⟩ := (HF.out.up hb4).cellsN;obtain ⟨q0, q1, q2, q3, q4, -, -, hR2⟩ := (HG.out.up hb4).cellsN;clear hb4 HB1;go_wp2_with fail;have hss := Ss.lit2 (w := w2) 30 aR aR2 f.R.length g.R.length cR cR2 (zP f.R) (zP g.R) (zP_len _) (zP_len _) hR1 hR2;have hb2 := Bl.alloc (Below.refl w2.heap.size w2) (.cells #[.slice aR f.R.length cR, .slice aR2 g.R.length cR2] 30);clear p0 p1 p2 p3 p4 q0 q1 q2 q3 q4 hR1 hR2;refine (numbers_any _ [zP f.R, zP g.R] _ hss (by simp [zP_len]; omega) (by simp)).mono ?_;rintro e w3 ⟨vS, rfl, hS, hb3⟩;rw [show ([zP f.R, zP g.R].flatten.map Prod.fst) = zI (ks f.R ++ ks g.R) by simp [zI_append, zP_fst]] at hS;have hb4 := Bl.up hb2 hb3;replace hS := hS.base hb2.size;have hSl : (zI (ks f.R ++ ks g.R)).length + (zI (knownN f g)).length <= 1099511627776 := by rw [zI_len, zI_len, List.length_append, ks_len, ks_len]; omega
 clear hss hb2 hb3;have HK3 := Lib.hid (HK.out.up hb4);go_wp2_with (at_builtin; go_must (refine wpl_apSr (E := eI) rfl (.tmp 32) (.tmp 33) _ rfl Tryz.underlying51 w2.heap.size vS (.slice aK (knownN f g).length cK) (zI (ks f.R ++ ks g.R)) (zI (knownN f g)) rfl hS hb4.size rfl HK3.out.sr hSl ?_); intro vA w4 hA hbA hgA hneA)
 have hb5 : Below w2.heap.size w2 w4 := ButS.below hb4 hbA hb4.size (fun g hg => (hS.lt g hg).1);rw [<- zI_append, show (ks f.R ++ ks g.R ++ knownN f g) = allN f g from rfl] at hA;have HA := Lib.hid hA.sr;clear hbA hgA hneA hS hSl hb4 HK3 hA;refine (base_any _ (allN f g) w4 HA.out HA1.out HAL.out HAM.out).mono ?_;rintro e w5 ⟨vL, o, rfl, hL, hcb, ⟨hol, hop⟩, hb6⟩;have hw25 := hb5.size;obtain ⟨aL, cL, rfl, hcL⟩ := hL.slice;rw [zI_len] at hL hcL |-;have hb7 := Bl.up hb5 hb6;have HCB := Lib.hid hcb;have HOP := Lib.hid hop;have HB7 := Lib.hid hb7;have HL := Lib.hid hL;clear hb5 hb6 hcb hop hb7 hL HA;go_upto_region 5 with fail;have hb8 := Bl.up HB2.out (Bl.alloc HB7.out (.cells #[.slice aL o.length cL] 51));have hV7 := heap_alloc_new w5 (.cells #[.slice aL o.length cL] 51);have hK8 := (HK.out.up (Bl.alloc HB7.out (.cells #[.slice aL o.length cL] 51)));have hL8 := HL.out.alloc (.cells #[.slice aL o.length cL] 51)
 have hLK : ∀ g, (Value.slice aL o.length cL).ownBlock = some g -> W.heap.size <= g := fun g' hg' => by
  have h1 := (HL.out.lt g' hg').1;have h2 := HB2.out.size;omega
 have hB7W : W.heap.size <= w5.heap.size := by have h1 := HB2.out.size; have h2 := HB7.out.size; omega
 have hL8 := hL8.self hLK;clear hw25 HB7 HL HK hLK;generalize w5.heap.size = B7 at *;generalize w5.alloc (.cells #[.slice aL o.length cL] 51) = w6 at *
 have hszo : ∀ x ∈ zI o, sz x <= 1099511627776 := fun x hx => by
  unfold zI at hx;obtain ⟨y, hy, rfl⟩ := List.mem_map.1 hx;exact sz_prod (HOP.out _ hy) HAM.out
 have HSO := Lib.hid hszo;have HK8 := Lib.hid hK8;have HL8 := Lib.hid hL8;have HV7 := Lib.hid hV7;have HB8 := Lib.hid hb8;clear hK8 hL8 hV7 hb8 hszo HB2;go_wp2_with fail;refine (has1_any _ (zI (knownN f g)) 56 #[.pointer (some ⟨B7, 0, none⟩)] (fun x => !decide (x ∈ zI o)) _ (enters_of Tryz.func56 (by kernel_rfl) rfl) HK8.out.sr.rw (by rw [zI_len]; omega) (fun j hj W' v hbW hv => ?_)).mono ?_
 ·rw [zI_len] at hj;refine mergeC_any v _ B7 aL o.length cL (zI o) W' hv ((hbW.block B7 (Array.getElem?_eq_some_iff.1 HV7.out).1).trans HV7.out) (HL8.out.up hbW).sr (by rw [zI_len]; omega) HSO.out ?_;rw [zI_getD];refine Nat.le_trans (HKs.out _ ?_) (by decide);rw [List.getD_eq_getElem?_getD, List.getElem?_eq_getElem hj];exact List.getElem_mem _
 rintro e w7 ⟨rfl, hb7⟩
 have hany : ((zI (knownN f g)).any fun x => !decide (x ∈ zI o)) = !decide (∀ p ∈ knownN f g, p ∈ o) := by
  rw [Bool.eq_iff_iff, List.any_eq_true];simp only [Bool.not_eq_true', decide_eq_false_iff_not];constructor
  ·rintro ⟨x, hx, hn⟩ hall;unfold zI at hx;obtain ⟨y, hy, rfl⟩ := List.mem_map.1 hx;exact hn (mem_zI.2 (hall y hy))
  ·intro hn;apply Classical.byContradiction
   intro hc;refine hn fun p hp => ?_;apply Classical.byContradiction
   intro hpo;exact hc ⟨(p : Int), mem_zI.2 hp, fun h => hpo (mem_zI.1 h)⟩
 rw [hany];clear hany;have hK9 := HK8.out.up hb7;have hL9 := HL8.out.up hb7;have hV9 := (hb7.block B7 (Array.getElem?_eq_some_iff.1 HV7.out).1).trans HV7.out;have hb9 := Bl.up HB8.out hb7;clear HK8 HL8 HV7 HB8 hb7;by_cases hall : ∀ p ∈ knownN f g, p ∈ o
 case neg =>
  rw [decide_eq_false hall];have hHD := (hb9.block (w.heap.size + 1 + 1) (Array.getElem?_eq_some_iff.1 HD.out).1).trans HD.out;have hBw := Bl.up HBL.out hb9;have HALL := Lib.hid hall;have HBw := Lib.hid hBw;clear hK9 hL9 hV9 hb9 hall hBw
  (have HHD := Lib.hid hHD
   obtain ⟨d0, d1, d2, d3, d4, f0, f1, f2, f3, f4⟩ := heap5' hHD;clear hHD;go_wp2_with fail;have hfin := five_but (w7) (w.heap.size + 1 + 1) (.bool false) (.slice none 0 0) (.slice none 0 0) (.slice none 0 0) (.int .i64 0);refine ret_fact2 (B := w.heap.size + 1 + 1) (x0 := .bool false) (x1 := .slice none 0 0) (x2 := .slice none 0 0) (x3 := .slice none 0 0) (x4 := .int .i64 0) (y := .int .i64 50) rfl rfl rfl rfl (five_heap HHD.out _ _ _ _ _) ?_)
  exact ⟨o, HCB.out, ButS.below HBw.out hfin HBw.out.size (fun g e => by omega), .inr ⟨HALL.out, _, rfl, fx_zero _⟩⟩
 rw [decide_eq_true hall];have HALL := Lib.hid hall;obtain ⟨p0, p1, -, -, p4, hN1, -, -⟩ := (HF.out.up hb9).cellsN;obtain ⟨-, -, -, -, q4, -, -, -⟩ := (HG.out.up hb9).cellsN;have v0 : w7.cell? ⟨B7, 0, none⟩ = some (.slice aL o.length cL) := by simp [World.cell?, hV9]
 have hmx : max (f.B : Int) (g.B : Int) = ((max f.B g.B : Nat) : Int) := by omega
 have hmb : max f.B g.B <= 65536 := by have := hf.b; have := hg.b; omega
 have HMB := Lib.hid hmb;have HMX := Lib.hid hmx;have HK9 := Lib.hid hK9;have HL9 := Lib.hid hL9;have HB9 := Lib.hid hb9;clear hall hmb hV9 hK9 hL9 hb9 hmx;go_wp2_with fail;rw [HMX.out];refine (start_any _ _ (f.N : Int) ((max f.B g.B : Nat) : Int) [] hN1 (Sr.nil _ _) (by simp)).mono ?_;rintro e w8 ⟨B, vP, rfl, hBu, hb3, hbk⟩
 have hSp : SpI W w8 B vP (.slice none 0 0) f.N (mgP f g o 0) (mgR f g o 0) (max f.B g.B) (.slice aK (knownN f g).length cK) (knownN f g) (.slice aL o.length cL) o := by
  refine ⟨hBu, fun k hk => ?_, HK9.out.up hb3, fun g' hg' hs => ?_, HL9.out.up hb3, fun g' hg' hs => ?_, Bl.up HB9.out hb3⟩
  ·have := hbk k hk; have := HB9.out.size; omega
  ·have := (HK9.out.lt g' hg').2; have := hbk g' hs; omega
  ·have := (HL9.out.lt g' hg').2; have := hbk g' hs; omega
 have HSp := Lib.hid hSp;replace v0 := keepc hb3 v0;clear hSp hBu hb3 hbk p0 p1 p4 q4 hN1 HK9 HL9 HB9;go_wp2_with fail;clear v0
 go_loopw [10, 11, 12, 50] (fun s10 s11 s12 s50 wr => ∃ (i : Nat) (vP vR : Value), s50 = .int .i64 (i : Int) /\ i <= o.length /\ SpI W wr B vP vR f.N (mgP f g o i) (mgR f g o i) (max f.B g.B) (.slice aK (knownN f g).length cK) (knownN f g) (.slice aL o.length cL) o)
  (fun _ _ _ s50 _ => o.length - (intOf s50).toNat)
 case atStart => exact ⟨0, vP, _, rfl, Nat.zero_le _, HSp.out⟩
 case round =>
  clear HSp;obtain ⟨i, vP, vR, rfl, hi, hSp⟩ := hrel;have HSp := Lib.hid hSp;clear hSp;have hmgl := mg_len f g o i;by_cases hlt : i < o.length
  ·obtain ⟨ba, offa, rfl, hba, hla⟩ := HSp.out.hL.sr.at (i := i) (by rw [zI_len]; exact hlt);obtain ⟨s1, a1, n1, k1, p0, p1, hx⟩ := hla.int (i := i) (by rw [zI_len]; exact hlt);rw [zI_getD] at hx;have hmem : o.getD i 0 ∈ o := by rw [List.getD_eq_getElem?_getD, List.getElem?_eq_getElem hlt]; exact List.getElem_mem _
   have h2x := HCB.out.cob.1 _ hmem;have hszx : sz ((o.getD i 0 : Nat) : Int) <= 1099511627776 := sz_prod (HOP.out _ hmem) HAM.out;have hkx := hm.mlt h2x hf.n1 (Nat.le_refl _);have HYES := Lib.hid (fun h => mg_yes (f := f) (g := g) hlt h);have HBO := Lib.hid (show ∀ (w' : World) (vP' vR' : Value), BuO w' B vP' vR' (f.N : Int) (zP (mgP f g o i)) (zP (mgR f g o i)) ((max f.B g.B : Nat) : Int) ((o.getD i 0 : Nat) : Int) ((mlt (o.getD i 0) f.N : Nat) : Int) -> o.getD i 0 ∉ knownN f g -> Bu w' B vP' vR' (f.N : Int) (zP (mgP f g o (i + 1))) (zP (mgR f g o (i + 1))) ((max f.B g.B : Nat) : Int) from fun _ _ _ h hd => h.mg hlt hd);obtain ⟨x, hx0⟩ : ∃ x, o.getD i 0 = x := ⟨_, rfl⟩;rw [hx0] at hx h2x hszx hkx HYES HBO;clear hx0 hmem hla;have i0 : (0 : Int) <= (i : Int) := by omega
   have i1 : (i : Int) < (o.length : Int) := by omega
   go_upto_region 12 with fail;have hV10 := Vx.new (w := wr) (T := 29) rfl hx;have hSp1 := HSp.out.up (below_new _ (.cells #[.bool s1, .slice a1 n1 k1] 29));have hB10 : W.heap.size <= wr.heap.size := HSp.out.hb.size;have hnB : ¬ bset B vP vR wr.heap.size := fun hs => Nat.lt_irrefl _ (HSp.out.hB.slt _ hs);clear p0 p1 hx HSp;generalize wr.heap.size = B10 at *;generalize wr.alloc (.cells #[.bool s1, .slice a1 n1 k1] 29) = wa at *;have HSp := Lib.hid hSp1;have HV10 := Lib.hid hV10;obtain ⟨r1, r2, r3, r4, x0, x1, -, -, ix⟩ := hV10.cells;clear hSp1 hV10;go_wp2_with fail;refine (has_any _ _ (zI (knownN f g)) (x : Int) wa HSp.out.hO.sr ix (by rw [zI_len]; omega) (fun r hr => ?_) hszx).mono ?_
   ·unfold zI at hr;obtain ⟨y, hy, rfl⟩ := List.mem_map.1 hr;exact Nat.le_trans (HKs.out y hy) (by decide)
   rintro e w7 ⟨rfl, hb7⟩;have hdm : decide ((x : Int) ∈ zI (knownN f g)) = decide (x ∈ knownN f g) := by rw [decide_eq_decide]; exact mem_zI
   rw [hdm];have hSp2 := HSp.out.up hb7;have hV2 := HV10.out.up hb7;clear HSp HV10 hb7 hdm x0 x1 ix;obtain ⟨p0, p1, -, -, -, hN1, -, -⟩ := (HF.out.up hSp2.hb).cellsN;obtain ⟨r1, r2, r3, r4, x0, x1, -, -, ix⟩ := hV2.cells;have HSp := Lib.hid hSp2;have HV2 := Lib.hid hV2;clear hSp2 hV2;by_cases hkn : x ∈ knownN f g
   case' pos =>
    rw [decide_eq_true hkn];have HKN := Lib.hid hkn;clear hkn;go_wp2_with fail
   case' neg =>
    rw [decide_eq_false hkn];have HKN := Lib.hid hkn;clear hkn;go_wp2_with fail
   all_goals
    refine (ftake_any _ _ f.N x w7 hN1 ix hf.n1 h2x (Nat.le_trans (hm.sz (Nat.le_refl _)) (by decide)) hszx).mono ?_;rintro e w9 ⟨v, rfl, hv, hb8⟩;obtain ⟨s6, a6, n6, k6, rfl⟩ := hv.shape;have hSp3 := HSp.out.up hb8;have hV3 := HV2.out.up hb8;clear HSp HV2 hb8 p0 p1 hN1 x0 x1 ix;go_upto_region 15 with fail;have hlt10 := hV3.lt;have hSp4 := hSp3.up (below_new _ (.cells #[.bool s6, .slice a6 n6 k6] 29));have hV4 := hV3.alloc (.cells #[.bool s6, .slice a6 n6 k6] 29);clear hSp3 hV3 hv;generalize w9.heap.size = B12 at *;generalize w9.alloc (.cells #[.bool s6, .slice a6 n6 k6] 29) = w10 at *;obtain ⟨r1, r2, r3, r4, x0, x1, -, -, ix⟩ := hV4.cells;have HSp := Lib.hid hSp4;have HV4 := Lib.hid hV4;clear hSp4 hV4;go_wp2_with fail
    first
    | (go_at_call 26
       refine (open_any HSp.out.hB r1 r2 r3 r4 (x : Int) ((mlt x f.N : Nat) : Int) ix hszx (by rw [zP_len]; omega) (by rw [zP_len]; omega) (by omega) (by have := HMB.out; omega)).mono ?_;rintro e w11 ⟨rfl, vP', vR', q1, q2, q3⟩;have hSp5 := HSp.out.opened (HBO.out _ _ _ q1 HKN.out) q2 q3)
    | (go_at_call 24
       refine (known_any HSp.out.hB r1 r2 r3 r4 (x : Int) ((mlt x f.N : Nat) : Int) ix (by rw [zP_len]; omega)).mono ?_;rintro e w11 ⟨rfl, vP', q1, q2, q3⟩;have hyes := HYES.out (by unfold knw; rw [decide_eq_true HKN.out]; rfl);have hSp5 := HSp.out.opened (vP' := vP') (vR' := vR) (P' := mgP f g o (i + 1)) (R' := mgR f g o (i + 1)) (by rw [hyes.1, hyes.2, zP_append]; exact q1) q2 q3;clear hyes)
    have HSp5 := Lib.hid hSp5;clear q1 q2 q3 hSp5 HSp HV4 x0 x1 ix HBO HYES;go_wp2_with fail;exact ⟨⟨i + 1, vP', _, by go_num, by omega, HSp5.out⟩, by simp [intOf]; omega⟩
  ·obtain rfl : i = o.length := by omega
   have hHD := (HSp.out.hb.block (w.heap.size + 2) (Array.getElem?_eq_some_iff.1 HD.out).1).trans HD.out;have hBw := Bl.up HBL.out HSp.out.hb
   have hqo : ∀ (q : Nat -> Bool), ∀ x ∈ zP (pows f.N ((o.take o.length).filter q)), qP x := fun q x hx => by
    unfold zP pows at hx;rw [List.map_map] at hx;obtain ⟨y, hy, rfl⟩ := List.mem_map.1 hx;exact Nat.le_trans (sz_prod (HOP.out _ (List.mem_of_mem_take (List.mem_filter.1 hy).1)) HAM.out) (by decide)
   have hq : ∀ x ∈ zP (mgP f g o o.length), qP x := hqo _;have hq' : ∀ x ∈ zP (mgR f g o o.length), qP x := hqo _;have hlP : (zP (mgP f g o o.length)).length < 4611686018427387904 := by rw [zP_len]; omega
   have hlR : (zP (mgR f g o o.length)).length < 4611686018427387904 := by rw [zP_len]; omega
   have hnb : ¬ bset B vP vR (w.heap.size + 1 + 1) := fun hs => by
    have h1 := HSp.out.hk _ hs;have h2 := HSZ.out;clear hlP hlR hq hq';omega
   have HNB := Lib.hid hnb;have HHD := Lib.hid hHD;have HBw := Lib.hid hBw;clear hHD hBw hnb hqo;go_wp2_with fail
   (refine (done_any HSp.out.hB hq hq' hlP hlR).mono ?_
    rintro e w8 ⟨v6, P', R', rfl, hF, hsP, hsR, hbd⟩;have hD6 := (hbd.block (w.heap.size + 1 + 1) (Array.getElem?_eq_some_iff.1 HHD.out).1 (HNB.out)).trans HHD.out;have hW6 := ButS.below HBw.out hbd (HBw.out).size (fun g hs => by have := HSp.out.hk g hs; have := HSZ.out; omega);obtain ⟨sF, aF, nF, cF, vP6, vR6, rfl, hF1, hF2, hF3⟩ := hF;obtain ⟨aP6, cP6, rfl, hF2'⟩ := id hF2;obtain ⟨aR6, cR6, rfl, hF3'⟩ := id hF3;dsimp only at hF1 hF2 hF3 |-;obtain ⟨lP, hlP'⟩ : ∃ lP, P'.length = lP := ⟨_, rfl⟩;obtain ⟨lR, hlR'⟩ : ∃ lR, R'.length = lR := ⟨_, rfl⟩;rw [hlP'] at hF2 |-;rw [hlR'] at hF3 |-;have H1 := Lib.hid hF1;have H2 := Lib.hid hF2;have H3 := Lib.hid hF3;have H6 := Lib.hid hW6;have HP6 := Lib.hid hsP;have HR6 := Lib.hid hsR;have HD6 := Lib.hid hD6;obtain ⟨d0, d1, d2, d3, d4, f0, f1, f2, f3, f4⟩ := heap5' hD6;clear hF1 hF2 hF3 hW6 hsP hsR hD6 hbd hF2' hF3' hlP' hlR';go_wp2_with fail;have hfin := five_but w8 (w.heap.size + 1 + 1) (.bool sF) (.slice aF nF cF) (.slice aP6 lP cP6) (.slice aR6 lR cR6) (.int .i64 ((max f.B g.B : Nat) : Int));have hnw := five_nw HD6.out;obtain ⟨Pn, hPn, hPs⟩ := HP6.out.nat;obtain ⟨Rn, hRn, hRs⟩ := HR6.out.nat;have hf1 := H1.out.fr hfin hnw;have hf2 := H2.out.fr hfin hnw (fun hl => H2.out.not_fact HD6.out hl);have hf3 := H3.out.fr hfin hnw (fun hl => H3.out.not_fact HD6.out hl);rw [hPn] at hf2;rw [hRn] at hf3;have hW8 := ButS.below H6.out hfin H6.out.size (fun g e => e ▸ (by omega));refine ret_fact2 (B := w.heap.size + 1 + 1) (x0 := .bool sF) (x1 := .slice aF nF cF) (x2 := .slice aP6 lP cP6) (x3 := .slice aR6 lR cR6) (x4 := .int .i64 ((max f.B g.B : Nat) : Int)) (y := .int .i64 0) rfl rfl rfl rfl (five_heap HD6.out _ _ _ _ _) ?_)
   refine ⟨o, HCB.out, hW8, .inl ⟨HALL.out, _, ⟨f.N, Pn, Rn, max f.B g.B⟩, rfl, ⟨sF, aF, nF, cF, _, _, rfl, hf1, hf2, hf3⟩, rfl, rfl, ?_, ?_⟩⟩
   ·have e := hPs;unfold mgP at e;rw [List.take_length] at e;exact e
   ·have e := hRs;unfold mgR at e;rw [List.take_length] at e;exact e
end Go.Proofs.YtblebpmlkpobnaaGreatDoor
