/-
  The reference of factor: Tidy.
-/
import Derived.Test.YtblebpmlkpobnaaGreatFZA
import Derived.Test.YtblebpmlkpobnaaGreatFI1
import Derived.Test.YtblebpmlkpobnaaGreatFZF
import Derived.Test.YtblebpmlkpobnaaGreatFH1
import Derived.Test.YtblebpmlkpobnaaGreatFM
import Derived.Test.YtblebpmlkpobnaaGreatFN
import Derived.Test.YtblebpmlkpobnaaGreatFP1
set_option linter.unusedSimpArgs false
set_option linter.unusedVariables false
set_option maxRecDepth 100000
set_option maxHeartbeats 8000000
namespace Go.Proofs.YtblebpmlkpobnaaGreat
open Go.RowKit
attribute [local go_sem ↓] Go.wp_at_zero Go.wp_at_succ
def knE (e : Int) : Kn where
 R := fun i v _ w => ((i = 3 \/ i = 7) -> It w v e) /\ (i = 8 -> It w v (e * e))
 V := fun w B => Vx w B 0
 up := fun h hb => ⟨fun e => (h.1 e).up hb, fun e => (h.2 e).up hb⟩
 vup := fun h hb => h.up hb
 vlt := fun h => h.lt
structure TdJ (l : List (Int × Int)) (mk : Value -> Value) (W0 : World) (b : Nat -> Bool) (x : Nat -> Value) (W : World) : Prop where
 bl : Below W0.heap.size W0 W
 s2 : b 2 = true -> b 5 = false -> So eP W W0.heap.size (x 2) []
 s5 : b 5 = true -> So eP W W0.heap.size (x 5) l
 o5 : b 5 = true -> b 2 = true
 v9 : b 9 = true -> ∃ D, x 9 = .pointer (some ⟨D, 0, none⟩) /\ W0.heap.size <= D /\ W.heap[D]? = some (.cells #[.bool false, .slice none 0 0, .slice none 0 0, .slice none 0 0, .int .i64 0] 36 (0, 0)) /\ (b 2 = true -> b 5 = false -> (x 2).ownBlock ≠ some D) /\ (b 5 = true -> (x 5).ownBlock ≠ some D)
 e8 : b 8 = true -> b 5 = true /\ x 8 = mk (x 5)
section
variable {l : List (Int × Int)} {mk : Value -> Value} {W0 W W' : World} {b : Nat -> Bool} {x : Nat -> Value}
theorem TdJ.start (l : List (Int × Int)) (mk : Value -> Value) (W0 : World) (x : Nat -> Value) : TdJ l mk W0 (fun _ => false) x W0.drew := ⟨(Below.refl _ _).drew, (fun h => nomatch h), (fun h => nomatch h), (fun h => nomatch h), (fun h => nomatch h), fun h => nomatch h⟩
theorem TdJ.lit (h : TdJ l mk W0 b x W) (h2 : b 2 = false) : TdJ l mk W0 (fset b 2 true) (fset x 2 (.slice (some ⟨W.heap.size, 0, none⟩) 0 0)) (W.alloc (.cells #[] 49)) := by
 have hb := below_new W (.cells #[] 49);have h5 : b 5 = false := by cases e : b 5 with | false => rfl | true => have := h.o5 e; rw [h2] at this; cases this
 have ne : ∀ {α : Type} (f : Nat -> α) (u : α) {j : Nat}, j ≠ 2 -> fset f 2 u j = f j := fun f u _ e => fset_ne _ _ e;refine ⟨Bl.up h.bl hb, fun _ _ => by rw [fset_same]; exact So.lit0 eP W h.bl.size, fun p => ?_, fun p => ?_, fun p => ?_, fun p => ?_⟩
 ·rw [ne _ _ (by decide), h5] at p; cases p
 ·rw [ne _ _ (by decide), h5] at p; cases p
 ·rw [ne _ _ (by decide)] at p |-;obtain ⟨D, e, k1, k2, -, -⟩ := h.v9 p;have hlt := (Array.getElem?_eq_some_iff.1 k2).1;refine ⟨D, e, k1, (hb.block _ hlt).trans k2, fun _ _ => ?_, fun p => ?_⟩
  ·rw [fset_same];intro e;have : W.heap.size = D := by simpa [Value.ownBlock] using e
   omega
  ·rw [ne _ _ (by decide), h5] at p; cases p
 ·rw [ne _ _ (by decide)] at p;have := (h.e8 p).1;rw [h5] at this; cases this
theorem TdJ.app (h : TdJ l mk W0 b x W) (h2 : b 2 = true) (h5 : b 5 = false) {v : Value} (hv : So eP W' W0.heap.size v l) (hb : ButS (fun k => (x 2).ownBlock = some k) W W') (hg : ∀ g, v.ownBlock = some g -> (x 2).ownBlock = some g \/ g = W.heap.size) :
  TdJ l mk W0 (fset b 5 true) (fset x 5 v) W' := by
 have ne : ∀ {α : Type} (f : Nat -> α) (u : α) {j : Nat}, j ≠ 5 -> fset f 5 u j = f j := fun f u _ e => fset_ne _ _ e;have k := h.s2 h2 h5;refine ⟨ButS.below h.bl hb h.bl.size (fun g e => (k.lt g e).1), fun _ p => ?_, fun _ => by rw [fset_same]; exact hv, fun _ => by rw [ne _ _ (by decide)]; exact h2, fun p => ?_, fun p => ?_⟩
 ·rw [fset_same] at p; cases p
 ·rw [ne _ _ (by decide)] at p |-;obtain ⟨D, e, k1, k2, k3, -⟩ := h.v9 p;have hlt := (Array.getElem?_eq_some_iff.1 k2).1;refine ⟨D, e, k1, (hb.block _ hlt (k3 h2 h5)).trans k2, fun _ p => ?_, fun _ => ?_⟩
  ·rw [fset_same] at p; cases p
  ·rw [fset_same];intro e';rcases hg D e' with h | h
   ·exact k3 h2 h5 h
   ·omega
 ·rw [ne _ _ (by decide)] at p;have := (h.e8 p).1;rw [h5] at this; cases this
theorem TdJ.var (h : TdJ l mk W0 b x W) : TdJ l mk W0 (fset b 9 true) (fset x 9 (.pointer (some ⟨W.heap.size, 0, none⟩))) (W.alloc (.cells #[.bool false, .slice none 0 0, .slice none 0 0, .slice none 0 0, .int .i64 0] 36)) := by
 have hb := below_new W (.cells #[.bool false, .slice none 0 0, .slice none 0 0, .slice none 0 0, .int .i64 0] 36);have ne : ∀ {α : Type} (f : Nat -> α) (u : α) {j : Nat}, j ≠ 9 -> fset f 9 u j = f j := fun f u _ e => fset_ne _ _ e;refine ⟨Bl.up h.bl hb, fun p q => ?_, fun p => ?_, fun p => ?_, fun _ => ?_, fun p => ?_⟩
 ·rw [ne _ _ (by decide)] at p q |-; exact (h.s2 p q).up hb
 ·rw [ne _ _ (by decide)] at p |-; exact (h.s5 p).up hb
 ·rw [ne _ _ (by decide)] at p |-; exact h.o5 p
 ·rw [fset_same];refine ⟨_, rfl, h.bl.size, heap_alloc_new W _, fun p q => ?_, fun p => ?_⟩
  ·rw [ne _ _ (by decide)] at p q |-;intro e;have := ((h.s2 p q).lt _ e).2; omega
  ·rw [ne _ _ (by decide)] at p |-;intro e;have := ((h.s5 p).lt _ e).2; omega
 ·rw [ne _ _ (by decide)] at p |-;rw [ne _ _ (by decide), ne _ _ (by decide)]; exact h.e8 p
theorem TdJ.mk8 (h : TdJ l mk W0 b x W) (h5 : b 5 = true) : TdJ l mk W0 (fset b 8 true) (fset x 8 (mk (x 5))) W := by
 have ne : ∀ {α : Type} (f : Nat -> α) (u : α) {j : Nat}, j ≠ 8 -> fset f 8 u j = f j := fun f u _ e => fset_ne _ _ e;refine ⟨h.bl, fun p q => ?_, fun p => ?_, fun p => ?_, fun p => ?_, fun _ => ?_⟩
 ·rw [ne _ _ (by decide)] at p q |-; exact h.s2 p q
 ·rw [ne _ _ (by decide)] at p |-; exact h.s5 p
 ·rw [ne _ _ (by decide)] at p |-; exact h.o5 p
 ·rw [ne _ _ (by decide)] at p |-;rw [ne _ _ (by decide), ne _ _ (by decide), ne _ _ (by decide), ne _ _ (by decide)]; exact h.v9 p
 ·rw [ne _ _ (by decide), fset_same, ne _ _ (by decide)]; exact ⟨h5, rfl⟩
end
theorem sml_cmp {B x : Nat} : cmpI (x : Int) (((B : Int) + 1) * ((B : Int) + 1)) < 0 ↔ sml B x = true := by
 have e : (((B : Int) + 1) * ((B : Int) + 1)) = (((B + 1) * (B + 1) : Nat) : Int) := by rw [Int.natCast_mul]; rfl
 rw [e];unfold cmpI sml;rw [decide_eq_true_eq];split
 ·constructor <;> intro <;> omega
 ·split
  ·constructor <;> intro <;> omega
  ·constructor <;> intro <;> omega
def tdS (f : Fn) (i : Nat) : List (Nat × Nat) := (f.R.take i).filter fun p => sml f.B p.1
def tdB (f : Fn) (i : Nat) : List (Nat × Nat) := (f.R.take i).filter fun p => !sml f.B p.1
theorem td_yes {f : Fn} {i : Nat} (hi : i < f.R.length) (h : sml f.B (f.R.getD i (0, 0)).1 = true) : tdS f (i + 1) = tdS f i ++ [f.R.getD i (0, 0)] /\ tdB f (i + 1) = tdB f i := by
 unfold tdS tdB;rw [List.take_succ_eq_append_getElem hi, List.filter_append, List.filter_append];have e : f.R.getD i (0, 0) = f.R[i] := by rw [List.getD_eq_getElem?_getD, List.getElem?_eq_getElem hi]; rfl
 rw [e] at h |-;constructor <;> simp [h]
theorem td_no {f : Fn} {i : Nat} (hi : i < f.R.length) (h : ¬ sml f.B (f.R.getD i (0, 0)).1 = true) : tdS f (i + 1) = tdS f i /\ tdB f (i + 1) = tdB f i ++ [f.R.getD i (0, 0)] := by
 unfold tdS tdB;rw [List.take_succ_eq_append_getElem hi, List.filter_append, List.filter_append];have e : f.R.getD i (0, 0) = f.R[i] := by rw [List.getD_eq_getElem?_getD, List.getElem?_eq_getElem hi]; rfl
 rw [e] at h |-;constructor <;> simp [h]
theorem td_len (f : Fn) (i : Nat) : (tdS f i).length <= f.R.length /\ (tdB f i).length <= f.R.length := by
 unfold tdS tdB;have h : (f.R.take i).length <= f.R.length := by rw [List.length_take]; omega
 exact ⟨Nat.le_trans (List.length_filter_le _ _) h, Nat.le_trans (List.length_filter_le _ _) h⟩
theorem rtidy_any (va : Value) (f : Fn) (w : World) (ha : Fx w va (zF f)) (hB : f.B <= 65536) (hlP : f.P.length <= 100000000) (hlR : f.R.length <= 100000000) (hsP : ∀ p ∈ f.P, sz ((p.1 : Nat) : Int) <= 1099511627776) (hsR : ∀ p ∈ f.R, sz ((p.1 : Nat) : Int) <= 1099511627776) :
  Calls Tryz.prog 28 #[va] w fun e w' => ∃ v t, e = .returned v /\ Fx w' v (zF t) /\ TidyTo f t /\ Below w.heap.size w w' := by
 obtain ⟨W, s, a, n, c, aP, cP, aR, cR, rfl, hW, bl, hs, hF⟩ := boxN w ha;clear ha;go_enter Tryz.func28, Tryz.ntmps28
 go_upto_region 1 with fail;rw [<- hW];have hD0 := heap_alloc_new W (.cells #[.bool false, .slice none 0 0, .slice none 0 0, .slice none 0 0, .int .i64 0] 36);have hb0 := below_new W (.cells #[.bool false, .slice none 0 0, .slice none 0 0, .slice none 0 0, .int .i64 0] 36);rw [hs] at hD0;have hF1 := hF.up hb0;have hbl := Bl.up bl hb0;have hs1 : (W.alloc (.cells #[.bool false, .slice none 0 0, .slice none 0 0, .slice none 0 0, .int .i64 0] 36)).heap.size = w.heap.size + 2 := by rw [World.size_alloc, hs]
 clear hW hF bl hb0 hs;generalize W.alloc (.cells #[.bool false, .slice none 0 0, .slice none 0 0, .slice none 0 0, .int .i64 0] 36) = W1 at *;obtain ⟨p0, p1, p2, p3, p4, hN, hP, hR⟩ := hF1.cellsN;have HN := Lib.hid hN;have HP := Lib.hid hP;have HR := Lib.hid hR;have HD0 := Lib.hid hD0;have HBL := Lib.hid hbl;have HSP := Lib.hid hsP;have HSR := Lib.hid hsR;clear hF1 hN hP hR hD0 hbl hsP hsR;have e1 : IntKind.i64.wrap ((f.B : Int) + 1) = (f.B : Int) + 1 := by rw [IntKind.wrap_i64]; omega
 have hse : sz ((f.B : Int) + 1) <= 1099511627776 := Nat.le_trans (sz_le_of (k := 1) (e := 32) (n := 65537) (x := f.B + 1) rfl (by omega) (by decide)) (by decide);have HSE := Lib.hid hse;clear hse;refine wp_region_T (by kernel_rfl) [10] (S := fun w' => w'.cell? ⟨w.heap.size, 4, none⟩ = some (.int .i64 (f.B : Int))) p4 (fun hHeld => ?_);refine pL 0 rfl ?_;refine kL 1 rfl ?_;(refine pL 2 rfl ?_; refine pL 4 rfl ?_)
 refine kL 5 rfl ?_;refine pL 6 rfl ?_;clear hHeld
 refine wpAnyT_all [(3, some 9), (7, some 13), (8, some 14), (9, some 3)] 1 (Fl (knE ((f.B : Int) + 1)) 9 W1) rfl (by kernel_rfl) (by decide) (by kernel_rfl) (by kernel_rfl) (by kernel_rfl)
  (fun bb x wz h => keepc h.bl p4) (fun x => Fl.start _ _ _ _) ?_ ?_
 ·intro i hi;have hi' : i = 3 \/ i = 7 \/ i = 8 \/ i = 9 := by simpa using hi
  clear hi;rcases hi' with rfl | rfl | rfl | rfl
  ·refine ⟨_, rfl, fun bb xx wz hJ hbf hw K hK => ?_⟩;clear hbf hw;simp only [actA] at hK |-;go_simp;refine (rof_any ((f.B : Int) + 1) wz (by omega) (by omega)).mono ?_;rintro e w2 ⟨v, rfl, hv, hb⟩;exact hK.out _ _ (hJ.call (i := 3) (by decide) (Z := fun _ => False) ⟨fun _ => hv, nzz⟩ (fun k hk => hk.elim) hb)
  ·refine ⟨_, rfl, fun bb xx wz hJ hbf hw K hK => ?_⟩;clear hbf hw;simp only [actA] at hK |-;go_simp;refine (rof_any ((f.B : Int) + 1) wz (by omega) (by omega)).mono ?_;rintro e w2 ⟨v, rfl, hv, hb⟩;exact hK.out _ _ (hJ.call (i := 7) (by decide) (Z := fun _ => False) ⟨fun _ => hv, nzz⟩ (fun k hk => hk.elim) hb)
  ·refine ⟨_, rfl, fun bb xx wz hJ hbf hw K hK => ?_⟩;have hv3 := (Classical.choose_spec (hJ.pr 3 (by decide) (hw 3 (by kernel_rfl)))).1.1 (.inl rfl);have hv7 := (Classical.choose_spec (hJ.pr 7 (by decide) (hw 7 (by kernel_rfl)))).1.1 (.inr rfl);have HV3 := Lib.hid hv3;have HV7 := Lib.hid hv7;clear hbf hw hv3 hv7;simp only [actA] at hK |-;go_simp;refine (rmul_any _ _ _ _ wz HV3.out HV7.out HSE.out HSE.out).mono ?_;rintro e w2 ⟨v, rfl, hv, hb⟩;exact hK.out _ _ (hJ.call (i := 8) (by decide) (Z := fun _ => False) ⟨nzz, fun _ => hv⟩ (fun k hk => hk.elim) hb)
  ·refine ⟨_, rfl, fun bb xx wz hJ hbf hw K hK => ?_⟩;clear hbf hw;simp only [actA] at hK |-;go_simp;exact hK.out _ _ (hJ.var (W' := wz.alloc (.cells #[.bool false, .slice none 0 0] 33)) (Vx.new0 (w := wz) rfl) (below_new _ _))
 intro bz xx wz hbb hJ;obtain ⟨Z, hRR, -, -⟩ := hJ.pr 8 (by decide) (hbb 8 (by decide));obtain ⟨B3, hx9, hB3, hV3⟩ := hJ.pj (hbb 9 (by decide));have hbz := hJ.bl;have hv := hRR.2 rfl;clear hbb hJ hRR;obtain ⟨sE, aE, nE, cE, hx8⟩ := hv.shape;rw [hx8] at hv;obtain ⟨u3, hu3⟩ : ∃ u3, u3 = xx 3 := ⟨_, rfl⟩;obtain ⟨u7, hu7⟩ : ∃ u7, u7 = xx 7 := ⟨_, rfl⟩;simp only [actM, hx9, hx8, <- hu3, <- hu7];clear hx9 hx8 hu3 hu7;have hHeld : (fun w' : World => w'.cell? ⟨w.heap.size, 4, none⟩ = some (.int .i64 (f.B : Int))) wz := keepc hbz p4;obtain ⟨y1, y2, y3, y4, z0, z1, z2, z3, -⟩ := hV3.cells;(refine oL 10 rfl fun K hK => tL ?_; go_simp);(go_wp2_with fail; refine xL hK (tL ?_); clear hK);refine dT ?_;clear z0 z1 z2 z3 hHeld;have hbu := (ButS.set wz B3 0 (.bool sE)).trans (ButS.set _ B3 1 (.slice aE nE cE));have hV := Vx.put hV3.va hv;have hb6 : Below W1.heap.size W1 ((wz.setCell ⟨B3, 0, none⟩ (.bool sE)).setCell ⟨B3, 1, none⟩ (.slice aE nE cE)) := ButS.below hbz hbu hbz.size (fun g e => by omega);replace p0 := keepc hb6 p0;replace p1 := keepc hb6 p1;replace p2 := keepc hb6 p2;replace p3 := keepc hb6 p3;replace p4 := keepc hb6 p4;replace HN := Lib.hid (HN.out.up hb6);replace HP := Lib.hid (HP.out.up hb6);replace HR := Lib.hid (HR.out.up hb6);replace HD0 := Lib.hid ((hb6.block _ (Array.getElem?_eq_some_iff.1 HD0.out).1).trans HD0.out);replace HBL := Lib.hid (Bl.up HBL.out hb6);have hs2 : w.heap.size + 2 <= ((wz.setCell ⟨B3, 0, none⟩ (.bool sE)).setCell ⟨B3, 1, none⟩ (.slice aE nE cE)).heap.size := by have := hb6.size; omega
 have HV := Lib.hid hV;clear hbz hbu hb6 hV3 hv hV e1 hB3 hs1;generalize (wz.setCell ⟨B3, 0, none⟩ (.bool sE)).setCell ⟨B3, 1, none⟩ (.slice aE nE cE) = w2 at *;go_upto_region 2 with fail;refine wp_region_T (by kernel_rfl) [10] (S := fun w' => w'.cell? ⟨w.heap.size, 0, none⟩ = some (.bool s) /\ w'.cell? ⟨w.heap.size, 1, none⟩ = some (.slice a n c) /\ w'.cell? ⟨w.heap.size, 2, none⟩ = some (.slice aP f.P.length cP) /\ w'.cell? ⟨w.heap.size, 4, none⟩ = some (.int .i64 (f.B : Int))) ⟨p0, p1, p2, p4⟩ (fun hHeld => ?_);refine pL 0 rfl ?_;refine kL 1 rfl ?_;refine pL 3 rfl ?_;refine kL 4 rfl ?_;refine pL 6 rfl ?_;refine kL 7 rfl ?_;clear hHeld;have hPz : (zP f.P).length = f.P.length := zP_len _;have HPZ := Lib.hid hPz;clear hPz
 refine wpAnyT_all [(2, some 17), (5, some 20), (8, some 23), (9, some 4)] 1 (TdJ (zP f.P) (fun v => .agg #[.bool s, .slice a n c, v, .slice none 0 0, .int .i64 (f.B : Int)]) w2) rfl (by kernel_rfl) (by decide) (by kernel_rfl) (by kernel_rfl) (by kernel_rfl)
  (fun bb x wz h => ⟨keepc h.bl p0, keepc h.bl p1, keepc h.bl p2, keepc h.bl p4⟩) (fun x => TdJ.start _ _ _ _) ?_ ?_
 ·intro i hi;have hi' : i = 2 \/ i = 5 \/ i = 8 \/ i = 9 := by simpa using hi
  clear hi;rcases hi' with rfl | rfl | rfl | rfl
  ·refine ⟨_, rfl, fun bb xx wz hJ hbf hw K hK => ?_⟩;clear hw;simp only [actA] at hK |-;go_simp;exact hK.out _ _ (hJ.lit hbf)
  ·refine ⟨_, rfl, fun bb xx wz hJ hbf hw K hK => ?_⟩;have h2 := hw 2 (by kernel_rfl);clear hw;refine step_apSr (E := eP) (by rfl) (.tmp 17) (.tmp 19) _ (by rfl) Tryz.underlying34 w2.heap.size (xx 2) (.slice aP f.P.length cP) [] (zP f.P) (by rfl) (hJ.s2 h2 hbf) hJ.bl.size (by rfl) (HP.out.up hJ.bl) (by rw [HPZ.out]; simp; omega) ?_;intro v' w' h1 h3 h5 _;exact hK.out _ _ (hJ.app h2 hbf h1 h3 h5)
  ·refine ⟨_, rfl, fun bb xx wz hJ hbf hw K hK => ?_⟩;have h5 := hw 5 (by kernel_rfl)
   have hsl : ∃ q : Option Addr × Nat × Nat, xx 5 = .slice q.1 q.2.1 q.2.2 := by
    obtain ⟨a', c', e, -⟩ := (hJ.s5 h5).slice;exact ⟨(a', _, c'), e⟩
   have hh := Classical.choose_spec hsl;generalize Classical.choose hsl = q at hh;have hJ8 := hJ.mk8 h5;rw [hh] at hJ8;have HJ8 := Lib.hid hJ8;clear hw hJ8;simp only [actA, hh] at hK |-;go_simp;exact hK.out _ _ HJ8.out
  ·refine ⟨_, rfl, fun bb xx wz hJ hbf hw K hK => ?_⟩;clear hw;simp only [actA] at hK |-;go_simp;exact hK.out _ _ hJ.var
 intro bz xx wz hbb hJ;obtain ⟨D, hx9, hD2, hDz, -, hDn⟩ := hJ.v9 (hbb 9 (by decide));replace hDn := hDn (hbb 5 (by decide));have hx8 := (hJ.e8 (hbb 8 (by decide))).2;have hS5 := hJ.s5 (hbb 5 (by decide));have hbz := hJ.bl;clear hbb hJ;obtain ⟨a5, c5, hx5, hc5⟩ := hS5.slice;rw [HPZ.out] at hx5 hc5;rw [hx5] at hS5 hDn;simp only [hx5] at hx8;obtain ⟨u2, hu2⟩ : ∃ u2, u2 = xx 2 := ⟨_, rfl⟩;simp only [actM, hx9, hx8, hx5, <- hu2];clear hx9 hx8 hx5 hu2;obtain ⟨d0, d1, d2, d3, d4, f0, f1, f2, f3, f4⟩ := heap5' hDz;(refine oL 10 rfl fun K hK => tL ?_; go_simp);(go_wp2_with fail; refine xL hK (tL ?_); clear hK);refine dT ?_;clear d0 d1 d2 d3 d4 f0 f1 f2 f3 f4;have hbu := five_but wz D (.bool s) (.slice a n c) (.slice a5 f.P.length c5) (.slice none 0 0) (.int .i64 (f.B : Int));have hDh := five_heap hDz (.bool s) (.slice a n c) (.slice a5 f.P.length c5) (.slice none 0 0) (.int .i64 (f.B : Int));have hnw := five_nw hDz;have hBu0 : BuT 36 _ D (.slice a5 f.P.length c5) (.slice none 0 0) (f.N : Int) (zP f.P) [] (f.B : Int) := ⟨⟨s, a, n, c, hDh, (HN.out.up hbz).fr hbu hnw⟩, (hS5.fr hbu hnw (fun g hg e => hDn (e ▸ hg))).base (Nat.zero_le _), So.nil eP _ _, fun g h => by simp [Value.ownBlock], hDn, by simp [Value.ownBlock]⟩
 have hO0 : ∀ g, bset D (.slice a5 f.P.length c5) (.slice none 0 0) g -> w2.heap.size <= g := fun g hg => by
  rcases hg with h | h | h
  ·omega
  ·exact (hS5.lt g h).1
  ·simp [Value.ownBlock] at h
 have hb3 := ButS.below hbz hbu hbz.size (fun g e => by omega);have HBU0 := Lib.hid hBu0;have HO0 := Lib.hid hO0;have HB3 := Lib.hid hb3;clear hbu hDh hnw hBu0 hO0 hb3 hDz hS5 hDn hbz hD2 hc5;generalize ((((wz.setCell ⟨D, 0, none⟩ (.bool s)).setCell ⟨D, 1, none⟩ (.slice a n c)).setCell ⟨D, 2, none⟩ (.slice a5 f.P.length c5)).setCell ⟨D, 3, none⟩ (.slice none 0 0)).setCell ⟨D, 4, none⟩ (.int .i64 (f.B : Int)) = w3 at *;obtain ⟨nR0, hnR0⟩ : ∃ nR0, f.R.length = nR0 := ⟨_, rfl⟩;have HNR := Lib.hid hnR0;rw [hnR0] at hlR p3 HR |-;clear hnR0;go_wp2_with fail
 go_loopw [5] (fun s5 wr => ∃ (i : Nat) (vP vR : Value), s5 = .int .i64 (i : Int) /\ i <= nR0 /\ BuT 36 wr D vP vR (f.N : Int) (zP (f.P ++ tdS f i)) (zP (tdB f i)) (f.B : Int) /\ (∀ g, bset D vP vR g -> w2.heap.size <= g) /\ Below w2.heap.size w2 wr)
  (fun s5 _ => nR0 - (intOf s5).toNat)
 case atStart =>
  have e1 : zP (f.P ++ tdS f 0) = zP f.P := by simp [tdS]
  have e2 : zP (tdB f 0) = [] := by simp [tdB, zP]
  exact ⟨0, _, _, rfl, Nat.zero_le _, by rw [e1, e2]; exact HBU0.out, HO0.out, HB3.out⟩
 case round =>
  obtain ⟨i, vP, vR, rfl, hi, hBu, hO, hbr⟩ := hrel;have b3 := keepc hbr p3;by_cases hlt : i < nR0
  ·have i0 : (0 : Int) <= (i : Int) := by omega
   have i1 : (i : Int) < (nR0 : Int) := by omega
   have hil : i < f.R.length := by rw [HNR.out]; exact hlt
   have hiz : i < (zP f.R).length := by rw [zP_len]; exact hil
   obtain ⟨ba, offa, rfl, hba, hla⟩ := (HR.out.up hbr).at hiz;obtain ⟨s1, a1, n1, k1, x0, x1, x2, hx⟩ := hla.pow hiz;rw [zP_getD] at x2 hx;have hmem : f.R.getD i (0, 0) ∈ f.R := by rw [List.getD_eq_getElem?_getD, List.getElem?_eq_getElem hil]; exact List.getElem_mem _
   have hsx := HSR.out _ hmem;have hyes := td_yes hil;have hno := td_no hil;obtain ⟨q, hq⟩ : ∃ q, f.R.getD i (0, 0) = q := ⟨_, rfl⟩;rw [hq] at x2 hx hsx hyes hno;obtain ⟨xp, xk⟩ := q;dsimp only at x2 hx hsx hyes hno;have hVr := HV.out.up hbr;obtain ⟨s4, a4, n4, k4, e0, e1, -, -, hIe⟩ := hVr.cells;have HX := Lib.hid hx;have HSX := Lib.hid hsx;have HYES := Lib.hid hyes;have HNO := Lib.hid hno;have HIE := Lib.hid hIe;have HBU := Lib.hid hBu;have HOW := Lib.hid hO;have HBR := Lib.hid hbr;clear hla hiz hil hmem hq hx hsx hyes hno hVr hIe hBu hO hbr hba;go_upto_region 6 with fail;refine wp_region_T (by kernel_rfl) [] (S := fun w' => w'.cell? ⟨w.heap.size, 3, none⟩ = some (.slice (some ⟨ba, offa, none⟩) nR0 cR) /\ w'.cell? ⟨ba, offa + i * 3, none⟩ = some (.bool s1) /\ w'.cell? ⟨ba, offa + i * 3 + 1, none⟩ = some (.slice a1 n1 k1) /\ w'.cell? ⟨B3, 0, none⟩ = some (.bool s4) /\ w'.cell? ⟨B3, 1, none⟩ = some (.slice a4 n4 k4)) ⟨b3, x0, x1, e0, e1⟩ (fun hHeld => ?_);refine pL 0 rfl ?_;refine kL 1 rfl ?_;(refine pL 2 rfl ?_; refine pL 3 rfl ?_; refine pL 4 rfl ?_)
   (refine kL 5 rfl ?_; refine kL 6 rfl ?_)
   (refine oL 7 rfl fun K hK => tL ?_; go_simp)
   refine (rcmp_any _ _ (xp : Int) _ _ HX.out.drew HIE.out.drew (Nat.le_trans HSX.out (by decide)) (by
    have e : (((f.B : Int) + 1) * ((f.B : Int) + 1)) = (((f.B + 1) * (f.B + 1) : Nat) : Int) := by rw [Int.natCast_mul]; rfl
    rw [e];exact Nat.le_trans (sz_le_of (k := 2) (e := 64) (n := 65537 * 65537) rfl (Nat.mul_le_mul (by omega) (by omega)) (by decide)) (by decide))).mono ?_
   rintro e wz ⟨rfl, hb2⟩;obtain ⟨bs, hbs⟩ : ∃ bs, cmpI (xp : Int) (((f.B : Int) + 1) * ((f.B : Int) + 1)) = bs := ⟨_, rfl⟩;have hcp : bs < 0 ↔ sml f.B xp = true := by rw [<- hbs]; exact sml_cmp
   rw [hbs];have HC := Lib.hid hcp;replace b3 := keepc hb2 (cellD b3);replace x0 := keepc hb2 (cellD x0);replace x1 := keepc hb2 (cellD x1);replace x2 := keepc hb2 (cellD x2);replace e0 := keepc hb2 (cellD e0);replace e1 := keepc hb2 (cellD e1);have HXP := Lib.hid (HX.out.drew.up hb2);have HBZ := Lib.hid (Bl.up (Bl.drew HBR.out) hb2);replace HBU := Lib.hid (HBU.out.drew.up hb2);clear hbs hcp hb2 HX HBR;(go_wp2_with fail; clear hHeld; refine nxL hK ⟨b3, x0, x1, e0, e1⟩ fun hHeld => tL ?_; clear hK);(refine pL 8 rfl ?_)
   refine dT ?_;clear hHeld e0 e1;obtain ⟨aPv, cPv, rfl, -⟩ := HBU.out.hP.slice;obtain ⟨aRv, cRv, rfl, -⟩ := HBU.out.hR.slice;have htl := td_len f i;have hlPv : (zP (f.P ++ tdS f i)).length <= 200000000 := by rw [zP_len, List.length_append]; have := HNR.out; omega
   have hlRv : (zP (tdB f i)).length <= 200000000 := by rw [zP_len]; have := HNR.out; omega
   clear htl;obtain ⟨_, _, _, _, -, -, m2, m3, -, -, -, -, -, -, -⟩ := HBU.out.cellsA;by_cases h1 : sml f.B xp = true
   ·have hb0 : bs < 0 := HC.out.2 h1
    have HZS := Lib.hid (show zP (f.P ++ tdS f i) ++ [((xp : Int), (xk : Int))] = zP (f.P ++ tdS f (i + 1)) /\ zP (tdB f i) = zP (tdB f (i + 1)) by
     obtain ⟨h2, h3⟩ := HYES.out h1;rw [h2, h3, <- List.append_assoc, zP_append (f.P ++ tdS f i)];exact ⟨rfl, rfl⟩)
    clear HC h1 HYES HNO;obtain ⟨Pv, hPv⟩ : ∃ Pv, zP (f.P ++ tdS f i) = Pv := ⟨_, rfl⟩;obtain ⟨Rv, hRv⟩ : ∃ Rv, zP (tdB f i) = Rv := ⟨_, rfl⟩;rw [hPv, hRv] at HBU HZS HOW;rw [hPv] at m2 hlPv;rw [hRv] at m3 hlRv;clear hPv hRv;go_upto_region 7 with fail;refine wp_region_T (by kernel_rfl) [8] (S := fun w' => w'.cell? ⟨D, 2, none⟩ = some (.slice aPv Pv.length cPv) /\ w'.cell? ⟨w.heap.size, 3, none⟩ = some (.slice (some ⟨ba, offa, none⟩) nR0 cR) /\ w'.cell? ⟨ba, offa + i * 3, none⟩ = some (.bool s1) /\ w'.cell? ⟨ba, offa + i * 3 + 1, none⟩ = some (.slice a1 n1 k1) /\ w'.cell? ⟨ba, offa + i * 3 + 2, none⟩ = some (.int .i64 (xk : Int))) ⟨m2, b3, x0, x1, x2⟩ (fun hHeld => ?_);refine pL 0 rfl ?_;refine kL 1 rfl ?_;refine pL 2 rfl ?_;refine kL 3 rfl ?_;(refine pL 4 rfl ?_; refine pL 5 rfl ?_)
    refine kL 6 rfl ?_;(refine oL 7 rfl fun K hK => tL ?_; go_simp);have hD7 : (wz.alloc (.cells #[.bool s1, .slice a1 n1 k1, .int .i64 (xk : Int)] 49)).drew.heap[wz.heap.size]? = some (.cells #[.bool s1, .slice a1 n1 k1, .int .i64 (xk : Int)] 49 (0, 0)) := heap_alloc_new wz (.cells #[.bool s1, .slice a1 n1 k1, .int .i64 (xk : Int)] 49);have hsc : Sc eP (wz.alloc (.cells #[.bool s1, .slice a1 n1 k1, .int .i64 (xk : Int)] 49)).drew wz.heap.size 0 [((xp : Int), (xk : Int))] := Sc.one hD7 ⟨s1, a1, n1, k1, rfl, (HXP.out.alloc _).drew⟩;have hF7 := (HBU.out.alloc (.cells #[.bool s1, .slice a1 n1 k1, .int .i64 (xk : Int)] 49)).drew;have hB7 := Bl.drew (Bl.alloc HBZ.out (.cells #[.bool s1, .slice a1 n1 k1, .int .i64 (xk : Int)] 49));have m7 := cellD (cellN m2 (.cells #[.bool s1, .slice a1 n1 k1, .int .i64 (xk : Int)] 49));have b7 := cellD (cellN b3 (.cells #[.bool s1, .slice a1 n1 k1, .int .i64 (xk : Int)] 49));have x7 := cellD (cellN x0 (.cells #[.bool s1, .slice a1 n1 k1, .int .i64 (xk : Int)] 49));have x8 := cellD (cellN x1 (.cells #[.bool s1, .slice a1 n1 k1, .int .i64 (xk : Int)] 49));have x9 := cellD (cellN x2 (.cells #[.bool s1, .slice a1 n1 k1, .int .i64 (xk : Int)] 49));have hlt7 := hB7.size;(go_wp2_with fail; clear hHeld; refine nxL hK ⟨m7, b7, x7, x8, x9⟩ fun hHeld => tL ?_; clear hK);refine wpAnyT_one (i := 8) (by as_aux_lemma => kernel_rfl) rfl (fun K hK => ?_);refine step_apS (E := eP) (by rfl) (.tmp 41) (.tmp 47) _ (by rfl) Tryz.underlying34 0 _ Pv [((xp : Int), (xk : Int))] (by rfl) hF7.hP (Nat.zero_le _) wz.heap.size 0 1 1 (by rfl) rfl hsc (by decide) (by omega) ?_;intro g8 cap8 w8 h8 hb8 hg8
    have hg8' : ∀ g, (Value.slice (some ⟨g8, 0, none⟩) (Pv.length + 1) cap8).ownBlock = some g -> (Value.slice aPv Pv.length cPv).ownBlock = some g \/ g = (wz.alloc (.cells #[.bool s1, .slice a1 n1 k1, .int .i64 (xk : Int)] 49)).drew.heap.size := fun g hg => by
     have : g8 = g := by simpa [Value.ownBlock] using hg
     rw [<- this]; exact hg8
    obtain ⟨k1', k2', k3'⟩ := hF7.setP hb8 h8 hg8';obtain ⟨y1, y2, y3, y4, -, -, -, -, -, -, -, zf2, zf3, -, -⟩ := hF7.cellsA;have d8 := cell_fr hb8 (cell_lt m7) hF7.d2 m7;have f8 := frozen_fr hb8 (cell_lt m7) hF7.d2 zf2;have hS8 := HOW.out;have hB8 := ButS.below hB7 k2' hB7.size (fun g hg => hS8 g hg);have hO8 : ∀ g, bset D (.slice (some ⟨g8, 0, none⟩) (Pv.length + 1) cap8) (.slice aRv Rv.length cRv) g -> w2.heap.size <= g := fun g hg => (k3' g hg).elim (hS8 g) (fun h => Nat.le_trans hlt7 h);have HF8 := Lib.hid k1';have HB8 := Lib.hid hB8;have HO8 := Lib.hid hO8;clear hF7 hB7 hb8 h8 hg8 hg8' k1' k2' k3' zf2 zf3 hB8 hS8 hO8 hD7 hsc m2 m3 b3 x0 x1 x2 m7 b7 x7 x8 x9 hlt7 HBU HBZ HOW HXP;refine hK.out _ _ nzz ?_;clear hK hHeld;refine tL ?_;refine pL 9 rfl ?_;(refine oL 10 rfl fun K hK => tL ?_; go_simp);(go_wp2_with fail; refine xL hK (tL ?_); clear hK);refine dT ?_;clear d8 f8;go_wp2_with fail;refine ⟨⟨i + 1, _, _, by go_num, by omega, by rw [<- HZS.out.1, <- HZS.out.2]; exact HF8.out, HO8.out, HB8.out⟩, by simp [intOf]; omega⟩
   ·have hb0 : ¬ bs < 0 := fun h => h1 (HC.out.1 h)
    have HZS := Lib.hid (show zP (f.P ++ tdS f i) = zP (f.P ++ tdS f (i + 1)) /\ zP (tdB f i) ++ [((xp : Int), (xk : Int))] = zP (tdB f (i + 1)) by
     obtain ⟨h2, h3⟩ := HNO.out h1;rw [h2, h3, zP_append (tdB f i)];exact ⟨rfl, rfl⟩)
    clear HC h1 HYES HNO;obtain ⟨Pv, hPv⟩ : ∃ Pv, zP (f.P ++ tdS f i) = Pv := ⟨_, rfl⟩;obtain ⟨Rv, hRv⟩ : ∃ Rv, zP (tdB f i) = Rv := ⟨_, rfl⟩;rw [hPv, hRv] at HBU HZS HOW;rw [hPv] at m2 hlPv;rw [hRv] at m3 hlRv;clear hPv hRv;go_upto_region 8 with fail;refine wp_region_T (by kernel_rfl) [8] (S := fun w' => w'.cell? ⟨D, 3, none⟩ = some (.slice aRv Rv.length cRv) /\ w'.cell? ⟨w.heap.size, 3, none⟩ = some (.slice (some ⟨ba, offa, none⟩) nR0 cR) /\ w'.cell? ⟨ba, offa + i * 3, none⟩ = some (.bool s1) /\ w'.cell? ⟨ba, offa + i * 3 + 1, none⟩ = some (.slice a1 n1 k1) /\ w'.cell? ⟨ba, offa + i * 3 + 2, none⟩ = some (.int .i64 (xk : Int))) ⟨m3, b3, x0, x1, x2⟩ (fun hHeld => ?_);refine pL 0 rfl ?_;refine kL 1 rfl ?_;refine pL 2 rfl ?_;refine kL 3 rfl ?_;(refine pL 4 rfl ?_; refine pL 5 rfl ?_)
    refine kL 6 rfl ?_;(refine oL 7 rfl fun K hK => tL ?_; go_simp);have hD7 : (wz.alloc (.cells #[.bool s1, .slice a1 n1 k1, .int .i64 (xk : Int)] 49)).drew.heap[wz.heap.size]? = some (.cells #[.bool s1, .slice a1 n1 k1, .int .i64 (xk : Int)] 49 (0, 0)) := heap_alloc_new wz (.cells #[.bool s1, .slice a1 n1 k1, .int .i64 (xk : Int)] 49);have hsc : Sc eP (wz.alloc (.cells #[.bool s1, .slice a1 n1 k1, .int .i64 (xk : Int)] 49)).drew wz.heap.size 0 [((xp : Int), (xk : Int))] := Sc.one hD7 ⟨s1, a1, n1, k1, rfl, (HXP.out.alloc _).drew⟩;have hF7 := (HBU.out.alloc (.cells #[.bool s1, .slice a1 n1 k1, .int .i64 (xk : Int)] 49)).drew;have hB7 := Bl.drew (Bl.alloc HBZ.out (.cells #[.bool s1, .slice a1 n1 k1, .int .i64 (xk : Int)] 49));have m7 := cellD (cellN m3 (.cells #[.bool s1, .slice a1 n1 k1, .int .i64 (xk : Int)] 49));have b7 := cellD (cellN b3 (.cells #[.bool s1, .slice a1 n1 k1, .int .i64 (xk : Int)] 49));have x7 := cellD (cellN x0 (.cells #[.bool s1, .slice a1 n1 k1, .int .i64 (xk : Int)] 49));have x8 := cellD (cellN x1 (.cells #[.bool s1, .slice a1 n1 k1, .int .i64 (xk : Int)] 49));have x9 := cellD (cellN x2 (.cells #[.bool s1, .slice a1 n1 k1, .int .i64 (xk : Int)] 49));have hlt7 := hB7.size;(go_wp2_with fail; clear hHeld; refine nxL hK ⟨m7, b7, x7, x8, x9⟩ fun hHeld => tL ?_; clear hK);refine wpAnyT_one (i := 8) (by as_aux_lemma => kernel_rfl) rfl (fun K hK => ?_);refine step_apS (E := eP) (by rfl) (.tmp 51) (.tmp 57) _ (by rfl) Tryz.underlying34 0 _ Rv [((xp : Int), (xk : Int))] (by rfl) hF7.hR (Nat.zero_le _) wz.heap.size 0 1 1 (by rfl) rfl hsc (by decide) (by omega) ?_;intro g8 cap8 w8 h8 hb8 hg8
    have hg8' : ∀ g, (Value.slice (some ⟨g8, 0, none⟩) (Rv.length + 1) cap8).ownBlock = some g -> (Value.slice aRv Rv.length cRv).ownBlock = some g \/ g = (wz.alloc (.cells #[.bool s1, .slice a1 n1 k1, .int .i64 (xk : Int)] 49)).drew.heap.size := fun g hg => by
     have : g8 = g := by simpa [Value.ownBlock] using hg
     rw [<- this]; exact hg8
    obtain ⟨k1', k2', k3'⟩ := hF7.setR hb8 h8 hg8';obtain ⟨y1, y2, y3, y4, -, -, -, -, -, -, -, zf2, zf3, -, -⟩ := hF7.cellsA;have d8 := cell_fr hb8 (cell_lt m7) hF7.d3 m7;have f8 := frozen_fr hb8 (cell_lt m7) hF7.d3 zf3;have hS8 := HOW.out;have hB8 := ButS.below hB7 k2' hB7.size (fun g hg => hS8 g hg);have hO8 : ∀ g, bset D (.slice aPv Pv.length cPv) (.slice (some ⟨g8, 0, none⟩) (Rv.length + 1) cap8) g -> w2.heap.size <= g := fun g hg => (k3' g hg).elim (hS8 g) (fun h => Nat.le_trans hlt7 h);have HF8 := Lib.hid k1';have HB8 := Lib.hid hB8;have HO8 := Lib.hid hO8;clear hF7 hB7 hb8 h8 hg8 hg8' k1' k2' k3' zf2 zf3 hB8 hS8 hO8 hD7 hsc m2 m3 b3 x0 x1 x2 m7 b7 x7 x8 x9 hlt7 HBU HBZ HOW HXP;refine hK.out _ _ nzz ?_;clear hK hHeld;refine tL ?_;refine pL 9 rfl ?_;(refine oL 10 rfl fun K hK => tL ?_; go_simp);(go_wp2_with fail; refine xL hK (tL ?_); clear hK);refine dT ?_;clear d8 f8;go_wp2_with fail;refine ⟨⟨i + 1, _, _, by go_num, by omega, by rw [<- HZS.out.1, <- HZS.out.2]; exact HF8.out, HO8.out, HB8.out⟩, by simp [intOf]; omega⟩
  ·have hil : i = nR0 := by omega
   subst hil;have i1 : ¬ (i : Int) < (i : Int) := by omega
   have eS : tdS f i = f.R.filter (fun p => sml f.B p.1) := by unfold tdS; rw [<- HNR.out, List.take_length]
   have eB : tdB f i = f.R.filter (fun p => !sml f.B p.1) := by unfold tdB; rw [<- HNR.out, List.take_length]
   rw [eS, eB] at hBu;have hlS : (f.R.filter (fun p => sml f.B p.1)).length <= f.R.length := List.length_filter_le _ _;have hlB : (f.R.filter (fun p => !sml f.B p.1)).length <= f.R.length := List.length_filter_le _ _
   have hszP : szL (zP (f.P ++ f.R.filter (fun p => sml f.B p.1))) := ⟨by rw [zP_len, List.length_append]; have := HNR.out; omega, fun x hx => by
    unfold zP at hx;obtain ⟨p, hp, rfl⟩ := List.mem_map.1 hx;rcases List.mem_append.1 hp with hp | hp
    ·exact HSP.out p hp
    ·exact HSR.out p (List.mem_filter.1 hp).1⟩
   have hszR : szL (zP (f.R.filter (fun p => !sml f.B p.1))) := ⟨by rw [zP_len]; have := HNR.out; omega, fun x hx => by
    unfold zP at hx;obtain ⟨p, hp, rfl⟩ := List.mem_map.1 hx;exact HSR.out p (List.mem_filter.1 hp).1⟩
   have hl1 : (zP (f.P ++ f.R.filter (fun p => sml f.B p.1))).length <= 1000000000 := by rw [zP_len, List.length_append]; have := HNR.out; omega
   have hl2 : (zP (f.R.filter (fun p => !sml f.B p.1))).length <= 1000000000 := by rw [zP_len]; have := HNR.out; omega
   obtain ⟨LP, hLP⟩ : ∃ LP, f.P ++ f.R.filter (fun p => sml f.B p.1) = LP := ⟨_, rfl⟩;obtain ⟨LR, hLR⟩ : ∃ LR, f.R.filter (fun p => !sml f.B p.1) = LR := ⟨_, rfl⟩;rw [hLP] at hBu hszP hl1;rw [hLR] at hBu hszR hl2;have HLP := Lib.hid hLP;have HLR := Lib.hid hLR;have HSZP := Lib.hid hszP;have HSZR := Lib.hid hszR;have HL1 := Lib.hid hl1;have HL2 := Lib.hid hl2;have HBU := Lib.hid hBu;have HOW := Lib.hid hO;have HBW := Lib.hid hbr;have HDr := Lib.hid ((hbr.block _ (Array.getElem?_eq_some_iff.1 HD0.out).1).trans HD0.out);have HBLr := Lib.hid (Bl.up HBL.out hbr);clear eS eB hlS hlB hszP hszR hl1 hl2 hLP hLR hBu hO hbr hlt hi;obtain ⟨aPv, cPv, rfl, -⟩ := HBU.out.hP.slice;obtain ⟨aRv, cRv, rfl, -⟩ := HBU.out.hR.slice;obtain ⟨_, _, _, _, -, -, m2, m3, -, -, -, -, -, -, -⟩ := HBU.out.cellsA;have hsz := HBW.out.size;have hDge := HOW.out D (.inl rfl);go_upto_region 9 with fail;refine wp_region_T (by kernel_rfl) [7, 9] (S := fun w' => w'.cell? ⟨D, 2, none⟩ = some (.slice aPv (zP LP).length cPv) /\ w'.cell? ⟨D, 3, none⟩ = some (.slice aRv (zP LR).length cRv)) ⟨m2, m3⟩ (fun hHeld => ?_);refine pL 0 rfl ?_;refine kL 1 rfl ?_;refine pL 3 rfl ?_;refine kL 4 rfl ?_;(refine oL 2 rfl fun K hK => tL ?_; go_simp);refine (rsorted_any _ (zP LP) _ HBU.out.hP.sr.drew HSZP.out HL1.out).mono ?_;rintro e wA ⟨v2, P', rfl, hS2, hZ2, hbA⟩;obtain ⟨av2, cv2, rfl, -⟩ := hS2.slice;obtain ⟨nP2, hnP⟩ : ∃ n, P'.length = n := ⟨_, rfl⟩;rw [hnP] at hS2 |-;clear hnP;have hFA := HBU.out.drew.up hbA;replace m2 := keepc hbA (cellD m2);replace m3 := keepc hbA (cellD m3);have hLA := Bl.up (Bl.drew HBLr.out) hbA;have hDA := (hbA.block _ (Array.getElem?_eq_some_iff.1 HDr.out).1).trans HDr.out;have hsA := hbA.size;have hslt := HBU.out.slt;have hdr : ∀ W : World, W.drew.heap.size = W.heap.size := fun _ => rfl;rw [hdr] at hsA;have h2lt := fun g hg => (hS2.lt g hg).1;rw [hdr] at h2lt;(go_wp2_with fail; clear hHeld; refine nxL hK ⟨m2, m3⟩ fun hHeld => tL ?_; clear hK);refine pL 6 rfl ?_;(refine oL 5 rfl fun K hK => tL ?_; go_simp);refine (rsorted_any _ (zP LR) wA hFA.hR.sr HSZR.out HL2.out).mono ?_;rintro e wB ⟨v5, R', rfl, hS5, hZ5, hbB⟩;obtain ⟨av5, cv5, rfl, -⟩ := hS5.slice;obtain ⟨nR2, hnR⟩ : ∃ n, R'.length = n := ⟨_, rfl⟩;rw [hnR] at hS5 |-;clear hnR;have hFB := hFA.up hbB;have hS2B := hS2.up hbB;have hLB := Bl.up hLA hbB;have hDB := (hbB.block _ (Array.getElem?_eq_some_iff.1 hDA).1).trans hDA;have hsB := hbB.size;replace m2 := keepc hbB m2;replace m3 := keepc hbB m3
   have hn2 : ∀ g, (Value.slice av2 nP2 cv2).ownBlock = some g -> g ≠ D /\ (Value.slice aRv (zP LR).length cRv).ownBlock ≠ some g := fun g hg => by
    have h1 := h2lt g hg;exact ⟨fun e => by have := hslt D (.inl rfl); omega, fun e => by have := hslt g (.inr (.inr e)); omega⟩
   have k1 := hFB.putP (hS2B.base (Nat.zero_le _)) hn2;have hb1 := ButS.set wB D 2 (Value.slice av2 nP2 cv2);have hnB : ∀ g, g = D -> NoW wB g := fun g e => hFB.nw g (.inl e);have hS5' := hS5.fr hb1 hnB (fun g hg e => by have := (hS5.lt g hg).1; have := hFA.lt; omega)
   have hn5 : ∀ g, (Value.slice av5 nR2 cv5).ownBlock = some g -> ¬ bset D (Value.slice av2 nP2 cv2) (.slice aRv (zP LR).length cRv) g := fun g hg hb => by
    have h1 := (hS5.lt g hg).1;rcases hb with h | h | h
    ·have := hFA.lt; omega
    ·have := (hS2.lt g h).2; omega
    ·have := hslt g (.inr (.inr h)); omega
   have k2 := k1.putR (hS5'.base (Nat.zero_le _)) hn5;have hb3 : ButS (fun k => k = D) wB ((wB.setCell ⟨D, 2, none⟩ (Value.slice av2 nP2 cv2)).setCell ⟨D, 3, none⟩ (Value.slice av5 nR2 cv5)) := hb1.trans (ButS.set _ D 3 (Value.slice av5 nR2 cv5));have hD3 := (hb3.block _ (Array.getElem?_eq_some_iff.1 hDB).1 (by omega)).trans hDB;have hL3 : Below w.heap.size w _ := ButS.below hLB hb3 hLB.size (fun g e => by omega);have ho2 : ∀ g, (Value.slice av2 nP2 cv2).ownBlock = some g -> ¬ g = w.heap.size + 1 := fun g hg e => by have := h2lt g hg; omega
   have ho5 : ∀ g, (Value.slice av5 nR2 cv5).ownBlock = some g -> ¬ g = w.heap.size + 1 := fun g hg e => by have := (hS5.lt g hg).1; omega
   obtain ⟨z1, z2, z3, z4, -, -, -, -, -, -, -, f2, -, -, -⟩ := hFB.cellsA;obtain ⟨y1, y2, y3, y4, -, -, -, e3', -, -, -, -, f3, -, -⟩ := k1.cellsA;obtain ⟨Pn, rfl, hsP⟩ := hZ2.nat;obtain ⟨Rn, rfl, hsR⟩ := hZ5.nat;have HSP2 := Lib.hid hsP;have HSR2 := Lib.hid hsR;have HK2 := Lib.hid k2;have HD3 := Lib.hid hD3;have HL3 := Lib.hid hL3;have HO2 := Lib.hid ho2;have HO5 := Lib.hid ho5;clear hFA hFB hS2B hLA hLB hDA hDB hsA hsB hslt hn2 k1 hb1 hnB hS5' hn5 k2 hb3 hD3 hL3 ho2 ho5 hsP hsR hZ2 hZ5 hS2 hS5 hbA hbB hsz hDge hdr h2lt;(go_wp2_with fail; clear hHeld; refine nxL hK ⟨m2, m3⟩ fun hHeld => tL ?_; clear hK);(refine oL 7 rfl fun K hK => tL ?_; go_simp);(go_wp2_with fail; refine xL hK (tL ?_); clear hK);refine pL 8 rfl ?_;(refine oL 9 rfl fun K hK => tL ?_; go_simp);(go_wp2_with fail; refine xL hK (tL ?_); clear hK);refine dT ?_;clear hHeld m2 m3 f2 f3 e3';generalize (wB.setCell ⟨D, 2, none⟩ (Value.slice av2 nP2 cv2)).setCell ⟨D, 3, none⟩ (Value.slice av5 nR2 cv5) = w9 at *;obtain ⟨sF, aF, nF, cF, hh, hfx⟩ := HK2.out.hb;obtain ⟨b0, b1, b2, b3, b4, -⟩ := heap5' hh;obtain ⟨d0, d1, d2, d3, d4, f0, f1, f2, f3, f4⟩ := heap5' HD3.out;have hbu := five_but w9 (w.heap.size + 1) (.bool sF) (.slice aF nF cF) (.slice av2 nP2 cv2) (.slice av5 nR2 cv5) (.int .i64 (f.B : Int));have hDh := five_heap HD3.out (.bool sF) (.slice aF nF cF) (.slice av2 nP2 cv2) (.slice av5 nR2 cv5) (.int .i64 (f.B : Int));have hnw := five_nw HD3.out;have hfin : Fx _ (.agg #[.bool sF, .slice aF nF cF, .slice av2 nP2 cv2, .slice av5 nR2 cv5, .int .i64 (f.B : Int)]) (zF ⟨f.N, Pn, Rn, f.B⟩) := ⟨sF, aF, nF, cF, _, _, rfl, hfx.fr hbu hnw, (HK2.out.hP.fr hbu hnw HO2.out).sr, (HK2.out.hR.fr hbu hnw HO5.out).sr⟩;have hLf := ButS.below HL3.out hbu HL3.out.size (fun g e => by omega);have HDH := Lib.hid hDh;have HFIN := Lib.hid hfin;have HLF := Lib.hid hLf;clear hh hfx hbu hDh hnw hfin hLf HK2 HL3 HD3;go_wp2_with fail;refine ret_fact (B := w.heap.size + 1) (T := 36) (fr := (0, 0)) rfl rfl rfl HDH.out ?_;have ht : TidyTo f ⟨f.N, Pn, Rn, f.B⟩ := ⟨rfl, rfl, by rw [HLP.out]; exact HSP2.out, by rw [HLR.out]; exact HSR2.out⟩
   first | exact ⟨_, rfl, _, HFIN.out, ht, HLF.out⟩ | exact ⟨_, _, rfl, HFIN.out, ht, HLF.out⟩
end Go.Proofs.YtblebpmlkpobnaaGreat
