/-
  A drawn region in which a call's result goes into a new variable, where the store may come up before the other results are taken out.
-/
import Derived.Test.YtblebpmlkpobnaaGreatDoorFR
import Derived.Test.YtblebpmlkpobnaaGreatDoorFN
import Derived.Test.YtblebpmlkpobnaaGreatDoorFP1
import Derived.Test.YtblebpmlkpobnaaGreatDoorFI1
import Derived.Test.YtblebpmlkpobnaaGreatDoorFL1
set_option linter.unusedSimpArgs false
set_option linter.unusedVariables false
set_option maxRecDepth 100000
set_option maxHeartbeats 4000000
namespace Go.Proofs.YtblebpmlkpobnaaGreatDoor
open Go.RowKit
attribute [local go_sem ↓] Go.wp_at_zero Go.wp_at_succ
theorem info2 : (Tryz.prog.info? 48).map (fun i => (i.zero, i.size, i.bytes)) = some (some (.agg #[.int .i64 0, .int .i64 0]), 2, 16) := by kernel_rfl
def e2 : Elt (Int × Int) where
 T := 48
 k := 2
 b := 16
 z := .agg #[.int .i64 0, .int .i64 0]
 ok := fun _ cs p => cs = [.int .i64 p.1, .int .i64 p.2]
 hk := by decide
 hb := by decide
 info := info2
 zc := rfl
 zn := by decide
 zo := by decide
 len := by rintro w cs x rfl; rfl
 one := by
  rintro w cs x rfl u hu;simp only [List.mem_cons, List.not_mem_nil, or_false] at hu;rcases hu with rfl | rfl <;> exact ⟨rfl, rfl⟩
 fr := by
  rintro w w' S hb hS cs x h;exact h
theorem Sc.two {w : World} {b off : Nat} {l : List (Int × Int)} (h : Sc e2 w b off l) {i : Nat} (hi : i < l.length) : w.cell? ⟨b, off + i * 2, none⟩ = some (.int .i64 (l.getD i (0, 0)).1) /\ w.cell? ⟨b, off + i * 2 + 1, none⟩ = some (.int .i64 (l.getD i (0, 0)).2) := by
 obtain ⟨cs, hc, hl⟩ := h i hi;have e : l[i] = l.getD i (0, 0) := by rw [List.getD_eq_getElem?_getD, List.getElem?_eq_getElem hi, Option.getD_some]
 rw [e] at hc;have hc : cs = [.int .i64 (l.getD i (0, 0)).1, .int .i64 (l.getD i (0, 0)).2] := hc;subst hc;exact ⟨hl 0 _ rfl, hl 1 _ rfl⟩
theorem powers_any (va : Value) (l : List (Int × Int)) (w : World) (ha : Sr e2 w va l) (hl : l.length <= 1000000) (hb : ∀ p ∈ l, -9223372036854775808 <= p.1 /\ p.1 <= 9223372036854775807 /\ -9223372036854775808 <= p.2 /\ p.2 <= 9223372036854775807) :
  Calls Tryz.prog 14 #[va] w fun e w' => ∃ v, e = .returned v /\ So eP w' w.heap.size v l /\ Below w.heap.size w w' := by
 obtain ⟨a, ca, rfl, hra⟩ := id ha;clear hra;go_enter Tryz.func14, Tryz.ntmps14
 go_wp2_with fail;have h0 : So eP (w.alloc (.cells #[] 41)) w.heap.size (.slice (some ⟨w.heap.size, 0, none⟩) 0 0) [] := So.lit0 eP w (Nat.le_refl _);have b0 := below_new w (.cells #[] 41);generalize w.alloc (.cells #[] 41) = W at *
 go_loopw [3, 4] (fun s3 s4 wr => ∃ i : Nat, s4 = .int .i64 i /\ i <= l.length /\ So eP wr w.heap.size s3 (l.take i) /\ Below w.heap.size w wr)
  (fun _ s4 _ => l.length - (intOf s4).toNat)
 case atStart => exact ⟨0, rfl, Nat.zero_le _, by rw [List.take_zero]; exact h0, b0⟩
 case round =>
  clear h0 b0;obtain ⟨i, rfl, hi, hS, hbl⟩ := hrel;by_cases hlt : i < l.length
  ·obtain ⟨ba, offa, rfl, hba, hla⟩ := ha.at hlt;obtain ⟨p0, p1⟩ := hla.two hlt;replace p0 := keepc hbl p0;replace p1 := keepc hbl p1;have hbx := hb (l.getD i (0, 0)) (by rw [List.getD_eq_getElem?_getD, List.getElem?_eq_getElem hlt]; exact List.getElem_mem _);have htk : l.take (i + 1) = l.take i ++ [l.getD i (0, 0)] := by rw [List.take_succ_eq_append_getElem hlt]; simp [List.getD_eq_getElem?_getD, hlt]
   have hln : (l.take i).length <= 1000000 := by simp; omega
   obtain ⟨x, hx0⟩ : ∃ x, l.getD i (0, 0) = x := ⟨_, rfl⟩;rw [hx0] at p0 p1 hbx htk;have HTK := Lib.hid htk;generalize l.take i = m at *;clear hx0 htk hla ha;have i0 : (0 : Int) <= (i : Int) := by omega
   have i1 : (i : Int) < (l.length : Int) := by omega
   go_upto_region 5 with fail;refine wp_region_T (by kernel_rfl) [] (S := fun w' => w'.cell? ⟨ba, offa + i * 2, none⟩ = some (.int .i64 x.1) /\ w'.cell? ⟨ba, offa + i * 2 + 1, none⟩ = some (.int .i64 x.2)) ⟨p0, p1⟩ (fun hHeld => ?_);(refine kL 0 rfl ?_; refine kL 1 rfl ?_; refine kL 2 rfl ?_; refine kL 3 rfl ?_; refine kL 4 rfl ?_; refine kL 5 rfl ?_; refine kL 7 rfl ?_; refine kL 8 rfl ?_; refine kL 9 rfl ?_; refine kL 10 rfl ?_; refine kL 11 rfl ?_)
   (refine oL 6 rfl fun K hK => tL ?_; go_simp);refine (rof_any x.1 _ (by omega) (by omega)).mono ?_;rintro e w2 ⟨v, rfl, hv, hb2⟩;obtain ⟨s1, a1, n1, c1, rfl⟩ := hv.shape;have hS2 := hS.drew.up hb2;have hbl2 := Bl.up (Bl.drew hbl) hb2;replace p0 := keepc hb2 (cellD p0);replace p1 := keepc hb2 (cellD p1);clear hb2 hS hbl;(go_wp2_with fail; clear hHeld; refine nxL hK ⟨p0, p1⟩ fun hHeld => tL ?_; clear hK);(refine kL 12 rfl ?_)
   (refine oL 13 rfl fun K hK => tL ?_; go_simp);have hD := heap_alloc_new w2 (.cells #[.bool s1, .slice a1 n1 c1, .int .i64 x.2] 41);have hsc : Sc eP (w2.alloc (.cells #[.bool s1, .slice a1 n1 c1, .int .i64 x.2] 41)) w2.heap.size 0 [x] := Sc.one hD ⟨s1, a1, n1, c1, rfl, hv.alloc _⟩;have hS3 := hS2.alloc (.cells #[.bool s1, .slice a1 n1 c1, .int .i64 x.2] 41);have hb3 := hbl2.alloc hbl2.size (.cells #[.bool s1, .slice a1 n1 c1, .int .i64 x.2] 41);(go_wp2_with fail; clear hHeld; refine nxL hK ⟨cellN p0 _, cellN p1 _⟩ fun hHeld => tL ?_; clear hK);refine wpAnyT_one (i := 14) (by as_aux_lemma => kernel_rfl) rfl (fun K hK => ?_);refine step_apS (E := eP) (by rfl) (.tmp 12) (.tmp 25) _ (by rfl) Tryz.underlying30 w.heap.size _ m [x] (by rfl) hS3 hb3.size w2.heap.size 0 1 1 (by rfl) rfl hsc (by decide) (by omega) ?_;intro g cap w3 h3 hb4 hg3;have hb5 := ButS.below hb3 hb4 hb3.size (fun g hg => (hS3.lt g hg).1);have hnb : ¬ (u3.ownBlock = some ba) := fun h => by have := (hS3.lt ba h).1; omega
   have r0 := cell_fr hb4 (Nat.lt_of_lt_of_le (cell_lt p0) (by simp)) hnb (cellN p0 (.cells #[.bool s1, .slice a1 n1 c1, .int .i64 x.2] 41));have r1 := cell_fr hb4 (Nat.lt_of_lt_of_le (cell_lt p1) (by simp)) hnb (cellN p1 (.cells #[.bool s1, .slice a1 n1 c1, .int .i64 x.2] 41));refine hK.out _ _ (fun _ => ⟨r0, r1⟩) ?_;clear hK hHeld;have hHeld : (fun w' : World => w'.cell? ⟨ba, offa + i * 2, none⟩ = some (.int .i64 x.1) /\ w'.cell? ⟨ba, offa + i * 2 + 1, none⟩ = some (.int .i64 x.2)) w3 := ⟨r0, r1⟩;refine tL ?_;(refine kL 15 rfl ?_)
   refine dT ?_;have HB5 := Lib.hid hb5;have H3 := Lib.hid h3;clear hHeld r0 r1 p0 p1 hb5 h3 hb4 hg3 hS3 hS2 hb3 hbl2 hsc hD hv;go_wp2_with fail;refine ⟨⟨i + 1, by go_num, by omega, by rw [HTK.out]; exact H3.out, HB5.out⟩, by simp [intOf]; omega⟩
  ·obtain rfl : i = l.length := by omega
   go_wp2_with fail;go_ret
   rw [List.take_length] at hS;exact ⟨_, rfl, hS, hbl⟩
theorem trial_bad (vn : Value) (n b : Int) (w : World) (hn : It w vn n) (hbad : n < 1 \/ b < 0 \/ 65536 < b) :
  Calls Tryz.prog 5 #[vn, .int .i64 b] w fun e w' => ∃ v, e = .returned (.tuple #[v, .int .i64 1]) /\ Fx w' v f0 /\ Below w.heap.size w w' := by
 obtain ⟨W, s1, a1, n1, c1, rfl, hW, bw, vX, hs, p0, p1, hx'⟩ := box1 w hn;clear hn;go_enter Tryz.func5, Tryz.ntmps5
 go_upto_region 1 with fail;rw [<- hW];clear hW;have hD := heap_alloc_new W (.cells #[.bool false, .slice none 0 0, .slice none 0 0, .slice none 0 0, .int .i64 0] 32);rw [hs] at hD;replace vX := vX.alloc (.cells #[.bool false, .slice none 0 0, .slice none 0 0, .slice none 0 0, .int .i64 0] 32);have hbl := Bl.alloc bw (.cells #[.bool false, .slice none 0 0, .slice none 0 0, .slice none 0 0, .int .i64 0] 32);clear hx' p0 p1 bw hs;generalize W.alloc (.cells #[.bool false, .slice none 0 0, .slice none 0 0, .slice none 0 0, .int .i64 0] 32) = W1 at *;obtain ⟨e1, e2, e3, e4, g0, g1, -, -, ixd⟩ := vX.cells;go_wp2_with fail;refine (sign_any _ n W1 ixd).mono ?_;rintro e w1 ⟨rfl, hb1⟩;have hHD := (hb1.block (w.heap.size + 1) (Array.getElem?_eq_some_iff.1 hD).1).trans hD;have hBw := Bl.up hbl hb1;have HBw := Lib.hid hBw;clear g0 g1 ixd vX hD hbl hb1 hBw;by_cases c1 : n < 1
 ·have hc1 : cmpI n 0 < 1 := by unfold cmpI; split <;> (try split) <;> omega
  generalize cmpI n 0 = cc at *;clear hbad
  (have HHD := Lib.hid hHD
   obtain ⟨d0, d1, d2, d3, d4, f0, f1, f2, f3, f4⟩ := heap5' hHD;clear hHD;go_wp2_with fail;have hfin := five_but (w1) (w.heap.size + 1) (.bool false) (.slice none 0 0) (.slice none 0 0) (.slice none 0 0) (.int .i64 0);refine ret_fact2 (B := w.heap.size + 1) (x0 := .bool false) (x1 := .slice none 0 0) (x2 := .slice none 0 0) (x3 := .slice none 0 0) (x4 := .int .i64 0) (y := .int .i64 1) rfl rfl rfl rfl (five_heap HHD.out _ _ _ _ _) ?_)
  exact ⟨_, rfl, fx_zero _, ButS.below HBw.out hfin HBw.out.size (fun g e => by omega)⟩
 have hc1 : ¬ cmpI n 0 < 1 := by unfold cmpI; split <;> (try split) <;> omega
 generalize cmpI n 0 = cc at *;by_cases c2 : b < 0
 ·clear hbad
  (have HHD := Lib.hid hHD
   obtain ⟨d0, d1, d2, d3, d4, f0, f1, f2, f3, f4⟩ := heap5' hHD;clear hHD;go_wp2_with fail;have hfin := five_but (w1) (w.heap.size + 1) (.bool false) (.slice none 0 0) (.slice none 0 0) (.slice none 0 0) (.int .i64 0);refine ret_fact2 (B := w.heap.size + 1) (x0 := .bool false) (x1 := .slice none 0 0) (x2 := .slice none 0 0) (x3 := .slice none 0 0) (x4 := .int .i64 0) (y := .int .i64 1) rfl rfl rfl rfl (five_heap HHD.out _ _ _ _ _) ?_)
  exact ⟨_, rfl, fx_zero _, ButS.below HBw.out hfin HBw.out.size (fun g e => by omega)⟩
 have c3 : b > 65536 := by omega
 clear hbad
 (have HHD := Lib.hid hHD
  obtain ⟨d0, d1, d2, d3, d4, f0, f1, f2, f3, f4⟩ := heap5' hHD;clear hHD;go_wp2_with fail;have hfin := five_but (w1) (w.heap.size + 1) (.bool false) (.slice none 0 0) (.slice none 0 0) (.slice none 0 0) (.int .i64 0);refine ret_fact2 (B := w.heap.size + 1) (x0 := .bool false) (x1 := .slice none 0 0) (x2 := .slice none 0 0) (x3 := .slice none 0 0) (x4 := .int .i64 0) (y := .int .i64 1) rfl rfl rfl rfl (five_heap HHD.out _ _ _ _ _) ?_)
 exact ⟨_, rfl, fx_zero _, ButS.below HBw.out hfin HBw.out.size (fun g e => by omega)⟩
theorem divisors_none (va : Value) (f : Fz) (w : World) (ha : Fx w va f) (hR : 0 < f.R.length) :
  Calls Tryz.prog 16 #[va] w fun e w' => e = .returned (.tuple #[.slice none 0 0, .int .i64 6]) /\ Below w.heap.size w w' := by
 obtain ⟨W, s, a, n, c, aP, cP, aR, cR, rfl, hW, bl, hs, hF⟩ := boxF w ha;clear ha;go_enter Tryz.func16, Tryz.ntmps16
 go_upto_region 1 with fail;rw [<- hW];clear hW;obtain ⟨-, -, -, p3, -⟩ := hF.cells;have i0 : (f.R.length : Int) > 0 := by omega
 go_wp2_with fail;refine bodyPost_ret (results_tmp2 rfl _ _ _) rfl ?_;exact ⟨rfl, bl⟩
theorem Md.small {n : Nat} (h : n < 4294967296) : Md n := ⟨small_lt h (show 32 <= expA by decide)⟩
def aE : Fn := ⟨360, [(2, 3)], [(45, 1)], 2⟩
def bE : Fn := ⟨360, [(2, 3), (3, 2), (5, 1)], [], 4⟩
def cE : Fn := ⟨360, [(2, 3), (3, 2), (5, 1)], [], 2⟩
def wE : Fn := ⟨60, [], [(60, 1)], 0⟩
def pE : Fn := ⟨60, [(2, 2)], [(15, 1)], 0⟩
theorem srt_refl {l : List (Nat × Nat)} (h : l.Pairwise (fun a b => a.1 <= b.1)) : Srt l l := ⟨List.Perm.refl _, h⟩
theorem a_trial : TrialTo 360 2 aE := by
 have e : trL (upto 2) 360 = ([(2, 3)], 45) := by decide
 unfold TrialTo;rw [e];exact ⟨rfl, rfl, srt_refl (l := [(2, 3)]) (by decide), srt_refl (l := [(45, 1)]) (by decide)⟩
theorem b_trial : TrialTo 360 4 bE := by
 have e : trL (upto 4) 360 = ([(2, 3), (3, 2)], 5) := by decide
 unfold TrialTo;rw [e];exact ⟨rfl, rfl, srt_refl (l := [(2, 3), (3, 2), (5, 1)]) (by decide), srt_refl (l := []) (by decide)⟩
theorem a_right : RightN aE := (a_trial.right (by decide) (by decide)).1
theorem b_right : RightN bE := (b_trial.right (by decide) (by decide)).1
theorem w_right : RightN wE := ⟨by decide, by decide, ⟨by decide, by decide⟩, ⟨by decide, by decide⟩, by decide, ⟨by decide, by unfold Takes; decide⟩, fun _ _ d h2 h3 => by have h3 : d <= 0 := h3; omega⟩
theorem p_right : RightN pE := ⟨by decide, by decide, ⟨by decide, by decide⟩, ⟨by decide, by decide⟩, by decide, ⟨by decide, by decide, by unfold Takes; decide⟩, fun _ _ d h2 h3 => by have h3 : d <= 0 := h3; omega⟩
theorem cb_a : CB [45, 15] [3, 5] where
 cob := ⟨by decide, by decide⟩
 gen := fun x hx => by
  simp only [List.mem_cons, List.not_mem_nil, or_false] at hx;rcases hx with rfl | rfl
  ·exact ⟨fun p => if p = 3 then 2 else 1, by decide⟩
  ·exact ⟨fun _ => 1, by decide⟩
 cls := fun p hp => by
  have h3 : Cls [45, 15] 3 := Cls.div (x := 45) (y := 15) (.mem (by decide)) (.mem (by decide)) (by decide) (by decide);simp only [List.mem_cons, List.not_mem_nil, or_false] at hp;rcases hp with rfl | rfl
  ·exact h3
  ·exact Cls.div (x := 15) (y := 3) (.mem (by decide)) h3 (by decide) (by decide)
theorem split_a {o : List Nat} (h : CB (ks aE.R ++ [15]) o) : fresh aE o /\ ∀ g, SplitTo aE o g -> g = cE := by
 have h' : CB (ks aE.R ++ [15]) [3, 5] := cb_a;refine ⟨(fresh_perm (h'.perm h)).1 ⟨3, by decide, by decide⟩, fun g hg => ?_⟩;refine SplitTo.uniq (g' := cE) a_right h h' hg ⟨rfl, rfl, ?_, ?_⟩
 ·have e : aE.P ++ pows aE.N ((keep aE [3, 5]).filter (sml aE.B)) = cE.P := by decide
  rw [e]; exact srt_refl (by decide)
 ·have e : pows aE.N ((keep aE [3, 5]).filter (fun x => !sml aE.B x)) = [] := by decide
  rw [e]; exact srt_refl (by decide)
theorem cb_w : CB [60, 15, 2] [15, 2] where
 cob := ⟨by decide, by decide⟩
 gen := fun x hx => by
  simp only [List.mem_cons, List.not_mem_nil, or_false] at hx;rcases hx with rfl | rfl | rfl
  ·exact ⟨fun p => if p = 15 then 1 else 2, by decide⟩
  ·exact ⟨fun p => if p = 15 then 1 else 0, by decide⟩
  ·exact ⟨fun p => if p = 15 then 0 else 1, by decide⟩
 cls := fun p hp => by
  simp only [List.mem_cons, List.not_mem_nil, or_false] at hp;rcases hp with rfl | rfl
  ·exact .mem (by decide)
  ·exact .mem (by decide)
theorem merge_w {o : List Nat} (h : CB (allN wE pE) o) : (∀ p ∈ knownN wE pE, p ∈ o) /\ ∀ c, MergeTo wE pE o c -> c = pE := by
 have h' : CB (allN wE pE) [15, 2] := cb_w;refine ⟨fun p hp => ?_, fun c hc => ?_⟩
 ·have hp : p ∈ [2] := hp;obtain rfl : p = 2 := by simpa using hp
  exact (h'.perm h).mem_iff.1 (by decide)
 ·refine MergeTo.uniq (c' := pE) h h' hc ⟨rfl, by decide, ?_, ?_⟩
  ·have e : pows wE.N ([15, 2].filter (knw wE pE)) = pE.P := by decide
   rw [e]; exact srt_refl (by decide)
  ·have e : pows wE.N ([15, 2].filter (fun x => !knw wE pE x)) = pE.R := by decide
   rw [e]; exact srt_refl (by decide)
structure Fl3 (A : Kn) (C : World -> Nat -> Prop) (j q : Nat) (W0 : World) (b : Nat -> Bool) (x : Nat -> Value) (W : World) : Prop where
 fl : Fl A j W0 b x W
 ct : b q = true -> b j = true /\ ∀ B, x j = .pointer (some ⟨B, 0, none⟩) -> C W B
section
variable {A : Kn} {C : World -> Nat -> Prop} {j q : Nat} {W0 W W' : World} {b : Nat -> Bool} {x : Nat -> Value}
theorem Fl3.start (A : Kn) (C : World -> Nat -> Prop) (j q : Nat) (W0 : World) (x : Nat -> Value) : Fl3 A C j q W0 (fun _ => false) x W0.drew := ⟨Fl.start _ _ _ _, fun h => nomatch h⟩
theorem Fl3.call (h : Fl3 A C j q W0 b x W) (hC : ∀ w w' B, C w B -> Below w.heap.size w w' -> C w' B) {i : Nat} (hij : i ≠ j) (hiq : i ≠ q) {v : Value} {Z : Nat -> Prop} (hR : A.R i v Z W') (hZ : ∀ k, Z k -> W.heap.size <= k /\ k < W'.heap.size) (hb : Below W.heap.size W W') : Fl3 A C j q W0 (fset b i true) (fset x i v) W' := by
 refine ⟨h.fl.call hij hR hZ hb, fun hq => ?_⟩;rw [fset_ne _ _ (Ne.symm hiq)] at hq;rw [fset_ne _ _ (Ne.symm hij), fset_ne _ _ (Ne.symm hij)];obtain ⟨h1, h2⟩ := h.ct hq;exact ⟨h1, fun B hB => hC _ _ _ (h2 B hB) hb⟩
theorem Fl3.var (h : Fl3 A C j q W0 b x W) (hjq : q ≠ j) (hbj : b j = false) (hV : A.V W' W.heap.size) (hb : Below W.heap.size W W') : Fl3 A C j q W0 (fset b j true) (fset x j (.pointer (some ⟨W.heap.size, 0, none⟩))) W' := by
 refine ⟨h.fl.var hV hb, fun hq => ?_⟩;rw [fset_ne _ _ hjq] at hq;obtain ⟨h1, -⟩ := h.ct hq;rw [h1] at hbj
 cases hbj
theorem Fl3.st (h : Fl3 A C j q W0 b x W) (hqj : q ≠ j) {B : Nat} (hB : x j = .pointer (some ⟨B, 0, none⟩)) (hbj : b j = true)
  (hfr : ∀ i' v Z, A.R i' v Z W -> A.R i' v Z W') (hs : W'.heap.size = W.heap.size) (hb : Below W0.heap.size W0 W') (hV : A.V W' B) (hC : C W' B) {v : Value} (hR : A.R q v (fun _ => False) W') : Fl3 A C j q W0 (fset b q true) (fset x q v) W' := by
 refine ⟨h.fl.st hqj hB hbj hfr hs hb hV hR, fun _ => ?_⟩;rw [fset_ne _ _ (Ne.symm hqj), fset_ne _ _ (Ne.symm hqj)];refine ⟨hbj, fun B' hB' => ?_⟩;rw [hB] at hB';injection hB' with e;injection e with e;injection e with e;exact e ▸ hC
end
structure FvT where
 s : Bool
 a : Option Addr
 n : Nat
 c : Nat
 a2 : Option Addr
 n2 : Nat
 c2 : Nat
 a3 : Option Addr
 n3 : Nat
 c3 : Nat
 b : Int
def Fv (w : World) (B : Nat) : Prop := ∃ y : FvT, w.heap[B]? = some (.cells #[.bool y.s, .slice y.a y.n y.c, .slice y.a2 y.n2 y.c2, .slice y.a3 y.n3 y.c3, .int .i64 y.b] 32 (0, 0))
theorem Fv.up {w w' : World} {B : Nat} (h : Fv w B) (hb : Below w.heap.size w w') : Fv w' B := by
 obtain ⟨y, h⟩ := h;exact ⟨y, (hb.block _ (Array.getElem?_eq_some_iff.1 h).1).trans h⟩
theorem Fv.lt {w : World} {B : Nat} (h : Fv w B) : B < w.heap.size := by
 obtain ⟨y, h⟩ := h;exact (Array.getElem?_eq_some_iff.1 h).1
theorem Fv.nw {w : World} {B : Nat} (h : Fv w B) : NoW w B := by
 obtain ⟨y, h⟩ := h;intro o x hx;simp only [World.cell?, h] at hx;rcases o with _ | _ | _ | _ | _ | o <;> simp at hx
theorem Fv.cells {w : World} {B : Nat} (h : Fv w B) : ∃ y : FvT, w.cell? ⟨B, 0, none⟩ = some (.bool y.s) /\ w.cell? ⟨B, 1, none⟩ = some (.slice y.a y.n y.c) /\ w.cell? ⟨B, 2, none⟩ = some (.slice y.a2 y.n2 y.c2) /\ w.cell? ⟨B, 3, none⟩ = some (.slice y.a3 y.n3 y.c3) /\ w.cell? ⟨B, 4, none⟩ = some (.int .i64 y.b) /\
  w.frozen? ⟨B, 0, none⟩ = false /\ w.frozen? ⟨B, 1, none⟩ = false /\ w.frozen? ⟨B, 2, none⟩ = false /\ w.frozen? ⟨B, 3, none⟩ = false /\ w.frozen? ⟨B, 4, none⟩ = false := by
 obtain ⟨y, h⟩ := h;refine ⟨y, ?_, ?_, ?_, ?_, ?_, ?_, ?_, ?_, ?_, ?_⟩ <;> simp [World.cell?, World.frozen?, h]
theorem Fv.new (w : World) : Fv (w.alloc (.cells #[.bool false, .slice none 0 0, .slice none 0 0, .slice none 0 0, .int .i64 0] 32)) w.heap.size :=
 ⟨⟨false, none, 0, 0, none, 0, 0, none, 0, 0, 0⟩, heap_alloc_new _ _⟩
def fput (w : World) (B : Nat) (y : FvT) : World := ((((w.setCell ⟨B, 0, none⟩ (.bool y.s)).setCell ⟨B, 1, none⟩ (.slice y.a y.n y.c)).setCell ⟨B, 2, none⟩ (.slice y.a2 y.n2 y.c2)).setCell ⟨B, 3, none⟩ (.slice y.a3 y.n3 y.c3)).setCell ⟨B, 4, none⟩ (.int .i64 y.b)
theorem fput_but (w : World) (B : Nat) (y : FvT) : ButS (fun k => k = B) w (fput w B y) :=
 ((((ButS.set w B 0 _).trans (ButS.set _ B 1 _)).trans (ButS.set _ B 2 _)).trans (ButS.set _ B 3 _)).trans (ButS.set _ B 4 _)
theorem fput_heap {w : World} {B : Nat} (h : Fv w B) (y : FvT) : (fput w B y).heap[B]? = some (.cells #[.bool y.s, .slice y.a y.n y.c, .slice y.a2 y.n2 y.c2, .slice y.a3 y.n3 y.c3, .int .i64 y.b] 32 (0, 0)) := by
 obtain ⟨z, h⟩ := h;simp [fput, World.setCell, Array.getElem?_modify, h]
theorem Fx.not5 {w : World} {B : Nat} (hB : Fv w B) {v : Value} {l : List (Int × Int)} (h : Sr eP w v l) (hl : l ≠ []) : ∀ g, v.ownBlock = some g -> ¬ g = B := by
 rintro g hg rfl;obtain ⟨a, cap, rfl, h2, h3⟩ := h;rcases h3 with h3 | ⟨b, off, rfl, h4, h5⟩
 ·exact hl h3
 ·obtain rfl : b = g := by simpa [Value.ownBlock] using hg
  obtain ⟨cs, ⟨s, a, n, c, rfl, -⟩, hc⟩ := h5 0 (List.length_pos_iff.2 hl);have c0 := hc 0 _ rfl;have c2 := hc 2 _ rfl;obtain ⟨y, hB⟩ := hB;simp only [World.cell?, hB, Nat.zero_mul, Nat.add_zero] at c0 c2;rcases off with _ | _ | _ | _ | _ | off <;> simp at c0 c2
theorem Fx.shape {w : World} {v : Value} {f : Fz} (h : Fx w v f) : ∃ y : FvT, v = .agg #[.bool y.s, .slice y.a y.n y.c, .slice y.a2 y.n2 y.c2, .slice y.a3 y.n3 y.c3, .int .i64 y.b] /\ Fx w (.agg #[.bool y.s, .slice y.a y.n y.c, .slice y.a2 y.n2 y.c2, .slice y.a3 y.n3 y.c3, .int .i64 y.b]) f := by
 obtain ⟨s, a, n, c, aP, cP, aR, cR, rfl, -⟩ := h.box;exact ⟨⟨s, a, n, c, aP, f.P.length, cP, aR, f.R.length, cR, f.B⟩, rfl, h⟩
theorem Fx.fr {S : Nat -> Prop} {w w' : World} (hb : ButS S w w') (hS : ∀ g, S g -> NoW w g) {B : Nat} (hB : Fv w B) (hSB : ∀ g, S g -> g = B) {v : Value} {f : Fz} (h : Fx w v f) : Fx w' v f := by
 obtain ⟨s, a, n, c, vP, vR, rfl, h1, h2, h3⟩ := h;exact ⟨s, a, n, c, vP, vR, rfl, h1.fr hb hS, h2.fr hb hS (fun hl g hg hs => Fx.not5 hB h2 hl g hg (hSB g hs)), h3.fr hb hS (fun hl g hg hs => Fx.not5 hB h3 hl g hg (hSB g hs))⟩
def Bf (w : World) (B : Nat) (f : Fz) : Prop := ∃ s a n c aP cP aR cR, Fb w B s a n c aP cP aR cR f
theorem Bf.up {w w' : World} {B : Nat} {f : Fz} (h : Bf w B f) (hb : Below w.heap.size w w') : Bf w' B f := by
 obtain ⟨s, a, n, c, aP, cP, aR, cR, h⟩ := h;exact ⟨s, a, n, c, aP, cP, aR, cR, h.up hb⟩
theorem Bf.lt {w : World} {B : Nat} {f : Fz} (h : Bf w B f) : B < w.heap.size := by
 obtain ⟨s, a, n, c, aP, cP, aR, cR, h⟩ := h;exact h.lt
theorem Bf.new {w : World} {y : FvT} {f : Fz} (h : Fx w (.agg #[.bool y.s, .slice y.a y.n y.c, .slice y.a2 y.n2 y.c2, .slice y.a3 y.n3 y.c3, .int .i64 y.b]) f) :
  Bf (w.alloc (.cells #[.bool y.s, .slice y.a y.n y.c, .slice y.a2 y.n2 y.c2, .slice y.a3 y.n3 y.c3, .int .i64 y.b] 32)) w.heap.size f := by
 obtain ⟨s, a, n, c, aP, cP, aR, cR, e, hb⟩ := h.box;refine ⟨s, a, n, c, aP, cP, aR, cR, hb _ (below_new _ _) _ ?_⟩;rw [heap_alloc_new];injection e with e;rw [e]
theorem Bf.put {w : World} {B : Nat} (hB : Fv w B) {y : FvT} {f : Fz} (h : Fx w (.agg #[.bool y.s, .slice y.a y.n y.c, .slice y.a2 y.n2 y.c2, .slice y.a3 y.n3 y.c3, .int .i64 y.b]) f) : Bf (fput w B y) B f := by
 have h' := h.fr (fput_but w B y) (fun g e => e ▸ hB.nw) hB (fun g e => e);obtain ⟨s, a, n, c, aP, cP, aR, cR, e, hb⟩ := h'.box;refine ⟨s, a, n, c, aP, cP, aR, cR, hb _ (Below.refl _ _) _ ?_⟩;rw [fput_heap hB];injection e with e;rw [e]
theorem Bf.cells {w : World} {B : Nat} {f : Fz} (h : Bf w B f) : ∃ y : FvT, (w.cell? ⟨B, 0, none⟩ = some (.bool y.s) /\ w.cell? ⟨B, 1, none⟩ = some (.slice y.a y.n y.c) /\ w.cell? ⟨B, 2, none⟩ = some (.slice y.a2 y.n2 y.c2) /\ w.cell? ⟨B, 3, none⟩ = some (.slice y.a3 y.n3 y.c3) /\ w.cell? ⟨B, 4, none⟩ = some (.int .i64 y.b)) /\
  Fx w (.agg #[.bool y.s, .slice y.a y.n y.c, .slice y.a2 y.n2 y.c2, .slice y.a3 y.n3 y.c3, .int .i64 y.b]) f /\ It w (.agg #[.bool y.s, .slice y.a y.n y.c]) f.N /\ Sr eP w (.slice y.a2 y.n2 y.c2) f.P /\ Sr eP w (.slice y.a3 y.n3 y.c3) f.R /\ y.n2 = f.P.length /\ y.n3 = f.R.length /\ y.b = f.B := by
 obtain ⟨s, a, n, c, aP, cP, aR, cR, h⟩ := h;exact ⟨⟨s, a, n, c, aP, f.P.length, cP, aR, f.R.length, cR, f.B⟩, h.cells, h.fx, h.hN, h.hP, h.hR, rfl, rfl, rfl⟩
end Go.Proofs.YtblebpmlkpobnaaGreatDoor
