/-
  The reference of factor: Split.
-/
import Derived.Test.YtblebpmlkpobnaaGreatFZZA
import Derived.Test.YtblebpmlkpobnaaGreatFZV
import Derived.Test.YtblebpmlkpobnaaGreatFZW
import Derived.Test.YtblebpmlkpobnaaGreatFQ1
import Derived.Test.YtblebpmlkpobnaaGreatFS
import Derived.Test.YtblebpmlkpobnaaGreatFZL
set_option linter.unusedSimpArgs false
set_option linter.unusedVariables false
set_option maxRecDepth 100000
set_option maxHeartbeats 8000000
namespace Go.Proofs.YtblebpmlkpobnaaGreat
open Go.RowKit
attribute [local go_sem ↓] Go.wp_at_zero Go.wp_at_succ
theorem rsplit_bad (va vd : Value) (f : Fz) (d : Int) (w : World) (ha : Fx w va f) (hd : It w vd d) (h1 : d < 1) :
  Calls Tryz.prog 45 #[va, vd] w fun e w' => ∃ v, e = .returned (.tuple #[v, .int .i64 1]) /\ Fx w' v f0 /\ Below w.heap.size w w' := by
 obtain ⟨W1, s, a, n, c, aP, cP, aR, cR, rfl, hW1, b1, hs1, hF⟩ := boxF w ha;obtain ⟨W2, sd, ad, nd, cd, rfl, hW2, b2, hVd, hs2, -, -, hxd⟩ := box1 W1 (hd.up b1);clear ha hd;go_enter Tryz.func45, Tryz.ntmps45
 go_upto_region 1 with fail;rw [<- hW1];rw [show (W1.alloc (.cells #[.bool sd, .slice ad nd cd] 33)) = W2 from hW2.symm];rw [hs1] at hVd hs2;have hD := heap_alloc_new W2 (.cells #[.bool false, .slice none 0 0, .slice none 0 0, .slice none 0 0, .int .i64 0] 36);rw [hs2] at hD;have hVd3 := hVd.alloc (.cells #[.bool false, .slice none 0 0, .slice none 0 0, .slice none 0 0, .int .i64 0] 36);have hbl := Bl.alloc (Bl.up b1 b2) (.cells #[.bool false, .slice none 0 0, .slice none 0 0, .slice none 0 0, .int .i64 0] 36);clear hW1 hW2 hs1 hs2 b1 b2 hF hVd hxd;generalize W2.alloc (.cells #[.bool false, .slice none 0 0, .slice none 0 0, .slice none 0 0, .int .i64 0] 36) = W at *;obtain ⟨e1, e2, e3, e4, g0, g1, -, -, ixd⟩ := hVd3.cells;have hc1 : cmpI d 0 < 1 := by unfold cmpI; split <;> (try split) <;> omega
 go_wp2_with fail;refine (rsign_any _ d W ixd).mono ?_;rintro e w1 ⟨rfl, hb1⟩;generalize cmpI d 0 = cc at *;have hHD := (hb1.block (w.heap.size + 1 + 1) (Array.getElem?_eq_some_iff.1 hD).1).trans hD;have hBw := Bl.up hbl hb1;clear g0 g1 ixd hVd3 hD hbl hb1
 (have HHD := Lib.hid hHD
  obtain ⟨d0, d1, d2, d3, d4, f0, f1, f2, f3, f4⟩ := heap5' hHD;clear hHD;go_wp2_with fail;have hfin := five_but (w1) (w.heap.size + 1 + 1) (.bool false) (.slice none 0 0) (.slice none 0 0) (.slice none 0 0) (.int .i64 0);refine ret_fact2 (B := w.heap.size + 1 + 1) (x0 := .bool false) (x1 := .slice none 0 0) (x2 := .slice none 0 0) (x3 := .slice none 0 0) (x4 := .int .i64 0) (y := .int .i64 1) rfl rfl rfl rfl (five_heap HHD.out _ _ _ _ _) ?_)
 exact ⟨_, rfl, fx_zero _, ButS.below hBw hfin hBw.size (fun g e => by omega)⟩
theorem Sr.not_zero {w : World} {v : Value} {l : List Nat} {D T : Nat} {fr : Nat × Nat} (h : Sr eI w v (zI l)) (h2 : ∀ x ∈ l, 2 <= x) (hD : w.heap[D]? = some (.cells #[.bool false, .slice none 0 0, .slice none 0 0, .slice none 0 0, .int .i64 0] T fr)) (hl : l ≠ []) : v.ownBlock ≠ some D := by
 obtain ⟨a, c, rfl, -, hl'⟩ := h;have h0 : 0 < l.length := List.length_pos_iff.2 hl;have hz : 0 < (zI l).length := by rw [zI_len]; exact h0
 rcases hl' with e | ⟨b, off, rfl, -, hs⟩
 ·rw [e] at hz; exact absurd hz (Nat.lt_irrefl 0)
 ·intro e;have e : b = D := by simpa [Value.ownBlock] using e
  subst e;obtain ⟨s1, a1, n1, k1, p0, p1, hx⟩ := hs.int hz;rw [Nat.zero_mul, Nat.add_zero] at p0 p1;simp only [World.cell?, hD] at p0 p1;rcases off with _ | _ | _ | _ | _ | off <;> simp at p0 p1
  obtain ⟨-, -, e1, -⟩ := And.intro p0 p1;obtain ⟨a2, c2, f2, e3, -⟩ := hx.parts;injection e3 with e3;simp only [Array.mk.injEq, List.cons.injEq, Value.slice.injEq] at e3;have hs0 : sz ((zI l).getD 0 0) = 0 := by rw [<- e3.2.1.2.1, <- e1]
  have := sz_zero.1 hs0;rw [zI_getD] at this;have hm : l.getD 0 0 ∈ l := by rw [List.getD_eq_getElem?_getD, List.getElem?_eq_getElem h0]; exact List.getElem_mem _
  have := h2 _ hm;omega
structure SpW (W wr : World) (B : Nat) (s : Bool) (a : Option Addr) (n c : Nat) (aP : Option Addr) (nP cP : Nat) (aR : Option Addr) (nR cR : Nat) (R : List (Int × Int)) (b : Nat) (vO : Value) (o : List Int) : Prop where
 hb : wr.heap[B]? = some (.cells #[.bool s, .slice a n c, .slice aP nP cP, .slice aR nR cR, .int .i64 (b : Int)] 36 (0, 0))
 hR : So eP wr W.heap.size (.slice aR nR cR) R
 hn : (Value.slice aR nR cR).ownBlock ≠ some B
 lB : W.heap.size <= B
 hW : Below W.heap.size W wr
 hO : Sr eI wr vO o
 oB : o ≠ [] -> vO.ownBlock ≠ some B
 oR : o ≠ [] -> ∀ g, vO.ownBlock = some g -> (Value.slice aR nR cR).ownBlock ≠ some g
section
variable {W wr w' : World} {B : Nat} {s : Bool} {a : Option Addr} {n c : Nat} {aP : Option Addr} {nP cP : Nat} {aR : Option Addr} {nR cR : Nat} {R : List (Int × Int)} {b : Nat} {vO : Value} {o : List Int}
theorem SpW.up (h : SpW W wr B s a n c aP nP cP aR nR cR R b vO o) (hb : Below wr.heap.size wr w') : SpW W w' B s a n c aP nP cP aR nR cR R b vO o :=
 ⟨(hb.block _ (Array.getElem?_eq_some_iff.1 h.hb).1).trans h.hb, h.hR.up hb, h.hn, h.lB, Bl.up h.hW hb, h.hO.up hb, h.oB, h.oR⟩
theorem SpW.add {R' : List (Int × Int)} {g m k : Nat} (h : SpW W wr B s a n c aP nP cP aR nR cR R b vO o) (h1 : So eP w' W.heap.size (.slice (some ⟨g, 0, none⟩) m k) R') (hb : ButS (fun k => (Value.slice aR nR cR).ownBlock = some k) wr w')
  (hg : (Value.slice aR nR cR).ownBlock = some g \/ g = wr.heap.size) : SpW W (w'.setCell ⟨B, 3, none⟩ (.slice (some ⟨g, 0, none⟩) m k)) B s a n c aP nP cP (some ⟨g, 0, none⟩) m k R' b vO o := by
 have hlt := (Array.getElem?_eq_some_iff.1 h.hb).1;have hB := (hb.block B hlt h.hn).trans h.hb;have hbs := ButS.set w' B 3 (.slice (some ⟨g, 0, none⟩) m k)
 have hne : g ≠ B := fun e => by
  rw [e] at hg;rcases hg with h' | h'
  ·exact h.hn h'
  ·omega
 have hl := h.lB;have hq : ∀ {k'}, (Value.slice (some ⟨g, 0, none⟩) m k).ownBlock = some k' -> g = k' := fun e => by simpa [Value.ownBlock] using e
 refine ⟨by simp [World.setCell, Array.getElem?_modify, hB], h1.fr hbs (five_nw hB) (fun k hk e => hne ((hq hk).trans e)), fun e => hne (hq e), h.lB, ?_, (h.hO.fr hb h.hR.nw h.oR).fr hbs (five_nw hB) (fun he k hk e => h.oB he (by rw [hk, e])), h.oB, fun he k hk e => ?_⟩
 ·exact ButS.below (ButS.below h.hW hb h.hW.size (fun g hg => (h.hR.lt g hg).1)) hbs (Nat.le_trans h.hW.size hb.size) (fun g e => by omega)
 ·rw [<- hq e] at hk;rcases hg with h' | h'
  ·exact h.oR he g hk h'
  ·have := h.hO.lt he g hk; omega
end
def kvS (f : Fn) (d : Nat) : Kv where
 R := fun i v w => (i = 1 \/ i = 10) -> ∃ o, Sr eI w v (zI o) /\ CB (ks f.R ++ [d]) o /\ o.length <= 1048576 /\ ∀ p ∈ o, sz (p : Int) <= 1099511627776
 V := fun _ w B => w.heap[B]? = some (.cells #[.bool false, .slice none 0 0, .slice none 0 0, .slice none 0 0, .int .i64 0] 36 (0, 0))
 js := fun i => decide (i = 9)
 up := fun h hb e => by obtain ⟨o, h1, h2⟩ := h e; exact ⟨o, h1.up hb, h2⟩
 vup := fun h hb => (hb.block _ (Array.getElem?_eq_some_iff.1 h).1).trans h
 vlt := fun h => (Array.getElem?_eq_some_iff.1 h).1
theorem spF_zero {f : Fn} {o : List Nat} : spF f o 0 = false := by
 rw [Bool.eq_false_iff, ne_eq, spF_iff, kpI_zero];rintro ⟨x, hx, -⟩; cases hx
def anyD (x : Nat) (l : List Nat) : Bool := l.any fun r => decide (x ∣ r)
theorem anyD_iff {x : Nat} {l : List Nat} : anyD x l = true ↔ ∃ r ∈ l, x ∣ r := by simp [anyD]
theorem anyD_snoc {x k : Nat} {l : List Nat} (h : k < l.length) : anyD x (l.take (k + 1)) = (anyD x (l.take k) || decide (x ∣ l.getD k 0)) := by
 unfold anyD;rw [List.take_succ_eq_append_getElem h, List.any_append, List.getD_eq_getElem?_getD, List.getElem?_eq_getElem h];simp
theorem rsplit_ok (va vd : Value) (f : Fn) (d : Nat) (w : World) (ha : Fx w va (zF f)) (hd : It w vd d) (hf : RightN f) (hm : Md f.N) (h1 : 1 <= d) (hmd : Md d) :
  Calls Tryz.prog 45 #[va, vd] w fun e w' => ∃ o, CB (ks f.R ++ [d]) o /\ Below w.heap.size w w' /\
   ((fresh f o /\ ∃ v g, e = .returned (.tuple #[v, .int .i64 0]) /\ Fx w' v (zF g) /\ SplitTo f o g) \/ (¬ fresh f o /\ ∃ v, e = .returned (.tuple #[v, .int .i64 6]) /\ Fx w' v f0)) := by
 obtain ⟨W1, s, a, n, c, aP, cP, aR, cR, rfl, hW1, b1, hs1, hF⟩ := boxN w ha;obtain ⟨W2, sd, ad, nd, cd, rfl, hW2, b2, -, hs2, q0, q1, hxd⟩ := box1 W1 (hd.up b1);clear ha hd;go_enter Tryz.func45, Tryz.ntmps45
 go_upto_region 1 with fail;rw [<- hW1];rw [show (W1.alloc (.cells #[.bool sd, .slice ad nd cd] 33)) = W2 from hW2.symm];rw [hs1] at q0 q1 hs2;have hD := heap_alloc_new W2 (.cells #[.bool false, .slice none 0 0, .slice none 0 0, .slice none 0 0, .int .i64 0] 36);rw [hs2] at hD;have hF3 := (hF.up b2).alloc (.cells #[.bool false, .slice none 0 0, .slice none 0 0, .slice none 0 0, .int .i64 0] 36);have hx := hxd.alloc (.cells #[.bool false, .slice none 0 0, .slice none 0 0, .slice none 0 0, .int .i64 0] 36);replace q0 := cellN q0 (.cells #[.bool false, .slice none 0 0, .slice none 0 0, .slice none 0 0, .int .i64 0] 36);replace q1 := cellN q1 (.cells #[.bool false, .slice none 0 0, .slice none 0 0, .slice none 0 0, .int .i64 0] 36);have hbl := Bl.alloc (Bl.up b1 b2) (.cells #[.bool false, .slice none 0 0, .slice none 0 0, .slice none 0 0, .int .i64 0] 36);clear hW1 hW2 hs1 hs2 b1 b2 hF hxd;generalize W2.alloc (.cells #[.bool false, .slice none 0 0, .slice none 0 0, .slice none 0 0, .int .i64 0] 36) = W at *;have hLen := hf.len hm;have hszd : sz (d : Int) <= 1099511627776 := Nat.le_trans (hmd.sz (Nat.le_refl _)) (by decide);have hszN : sz (f.N : Int) <= 1099511627776 := Nat.le_trans (hm.sz (Nat.le_refl _)) (by decide);have hszR : ∀ x ∈ ks f.R, sz (x : Int) <= 1099511627776 := fun x hx => Nat.le_trans (hf.szk hm (by rw [ks_append]; exact List.mem_append_right _ hx)) (by decide)
 have hPM : Mdst (ks f.R ++ [d]).prod := by
  rw [List.prod_append_nat];exact (Md.prod (hm.mono hf.rprod) (hmd.mono (by simp)))
 have hPR : Mdst (ks f.R).prod := hPM.mono (by
  rw [List.prod_append_nat];exact Nat.le_mul_of_pos_right _ (by simp; omega))
 have hR2 := fun x hx => hf.incR.big (x := x) hx;have hn1 := hf.n1;have hfb := hf.b;have HSD := Lib.hid hszd;have HSN := Lib.hid hszN;have HSR := Lib.hid hszR;have HPM := Lib.hid hPM;have HPR := Lib.hid hPR;have HR2 := Lib.hid hR2;have HF := Lib.hid hF3;have HD := Lib.hid hD;have HBL := Lib.hid hbl;have HSP := Lib.hid (hf.szP hm).2;clear hszd hszN hszR hPM hPR hR2 hF3 hD hbl hf hm hmd;obtain ⟨p0, p1, p2, p3, p4, hN1, hP1, hR1⟩ := HF.out.cellsN;have HN1 := Lib.hid hN1;have HP1 := Lib.hid hP1;have HR1 := Lib.hid hR1;have HX := Lib.hid hx;clear hN1 hP1 hR1 hx;go_wp2_with fail;refine (rsign_any _ d W HX.out).mono ?_;rintro e w1 ⟨rfl, hb1⟩;have hc0 : cmpI (d : Int) 0 = 1 := by unfold cmpI; rw [if_neg (by omega), if_pos (by omega)]
 rw [hc0];have p3' := keepc hb1 p3;have HB1 := Lib.hid hb1;have hrl : (zP f.R).length <= 549755813888 := by rw [zP_len]; omega
 clear hc0 hb1;go_wp2_with fail;refine (rnumbers_any _ (zP f.R) w1 (HR1.out.up HB1.out) hrl).mono ?_;rintro e w2 ⟨v6, rfl, hv6, hb2⟩;rw [zP_fst] at hv6;replace hv6 := hv6.base HB1.out.size;replace HB1 := Lib.hid (Bl.up HB1.out hb2);clear hb2 p3';replace q0 := keepc HB1.out q0;replace q1 := keepc HB1.out q1;have HV6 := Lib.hid hv6;clear hv6;go_upto_region 4 with fail;refine wp_region_T (by kernel_rfl) [] (S := fun w' => w'.cell? ⟨w.heap.size + 1, 0, none⟩ = some (.bool sd) /\ w'.cell? ⟨w.heap.size + 1, 1, none⟩ = some (.slice ad nd cd)) ⟨q0, q1⟩ (fun hHeld => ?_);refine kL 0 rfl ?_;(refine oL 1 rfl fun K hK => tL ?_; go_simp);refine (rone_any _).mono ?_;rintro e w4 ⟨v4, rfl, hv4, hb4⟩;have hbT := Bl.up (Bl.drew (Below.refl w2.heap.size w2)) hb4;replace q0 := keepc hbT q0;replace q1 := keepc hbT q1;(go_wp2_with fail; clear hHeld; refine nxL hK ⟨q0, q1⟩ fun hHeld => tL ?_; clear hK);(refine oL 2 rfl fun K hK => tL ?_; go_simp);refine (rcmp_any _ _ (d : Int) 1 w4 (HX.out.up (Bl.up HB1.out hbT)) hv4 (Nat.le_trans HSD.out (by decide)) (by decide)).mono ?_;rintro e w5 ⟨rfl, hb5⟩;replace hbT := Bl.up hbT hb5;replace q0 := keepc hb5 q0;replace q1 := keepc hb5 q1;clear hb4 hb5 hv4;(go_wp2_with fail; clear hHeld; refine nxL hK ⟨q0, q1⟩ fun hHeld => tL ?_; clear hK);refine pL 3 rfl ?_;refine dT ?_;clear hHeld;replace HB1 := Lib.hid (Bl.up HB1.out hbT);replace HV6 := Lib.hid (HV6.out.up hbT);clear hbT;by_cases hd1 : 1 < d
 case' pos =>
  have hcc : cmpI (d : Int) 1 > 0 := cmp_pos.2 hd1;generalize cmpI (d : Int) 1 = cc at *;have hbP := below_new w5 (.cells #[.bool sd, .slice ad nd cd] 33);have hsc : Sc eI (w5.alloc (.cells #[.bool sd, .slice ad nd cd] 33)) w5.heap.size 0 [(d : Int)] := Sc.one (E := eI) (cs := [.bool sd, .slice ad nd cd]) (heap_alloc_new w5 _) ⟨_, _, _, _, rfl, HX.out.up (Bl.up HB1.out hbP)⟩;have hS5 := HV6.out.up hbP;have hB5 := Bl.up HB1.out hbP;have hl1 : (zI (ks f.R)).length + 1 <= 1099511627776 := by rw [zI_len, ks_len]; omega
  go_wp2_with (at_builtin; go_must (refine wpl_apS (E := eI) rfl (.tmp 26) (.tmp 28) _ rfl Tryz.underlying63 W.heap.size _ (zI (ks f.R)) [(d : Int)] rfl hS5 hB5.size _ 0 1 1 rfl rfl hsc (by decide) hl1 ?_); intro g' cap' w6 hS' hb' hg')
  have hB6 := ButS.below hB5 hb' hB5.size (fun g hg => (hS5.lt g hg).1);obtain ⟨L, hL⟩ : ∃ L, L = ks f.R ++ [d] := ⟨_, rfl⟩;have HL := Lib.hid (show Sr eI w6 _ (zI L) by rw [hL, zI_append]; exact hS'.sr)
  have HL2 := Lib.hid (show ∀ x ∈ L, 2 <= x from fun x hx => by
   rw [hL] at hx;rcases List.mem_append.1 hx with h | h
   ·exact HR2.out x h
   ·rw [List.mem_singleton.1 h]; omega)
  have HPL := Lib.hid (show Mdst L.prod by rw [hL]; exact HPM.out);have HCL := Lib.hid (show ∀ o, CB L o -> CB (ks f.R ++ [d]) o from fun o h => by rw [hL] at h; exact h);replace HB1 := Lib.hid hB6;clear hbP hsc hS5 hB5 hl1 hS' hb' hg' hB6 hL hcc q0 q1 HV6;go_upto_region 6 with fail;generalize w6 = wB at *
 case' neg =>
  have hcc : ¬ cmpI (d : Int) 1 > 0 := fun h => hd1 (cmp_pos.1 h);generalize cmpI (d : Int) 1 = cc at *;obtain ⟨L, hL⟩ : ∃ L, L = ks f.R := ⟨_, rfl⟩;have HL := Lib.hid (show Sr eI w5 _ (zI L) by rw [hL]; exact HV6.out.sr);have HL2 := Lib.hid (show ∀ x ∈ L, 2 <= x from fun x hx => HR2.out x (hL ▸ hx));have HPL := Lib.hid (show Mdst L.prod by rw [hL]; exact HPR.out)
  have HCL := Lib.hid (show ∀ o, CB L o -> CB (ks f.R ++ [d]) o from fun o h => by
   have : d = 1 := by omega
   rw [hL] at h;rw [this]; exact h.ones)
  clear hL HV6;go_upto_region 6 with fail;clear q0 q1 hcc;generalize w5 = wB at *
 all_goals
  have hW2 := (Bl.up HBL.out HB1.out);have HBW := Lib.hid hW2;clear hW2;have r0 := keepc HB1.out p0;have r1 := keepc HB1.out p1;have r2 := keepc HB1.out p2;have r4 := keepc HB1.out p4;have HDD := Lib.hid ((HB1.out.block _ (Array.getElem?_eq_some_iff.1 HD.out).1).trans HD.out);refine wp_region_T (by kernel_rfl) [] (S := fun w' => w'.cell? ⟨w.heap.size, 0, none⟩ = some (.bool s) /\ w'.cell? ⟨w.heap.size, 1, none⟩ = some (.slice a n c) /\ w'.cell? ⟨w.heap.size, 2, none⟩ = some (.slice aP f.P.length cP) /\ w'.cell? ⟨w.heap.size, 4, none⟩ = some (.int .i64 (f.B : Int))) ⟨r0, r1, r2, r4⟩ (fun hHeld => ?_);(refine pL 0 rfl ?_; refine pL 2 rfl ?_)
  refine kL 3 rfl ?_;refine pL 4 rfl ?_;refine kL 5 rfl ?_;refine pL 6 rfl ?_;refine kL 7 rfl ?_;refine pL 8 rfl ?_;clear hHeld
  refine wpAnyT_all [(1, some 31), (9, some 8), (10, some 7)] 2 (FlV (kvS f d) wB) rfl (by kernel_rfl) (by decide) (by kernel_rfl) (by kernel_rfl) (by kernel_rfl)
   (fun bb x wz h => ⟨keepc h.bl r0, keepc h.bl r1, keepc h.bl r2, keepc h.bl r4⟩) (fun x => FlV.start _ _ _) ?_ ?_
  ·intro i hi;have hi' : i = 1 \/ i = 9 \/ i = 10 := by simpa using hi
   clear hi;rcases hi' with rfl | rfl | rfl
   ·refine ⟨_, rfl, fun bb xx wz hJ hbf hw K hK => ?_⟩;clear hbf hw;simp only [actA] at hK |-;go_simp;refine (rbase_any _ L wz (HL.out.up hJ.bl) HL2.out HPL.out).mono ?_;rintro e w8 ⟨vO, o, rfl, hO, hcb, hol, hop, hb⟩;exact hK.out _ _ (hJ.call (i := 1) rfl (fun _ => ⟨o, hO, HCL.out o hcb, hol, fun p hp => sz_prod (hop p hp) HPL.out⟩) hb)
   ·refine ⟨_, rfl, fun bb xx wz hJ hbf hw K hK => ?_⟩;clear hbf hw;simp only [actA] at hK |-;go_simp;exact hK.out _ _ (hJ.var (i := 9) rfl (heap_alloc_new wz _) (below_new _ _))
   ·refine ⟨_, rfl, fun bb xx wz hJ hbf hw K hK => ?_⟩;have h1' := hJ.pr 1 rfl (hw 1 (by kernel_rfl)) (.inl rfl);clear hbf hw;simp only [actA] at hK |-;go_simp;exact hK.out _ _ (hJ.call (i := 10) rfl (fun _ => h1') (Below.refl _ _))
  intro bz xx wz hbb hJ;obtain ⟨o, hO, hcb, hol, hos⟩ := hJ.pr 10 rfl (hbb 10 (by decide)) (.inr rfl);obtain ⟨B8, hx9, hB8, hV8⟩ := hJ.pj 9 rfl (hbb 9 (by decide));have hV8 : wz.heap[B8]? = some (.cells #[.bool false, .slice none 0 0, .slice none 0 0, .slice none 0 0, .int .i64 0] 36 (0, 0)) := hV8;have hbz := hJ.bl;clear hbb hJ;obtain ⟨u1, hu1⟩ : ∃ u1, u1 = xx 1 := ⟨_, rfl⟩;obtain ⟨vO, hvO⟩ : ∃ vO, vO = xx 10 := ⟨_, rfl⟩;rw [<- hvO] at hO;simp only [actM, hx9, <- hu1, <- hvO];clear hx9 hu1 hvO;replace r0 := keepc hbz r0;replace r1 := keepc hbz r1;replace r2 := keepc hbz r2;replace r4 := keepc hbz r4;have hHeld : (fun w' : World => w'.cell? ⟨w.heap.size, 0, none⟩ = some (.bool s) /\ w'.cell? ⟨w.heap.size, 1, none⟩ = some (.slice a n c) /\ w'.cell? ⟨w.heap.size, 2, none⟩ = some (.slice aP f.P.length cP) /\ w'.cell? ⟨w.heap.size, 4, none⟩ = some (.int .i64 (f.B : Int))) wz := ⟨r0, r1, r2, r4⟩;have hb5 := five_but wz B8 (.bool s) (.slice a n c) (.slice aP f.P.length cP) (.slice none 0 0) (.int .i64 (f.B : Int));have hnw := five_nw hV8;have hsz := HB1.out.size;have h2O : ∀ x ∈ o, 2 <= x := hcb.cob.1;have hoz : zI o ≠ [] -> vO.ownBlock ≠ some B8 := fun he => hO.not_zero h2O hV8 (fun e => he (by rw [e]; rfl))
  have hsw : SpW W (((((wz.setCell ⟨B8, 0, none⟩ (.bool s)).setCell ⟨B8, 1, none⟩ (.slice a n c)).setCell ⟨B8, 2, none⟩ (.slice aP f.P.length cP)).setCell ⟨B8, 3, none⟩ (.slice none 0 0)).setCell ⟨B8, 4, none⟩ (.int .i64 (f.B : Int))) B8 s a n c aP f.P.length cP none 0 0 [] f.B vO (zI o) :=
   ⟨five_heap hV8 _ _ _ _ _, So.nil eP _ _, by simp [Value.ownBlock], by omega, ButS.below (Bl.up HB1.out hbz) hb5 (Bl.up HB1.out hbz).size (fun g e => by omega), hO.fr hb5 hnw (fun he g hg e => hoz he (by rw [hg, e])), hoz, fun _ g _ e => by simp [Value.ownBlock] at e⟩
  have HSW := Lib.hid hsw;have HCB := Lib.hid hcb;have HOS := Lib.hid hos;have HO2 := Lib.hid h2O;have q0' := cell_fr hb5 (cell_lt r0) (by have := cell_lt p0; omega) r0;have q1' := cell_fr hb5 (cell_lt r1) (by have := cell_lt p0; omega) r1;have q2' := cell_fr hb5 (cell_lt r2) (by have := cell_lt p0; omega) r2;have q4' := cell_fr hb5 (cell_lt r4) (by have := cell_lt p0; omega) r4;obtain ⟨d0, d1, d2, d3, d4, f0, f1, f2, f3, f4⟩ := heap5' hV8;clear hV8 hb5 hnw hsw hcb hos h2O hoz hO hbz HL HL2 HPL HCL hsz;(refine oL 11 rfl fun K hK => tL ?_; go_simp);(go_wp2_with fail; clear hHeld; refine nxL hK ⟨q0', q1', q2', q4'⟩ fun hHeld => tL ?_; clear hK);refine pL 12 rfl ?_;refine dT ?_;clear d0 d1 d2 d3 d4 f0 f1 f2 f3 f4 r0 r1 r2 r4 q0' q1' q2' q4' hHeld HBW HDD HB1;generalize (((((wz.setCell ⟨B8, 0, none⟩ (.bool s)).setCell ⟨B8, 1, none⟩ (.slice a n c)).setCell ⟨B8, 2, none⟩ (.slice aP f.P.length cP)).setCell ⟨B8, 3, none⟩ (.slice none 0 0)).setCell ⟨B8, 4, none⟩ (.int .i64 (f.B : Int))) = w7 at *;obtain ⟨aO, cO, rfl, -⟩ := id HSW.out.hO;obtain ⟨nO, hnO⟩ : ∃ nO, (zI o).length = nO := ⟨_, rfl⟩;have hOl : o.length = nO := by rw [<- zI_len]; exact hnO
  rw [hnO] at HSW |-;rw [hOl] at hol;have HNO := Lib.hid hnO;have HOL := Lib.hid hOl;clear hnO hOl p0 p1 p2 p3 p4;go_wp2_with fail
  go_loopw [9, 10, 11, 12, 13, 14] (fun s9 s10 s11 s12 s13 s14 wr => ∃ (i : Nat) (aV : Option Addr) (nV cV : Nat), s10 = .int .i64 (i : Int) /\ i <= nO /\ s9 = .bool (spF f o i) /\ SpW W wr B8 s a n c aP f.P.length cP aV nV cV (zP (pows f.N (kpI f o i))) f.B (.slice aO nO cO) (zI o))
   (fun _ s10 _ _ _ _ _ => nO - (intOf s10).toNat)
  case atStart => exact ⟨0, none, 0, 0, rfl, Nat.zero_le _, by rw [spF_zero], HSW.out⟩
  case round =>
   clear HSW;obtain ⟨i, aV, nV, cV, rfl, hi, rfl, hS⟩ := hrel;have HS := Lib.hid hS;clear hS;by_cases hlt : i < nO
   ·have i0 : (0 : Int) <= (i : Int) := by omega
    have i1 : (i : Int) < (nO : Int) := by omega
    have hil : i < o.length := by rw [HOL.out]; exact hlt
    obtain ⟨bo, offo, rfl, hbo, hla⟩ := HS.out.hO.at (i := i) (by rw [HNO.out]; exact hlt);obtain ⟨t1, b1, m1, d1, x0, x1, hx⟩ := hla.int (i := i) (by rw [HNO.out]; exact hlt);rw [zI_getD] at hx;have hmem : o.getD i 0 ∈ o := by rw [List.getD_eq_getElem?_getD, List.getElem?_eq_getElem hil]; exact List.getElem_mem _
    have hsx := HOS.out _ hmem;have h2x := HO2.out _ hmem;have hyes := kpI_yes (f := f) (o := o) hil;have hno := kpI_no (f := f) (o := o) hil;have hspn := sp_no (f := f) (o := o) hil;have hspf := sp_flag (f := f) (o := o) hil;obtain ⟨xp, hxe⟩ : ∃ xp, o.getD i 0 = xp := ⟨_, rfl⟩;rw [hxe] at hx hsx h2x hyes hno hspn hspf;have HX := Lib.hid hx;have HSX := Lib.hid hsx;have H2X := Lib.hid h2x;have HYES := Lib.hid hyes;have HNO2 := Lib.hid hno;have HSPN := Lib.hid hspn;have HSPF := Lib.hid hspf;have HPX := Lib.hid (And.intro x0 x1);have HXE := Lib.hid hxe;have HLT := Lib.hid hlt;have HKL := Lib.hid (kp_len f o i);clear hla hx hmem hsx h2x hyes hno hspn hspf hil hxe hbo hlt hi x0 x1;obtain ⟨fr, hfr⟩ : ∃ fr, spF f o i = fr := ⟨_, rfl⟩;rw [hfr] at HSPN HSPF |-;clear hfr;generalize wr = wQ at *;go_wp2_with fail
    go_loopw [11, 12] (fun s11 s12 wr => ∃ k : Nat, s12 = .int .i64 (k : Int) /\ k <= f.R.length /\ s11 = .bool (anyD xp ((ks f.R).take k)) /\ Below wQ.heap.size wQ wr)
     (fun _ s12 _ => f.R.length - (intOf s12).toNat)
    case atStart => exact ⟨0, rfl, Nat.zero_le _, rfl, Below.refl _ _⟩
    case round =>
     obtain ⟨k, rfl, hk, rfl, hbr⟩ := hrel;have HB := Lib.hid hbr;have hWr := Bl.up HS.out.hW hbr;have HWR := Lib.hid hWr;obtain ⟨g0, g1, g2, g3, g4, -, -, -⟩ := (HF.out.up hWr).cellsN;obtain ⟨x0, x1⟩ := HPX.out;replace x0 := keepc hbr x0;replace x1 := keepc hbr x1;have HXr := Lib.hid (HX.out.up hbr);clear hbr hWr;by_cases hkl : k < f.R.length
     ·have k0 : (0 : Int) <= (k : Int) := by omega
      have k1 : (k : Int) < (f.R.length : Int) := by omega
      have hkz : k < (zP f.R).length := by rw [zP_len]; exact hkl
      obtain ⟨ba, offa, rfl, hba, hlb⟩ := (HR1.out.up HWR.out).at hkz;obtain ⟨t2, b2, m2, d2, y0, y1, -, hy⟩ := hlb.pow hkz;rw [zP_getD] at hy;have hkk : k < (ks f.R).length := by rw [ks_len]; exact hkl
      have hsn := anyD_snoc (x := xp) hkk;have hrm : (ks f.R).getD k 0 ∈ ks f.R := by rw [List.getD_eq_getElem?_getD, List.getElem?_eq_getElem hkk]; exact List.getElem_mem _
      have hrs := HSR.out _ hrm
      have hrk : (f.R.getD k (0, 0)).1 = (ks f.R).getD k 0 := by
       unfold ks;rw [List.getD_eq_getElem?_getD, List.getD_eq_getElem?_getD, List.getElem?_map, List.getElem?_eq_getElem hkl]; rfl
      dsimp only at hy;rw [hrk] at hy;obtain ⟨r, hre⟩ : ∃ r, (ks f.R).getD k 0 = r := ⟨_, rfl⟩;rw [hre] at hy hsn hrs;have HY := Lib.hid hy;have HSNN := Lib.hid hsn;have HRS := Lib.hid hrs;obtain ⟨dv, hdv⟩ : ∃ dv, anyD xp ((ks f.R).take k) = dv := ⟨_, rfl⟩;rw [hdv] at HSNN |-;clear hlb hkz hkk hrm hrk hre hdv hsn hrs hy hba
      cases dv
      ·go_upto_region 14 with fail;refine wp_region_T (by kernel_rfl) [] (S := fun w' => w'.cell? ⟨w.heap.size, 3, none⟩ = some (.slice (some ⟨ba, offa, none⟩) f.R.length cR) /\ w'.cell? ⟨ba, offa + k * 3, none⟩ = some (.bool t2) /\ w'.cell? ⟨ba, offa + k * 3 + 1, none⟩ = some (.slice b2 m2 d2) /\ w'.cell? ⟨bo, offo + i * 2, none⟩ = some (.bool t1) /\ w'.cell? ⟨bo, offo + i * 2 + 1, none⟩ = some (.slice b1 m1 d1)) ⟨g3, y0, y1, x0, x1⟩ (fun hHeld => ?_);(refine pL 0 rfl ?_; refine pL 1 rfl ?_; refine pL 2 rfl ?_)
       refine kL 3 rfl ?_;(refine pL 4 rfl ?_; refine pL 5 rfl ?_; refine pL 6 rfl ?_)
       refine kL 7 rfl ?_;(refine pL 8 rfl ?_; refine pL 9 rfl ?_; refine pL 10 rfl ?_)
       refine kL 11 rfl ?_;(refine oL 12 rfl fun K hK => tL ?_; go_simp);refine (rmod_any _ _ (r : Int) (xp : Int) _ HY.out.drew HXr.out.drew (by have := H2X.out; omega) HRS.out HSX.out).mono ?_;rintro e w8 ⟨v8, rfl, hv8, hb8⟩;have hbT := Bl.up (Bl.drew (Below.refl wr.heap.size wr)) hb8;replace g3 := keepc hbT g3;replace y0 := keepc hbT y0;replace y1 := keepc hbT y1;replace x0 := keepc hbT x0;replace x1 := keepc hbT x1;(go_wp2_with fail; clear hHeld; refine nxL hK ⟨g3, y0, y1, x0, x1⟩ fun hHeld => tL ?_; clear hK);(refine oL 13 rfl fun K hK => tL ?_; go_simp);refine (rsign_any _ _ w8 hv8).mono ?_;rintro e w9 ⟨rfl, hb9⟩;replace hbT := Bl.up hbT hb9;replace g3 := keepc hb9 g3;replace y0 := keepc hb9 y0;replace y1 := keepc hb9 y1;replace x0 := keepc hb9 x0;replace x1 := keepc hb9 x1;obtain ⟨sg, hsg⟩ : ∃ sg, cmpI ((r : Int) % (xp : Int)) 0 = sg := ⟨_, rfl⟩;rw [hsg]
       have hdd : (sg == 0) = decide (xp ∣ r) := by
        rw [<- hsg, Bool.eq_iff_iff, beq_iff_eq, decide_eq_true_eq, cmpI_zero];have e : (r : Int) % (xp : Int) = ((r % xp : Nat) : Int) := by omega
        rw [e];constructor
        ·intro h; exact Nat.dvd_of_mod_eq_zero (by omega)
        ·intro h; have := Nat.mod_eq_zero_of_dvd h; omega
       have HDD2 := Lib.hid hdd;obtain ⟨q, hq⟩ : ∃ q, (sg == 0) = q := ⟨_, rfl⟩;rw [hq] at HDD2;clear hb8 hb9 hv8 hsg hdd;(go_wp2_with fail; clear hHeld; refine nxL hK ⟨g3, y0, y1, x0, x1⟩ fun hHeld => tL ?_; clear hK);(refine pL 14 rfl ?_; refine pL 15 rfl ?_; refine pL 16 rfl ?_)
       clear hq;refine dT ?_;clear hHeld g0 g1 g2 g3 g4 x0 x1 y0 y1;go_wp2_with fail;refine ⟨⟨k + 1, by go_num, by omega, by rw [HSNN.out, HDD2.out]; rfl, Bl.up HB.out hbT⟩, by simp [intOf]; omega⟩
      ·go_upto_region 14 with fail;refine wp_region_T (by kernel_rfl) [] (S := fun w' => True) trivial (fun hHeld => ?_);(refine pL 0 rfl ?_; refine pL 1 rfl ?_)
       (refine uL 2 rfl ?_; refine uL 3 rfl ?_; refine uL 4 rfl ?_; refine uL 5 rfl ?_; refine uL 6 rfl ?_; refine uL 7 rfl ?_; refine uL 8 rfl ?_; refine uL 9 rfl ?_; refine uL 10 rfl ?_; refine uL 11 rfl ?_; refine uL 12 rfl ?_; refine uL 13 rfl ?_; refine uL 14 rfl ?_)
       (refine pL 15 rfl ?_; refine pL 16 rfl ?_)
       refine dT ?_;clear hHeld g0 g1 g2 g3 g4 x0 x1 y0 y1;go_wp2_with fail;refine ⟨⟨k + 1, by go_num, by omega, by rw [HSNN.out]; rfl, Bl.up HB.out (Below.refl wr.heap.size wr).drew⟩, by simp [intOf]; omega⟩
     ·obtain rfl : k = f.R.length := by omega
      have k1 : ¬ (f.R.length : Int) < (f.R.length : Int) := by omega
      have he : anyD xp ((ks f.R).take f.R.length) = anyD xp (ks f.R) := by rw [List.take_of_length_le (by rw [ks_len]; exact Nat.le_refl _)]
      rw [he];replace HS := Lib.hid (HS.out.up HB.out);clear he hkl hk HB HPX HX;by_cases hany : anyD xp (ks f.R) = true
      ·have HDV := Lib.hid (anyD_iff.1 hany);rw [hany];clear hany;go_upto_region 16 with fail;have HN0 := Lib.hid (HN1.out.up HS.out.hW);refine wp_region_T (by kernel_rfl) [12] (S := fun w' => w'.cell? ⟨w.heap.size, 0, none⟩ = some (.bool s) /\ w'.cell? ⟨w.heap.size, 1, none⟩ = some (.slice a n c) /\ w'.cell? ⟨bo, offo + i * 2, none⟩ = some (.bool t1) /\ w'.cell? ⟨bo, offo + i * 2 + 1, none⟩ = some (.slice b1 m1 d1)) ⟨g0, g1, x0, x1⟩ (fun hHeld => ?_);refine pL 0 rfl ?_;refine kL 1 rfl ?_;(refine pL 2 rfl ?_; refine pL 3 rfl ?_; refine pL 4 rfl ?_)
       refine kL 5 rfl ?_;clear hHeld
       (refine wpAnyT_all [(6, some 76), (7, some 69), (8, some 77), (9, some 78), (10, some 14), (11, some 13)] 1 (Fl (knU 6 (((mlt xp f.N : Nat) : Int)) (((cof xp f.N : Nat) : Int))) 10 wr) rfl (by kernel_rfl) (by decide) (by kernel_rfl) (by kernel_rfl) (by kernel_rfl) (fun bb xx wz h => (fun hb' => ⟨keepc hb' g0, keepc hb' g1, keepc hb' x0, keepc hb' x1⟩) h.bl) (fun xx => Fl.start _ _ _ _) ?_ ?_
        ·intro i hi;have hi' : i = 6 \/ i = 7 \/ i = 8 \/ i = 9 \/ i = 10 \/ i = 11 := by simpa using hi
         clear hi;rcases hi' with rfl | rfl | rfl | rfl | rfl | rfl
         ·refine ⟨_, rfl, fun bb xx wz hJ hbb hw K hK => ?_⟩;clear hbb hw;simp only [actA] at hK |-;go_simp;refine (rtimes2_any _ _ f.N xp wz (HN0.out.up hJ.bl) (HXr.out.up hJ.bl) hn1 H2X.out HSN.out HSX.out).mono ?_;rintro e w2 ⟨v, rfl, hv, hb⟩;exact hK.out _ _ (hJ.call (i := 6) (by decide) (Z := fun _ => False) (knu0 hv) (fun k hk => hk.elim) hb)
         ·refine ⟨_, rfl, fun bb xx wz hJ hbb hw K hK => ?_⟩
          have hp : ∃ u, xx 6 = .tuple #[.int .i64 (((mlt xp f.N : Nat) : Int)), u] /\ It wz u (((cof xp f.N : Nat) : Int)) := by
           obtain ⟨Z, hR, -, -⟩ := hJ.pr 6 (by decide) (hw 6 (by kernel_rfl));exact hR.1 (.inl rfl)
          have hh := Classical.choose_spec hp;generalize Classical.choose hp = u at hh;have hxu := hh.1;have hu := hh.2;clear hbb hw hp hh;simp only [actA, hxu] at hK |-;go_simp;exact hK.out _ _ (hJ.call (i := 7) (by decide) (Z := fun _ => False) (knu1 hu) (fun k hk => hk.elim) (Below.refl _ _))
         ·refine ⟨_, rfl, fun bb xx wz hJ hbb hw K hK => ?_⟩
          have hp : ∃ u, xx 7 = .tuple #[.int .i64 (((mlt xp f.N : Nat) : Int)), u] /\ It wz u (((cof xp f.N : Nat) : Int)) := by
           obtain ⟨Z, hR, -, -⟩ := hJ.pr 7 (by decide) (hw 7 (by kernel_rfl));exact hR.1 (.inr rfl)
          have hh := Classical.choose_spec hp;generalize Classical.choose hp = u at hh;have hxu := hh.1;have hu := hh.2;clear hbb hw hp hh;simp only [actA, hxu] at hK |-;go_simp;exact hK.out _ _ (hJ.call (i := 8) (by decide) (Z := fun _ => False) (knu2) (fun k hk => hk.elim) (Below.refl _ _))
         ·refine ⟨_, rfl, fun bb xx wz hJ hbb hw K hK => ?_⟩
          have hp : ∃ u, xx 7 = .tuple #[.int .i64 (((mlt xp f.N : Nat) : Int)), u] /\ It wz u (((cof xp f.N : Nat) : Int)) := by
           obtain ⟨Z, hR, -, -⟩ := hJ.pr 7 (by decide) (hw 7 (by kernel_rfl));exact hR.1 (.inr rfl)
          have hh := Classical.choose_spec hp;generalize Classical.choose hp = u at hh;have hxu := hh.1;have hu := hh.2;clear hbb hw hp hh;simp only [actA, hxu] at hK |-;go_simp;exact hK.out _ _ (hJ.call (i := 9) (by decide) (Z := fun _ => False) (knu3 hu) (fun k hk => hk.elim) (Below.refl _ _))
         ·refine ⟨_, rfl, fun bb xx wz hJ hbb hw K hK => ?_⟩;clear hbb hw;simp only [actA] at hK |-;go_simp;exact hK.out _ _ (hJ.var (W' := wz.alloc (.cells #[.bool false, .slice none 0 0] 33)) (Vx.new0 (w := wz) rfl) (below_new _ _))
         ·refine ⟨_, rfl, fun bb xx wz hJ hbb hw K hK => ?_⟩
          have hx5 : xx 8 = .int .i64 (((mlt xp f.N : Nat) : Int)) := by
           obtain ⟨Z, hR, -, -⟩ := hJ.pr 8 (by decide) (hw 8 (by kernel_rfl));exact hR.2.1 (.inl rfl)
          clear hbb hw;simp only [actA, hx5] at hK |-;go_simp;exact hK.out _ _ (hJ.call (i := 11) (by decide) (Z := fun _ => False) (knu5) (fun k hk => hk.elim) (Below.refl _ _))
        intro bb xx wz hbb hJ;obtain ⟨Z, hR, -, -⟩ := hJ.pr 9 (by decide) (hbb 9 (by decide));have hu := hR.2.2 rfl;obtain ⟨Z', hR', -, -⟩ := hJ.pr 11 (by decide) (hbb 11 (by decide));have h5 := hR'.2.1 (.inr rfl);obtain ⟨B13, hx13, hB13, hV13⟩ := hJ.pj (hbb 10 (by decide));have hbz := hJ.bl;clear hbb hJ hR hR';obtain ⟨u0, hu0⟩ : ∃ u0, u0 = xx 6 := ⟨_, rfl⟩;obtain ⟨u1, hu1⟩ : ∃ u1, u1 = xx 7 := ⟨_, rfl⟩;obtain ⟨u2, hu2⟩ : ∃ u2, u2 = xx 8 := ⟨_, rfl⟩;obtain ⟨s3, a3, n3, c3, hx6⟩ := hu.shape;rw [hx6] at hu;simp only [actM, hx13, hx6, h5, <- hu0, <- hu1, <- hu2];clear hx13 hx6 h5 hu0 hu1 hu2;obtain ⟨y1, y2, y3, y4, z0, z1, z2, z3, -⟩ := hV13.cells;(refine oL 12 rfl fun K hK => tL ?_; go_simp);(go_wp2_with fail; refine xL hK (tL ?_); clear hK);refine dT ?_;clear z0 z1 z2 z3)
       have hbu := (ButS.set wz B13 0 (.bool s3)).trans (ButS.set _ B13 1 (.slice a3 n3 c3));have hb10 := ButS.below hbz hbu hbz.size (fun g e => by omega);replace x0 := keepc hb10 x0;replace x1 := keepc hb10 x1;replace HXr := Lib.hid (HXr.out.up hb10);replace HS := Lib.hid (HS.out.up hb10);clear hbu hb10 hbz hV13 hu g0 g1 g2 g3 g4 HN0 HWR;generalize (wz.setCell ⟨B13, 0, none⟩ (.bool s3)).setCell ⟨B13, 1, none⟩ (.slice a3 n3 c3) = wa at *;obtain ⟨mk, hmk⟩ : ∃ mk, mlt xp f.N = mk := ⟨_, rfl⟩;rw [hmk];have HMK := Lib.hid hmk;clear hmk;obtain ⟨-, -, -, m3, -, -, -, -, -, -⟩ := heap5' HS.out.hb;have hnV : (zP (pows f.N (kpI f o i))).length = nV := HS.out.hR.sr.len.1
       have hlV : nV + 1 <= 1099511627776 := by
        have := HKL.out; have := HOL.out;rw [<- hnV, zP_len]; unfold pows; rw [List.length_map]; omega
       have HNV := Lib.hid hnV;clear hnV;go_upto_region 17 with fail;refine wp_region_T (by kernel_rfl) [9] (S := fun w' => w'.cell? ⟨B8, 3, none⟩ = some (.slice aV nV cV) /\ w'.cell? ⟨bo, offo + i * 2, none⟩ = some (.bool t1) /\ w'.cell? ⟨bo, offo + i * 2 + 1, none⟩ = some (.slice b1 m1 d1)) ⟨m3, x0, x1⟩ (fun hHeld => ?_);refine pL 0 rfl ?_;refine kL 1 rfl ?_;(refine pL 2 rfl ?_; refine pL 3 rfl ?_; refine pL 4 rfl ?_)
       refine kL 5 rfl ?_;(refine pL 6 rfl ?_; refine pL 7 rfl ?_)
       (refine oL 8 rfl fun K hK => tL ?_; go_simp);have hbP := (below_new wa (.cells #[.bool t1, .slice b1 m1 d1, .int .i64 (mk : Int)] 49)).drew;have hsc : Sc eP (wa.alloc (.cells #[.bool t1, .slice b1 m1 d1, .int .i64 (mk : Int)] 49)).drew wa.heap.size 0 [((xp : Int), (mk : Int))] := Sc.one (heap_alloc_new wa _) ⟨t1, b1, m1, d1, rfl, HXr.out.up hbP⟩;have hS7 := HS.out.up hbP;have m7 := keepc hbP m3;have z7 := (heap5' hS7.hb).2.2.2.2.2.2.2.2.1;(go_wp2_with fail; clear hHeld; refine nxL hK ⟨m7, keepc hbP x0, keepc hbP x1⟩ fun hHeld => tL ?_; clear hK);refine wpAnyT_one (i := 9) (by as_aux_lemma => kernel_rfl) rfl (fun K hK => ?_);refine step_apS (E := eP) (by rfl) (.tmp 80) (.tmp 87) _ (by rfl) Tryz.underlying34 W.heap.size _ (zP (pows f.N (kpI f o i))) [((xp : Int), (mk : Int))] (by rfl) hS7.hR hS7.hW.size wa.heap.size 0 1 1 (by rfl) rfl hsc (by decide) (by rw [HNV.out]; exact hlV) ?_;intro g8 cap8 w8 h8 hb8 hg8;rw [HNV.out] at h8 |-;have d8 := cell_fr hb8 (cell_lt m7) hS7.hn m7;have f8 := frozen_fr hb8 (cell_lt m7) hS7.hn z7;have hS8 := hS7.add h8 hb8 hg8
       have hS8 : SpW W (w8.setCell ⟨B8, 3, none⟩ (.slice (some ⟨g8, 0, none⟩) (nV + 1) cap8)) B8 s a n c aP f.P.length cP (some ⟨g8, 0, none⟩) (nV + 1) cap8 (zP (pows f.N (kpI f o (i + 1)))) f.B (.slice (some ⟨bo, offo, none⟩) nO cO) (zI o) := by
        rw [HYES.out HDV.out, pows_snoc, zP_append, HMK.out]; exact hS8
       have HS8 := Lib.hid hS8;clear hS7 hsc hbP m7 z7 m3 x0 x1 h8 hb8 hg8 hS8 HS HXr hlV;refine hK.out _ _ nzz ?_;clear hK hHeld;refine tL ?_;refine pL 10 rfl ?_;(refine oL 11 rfl fun K hK => tL ?_; go_simp);(go_wp2_with fail; refine xL hK (tL ?_); clear hK);refine dT ?_;clear d8 f8;generalize w8.setCell ⟨B8, 3, none⟩ (.slice (some ⟨g8, 0, none⟩) (nV + 1) cap8) = wb at *;obtain ⟨bo', offo', hbe, -, hla⟩ := HS8.out.hO.at (i := i) (by rw [HNO.out]; exact HLT.out);injection hbe with hbe;injection hbe with hb1' hb2';subst hb1' hb2';obtain ⟨t3, b3, m4, d3, x0, x1, hx⟩ := hla.int (i := i) (by rw [HNO.out]; exact HLT.out);rw [zI_getD, HXE.out] at hx;have HX := Lib.hid hx;have HRr := Lib.hid (HR1.out.up HS8.out.hW);obtain ⟨-, -, -, g3, -, -, -, -⟩ := (HF.out.up HS8.out.hW).cellsN;clear hla hx
       cases fr
       ·go_upto_region 18 with fail;refine wp_region_T (by kernel_rfl) [] (S := fun w' => w'.cell? ⟨w.heap.size, 3, none⟩ = some (.slice aR f.R.length cR) /\ w'.cell? ⟨bo, offo + i * 2, none⟩ = some (.bool t3) /\ w'.cell? ⟨bo, offo + i * 2 + 1, none⟩ = some (.slice b3 m4 d3)) ⟨g3, x0, x1⟩ (fun hHeld => ?_);(refine pL 0 rfl ?_; refine pL 1 rfl ?_; refine pL 2 rfl ?_)
        refine kL 3 rfl ?_;(refine pL 5 rfl ?_; refine pL 6 rfl ?_; refine pL 7 rfl ?_)
        refine kL 8 rfl ?_;(refine oL 4 rfl fun K hK => tL ?_; go_simp);refine (rnumbers_any _ (zP f.R) _ HRr.out.drew hrl).mono ?_;rintro e w9 ⟨v9, rfl, hv9, hb9⟩;have hbT := Bl.up (Bl.drew (Below.refl wb.heap.size wb)) hb9;rw [zP_fst] at hv9;replace g3 := keepc hbT g3;replace x0 := keepc hbT x0;replace x1 := keepc hbT x1;(go_wp2_with fail; clear hHeld; refine nxL hK ⟨g3, x0, x1⟩ fun hHeld => tL ?_; clear hK);(refine oL 9 rfl fun K hK => tL ?_; go_simp)
        refine (rhas_any _ _ (zI (ks f.R)) (xp : Int) w9 hv9.sr (HX.out.up hbT) (fun y hy => by
         unfold zI at hy;obtain ⟨p, hp, rfl⟩ := List.mem_map.1 hy;exact HSR.out p hp) HSX.out (by rw [zI_len, ks_len]; omega)).mono ?_
        rintro e wc ⟨rfl, hbA⟩;rw [show decide (((xp : Nat) : Int) ∈ zI (ks f.R)) = decide (xp ∈ ks f.R) by rw [decide_eq_decide, mem_zI]];replace hbT := Bl.up hbT hbA;replace g3 := keepc hbA g3;replace x0 := keepc hbA x0;replace x1 := keepc hbA x1;obtain ⟨q, hq⟩ : ∃ q, decide (xp ∈ ks f.R) = q := ⟨_, rfl⟩;rw [hq];have HQ := Lib.hid hq;clear hq hv9 hb9 hbA;(go_wp2_with fail; clear hHeld; refine nxL hK ⟨g3, x0, x1⟩ fun hHeld => tL ?_; clear hK);(refine pL 10 rfl ?_; refine pL 11 rfl ?_; refine pL 12 rfl ?_)
        refine dT ?_;clear hHeld g3 x0 x1;go_wp2_with fail;have := HLT.out;refine ⟨⟨i + 1, _, _, _, by go_num, by omega, by rw [HSPF.out HDV.out, HQ.out]; simp, HS8.out.up hbT⟩, by simp [intOf]; omega⟩
       ·go_upto_region 18 with fail;refine wp_region_T (by kernel_rfl) [] (S := fun w' => True) trivial (fun hHeld => ?_);(refine pL 0 rfl ?_; refine pL 1 rfl ?_)
        (refine uL 2 rfl ?_; refine uL 3 rfl ?_; refine uL 4 rfl ?_; refine uL 5 rfl ?_; refine uL 6 rfl ?_; refine uL 7 rfl ?_; refine uL 8 rfl ?_; refine uL 9 rfl ?_; refine uL 10 rfl ?_)
        (refine pL 11 rfl ?_; refine pL 12 rfl ?_)
        refine dT ?_;clear hHeld g3 x0 x1;go_wp2_with fail;have := HLT.out;refine ⟨⟨i + 1, _, _, _, by go_num, by omega, by rw [HSPF.out HDV.out]; simp, HS8.out.up (Below.refl wb.heap.size wb).drew⟩, by simp [intOf]; omega⟩
      ·have HDV := Lib.hid (fun h => hany (anyD_iff.2 h));rw [Bool.not_eq_true] at hany;rw [hany];clear hany g0 g1 g2 g4 x0 x1;go_wp2_with fail;have := HLT.out;refine ⟨⟨i + 1, aV, nV, cV, by go_num, by omega, by rw [(HSPN.out HDV.out).2.2], by rw [HNO2.out HDV.out]; exact HS.out⟩, by simp [intOf]; omega⟩
   ·obtain rfl : i = nO := by omega
    have i1 : ¬ (i : Int) < (i : Int) := by omega
    have e0 : kpI f o i = keep f o := by rw [<- HOL.out]; exact kpI_all f o
    have hfi : spF f o i = true ↔ fresh f o := by rw [spF_iff, e0]; exact Iff.rfl
    rw [e0] at HS;by_cases hfr : spF f o i = true
    ·have HFR := Lib.hid (hfi.1 hfr);rw [hfr];have hnV : (zP (pows f.N (keep f o))).length = nV := HS.out.hR.sr.len.1
     have hkl : (pows f.N (keep f o)).length <= 100000000 := by
      have := kp_len f o i;rw [e0] at this;unfold pows; rw [List.length_map]; have := HOL.out; omega
     have HL1 := Lib.hid (show f.P.length <= 100000000 by omega);have HL2 := Lib.hid hkl;have HZ1 := Lib.hid (show ∀ p ∈ f.P, sz ((p.1 : Nat) : Int) <= 1099511627776 from fun p hp => HSP.out _ (List.mem_map_of_mem (f := fun p : Nat × Nat => ((p.1 : Int), (p.2 : Int))) hp))
     have HZ2 := Lib.hid (show ∀ p ∈ pows f.N (keep f o), sz ((p.1 : Nat) : Int) <= 1099511627776 from fun p hp => by
      unfold pows at hp;obtain ⟨x, hx, rfl⟩ := List.mem_map.1 hp;exact HOS.out x (keep_mem.1 hx).1)
     have HFX := Lib.hid (show Fx wr (.agg #[.bool s, .slice a n c, .slice aP f.P.length cP, .slice aV nV cV, .int .i64 (f.B : Int)]) (zF ⟨f.N, f.P, pows f.N (keep f o), f.B⟩) from
      ⟨s, a, n, c, _, _, rfl, HN1.out.up HS.out.hW, HP1.out.up HS.out.hW, HS.out.hR.sr⟩)
     obtain ⟨t0, t1, t2, t3, t4, -, -, -, -, -⟩ := heap5' HS.out.hb;clear e0 hfi hfr hnV hkl hlt hi;go_wp2_with fail;refine (rtidy_any _ ⟨f.N, f.P, pows f.N (keep f o), f.B⟩ wr HFX.out hfb HL1.out HL2.out HZ1.out HZ2.out).mono ?_;rintro e w9 ⟨v, t, rfl, hF, hT, hb9⟩;have hBw := Bl.up HBL.out (Bl.up HS.out.hW hb9);have hHD := ((Bl.up HS.out.hW hb9).block (w.heap.size + 1 + 1) (Array.getElem?_eq_some_iff.1 HD.out).1).trans HD.out;obtain ⟨sF, aF, nF, cF, vP6, vR6, rfl, hF1, hF2, hF3⟩ := hF;obtain ⟨aP6, cP6, rfl, hF2'⟩ := id hF2;obtain ⟨aR6, cR6, rfl, hF3'⟩ := id hF3;obtain ⟨lP, hlP⟩ : ∃ lP, (zF t).P.length = lP := ⟨_, rfl⟩;obtain ⟨lR, hlR⟩ : ∃ lR, (zF t).R.length = lR := ⟨_, rfl⟩;obtain ⟨bT, hbT⟩ : ∃ bT, (zF t).B = bT := ⟨_, rfl⟩;rw [hlP] at hF2 |-;rw [hlR] at hF3 |-;rw [hbT];have H1 := Lib.hid hF1;have H2 := Lib.hid hF2;have H3 := Lib.hid hF3;have HBW2 := Lib.hid hBw;have HHD := Lib.hid hHD;have HT := Lib.hid (tidy_split hT);have HBT := Lib.hid hbT;obtain ⟨d0, d1, d2, d3, d4, f0, f1, f2, f3, f4⟩ := heap5' hHD;clear hF1 hF2 hF3 hF2' hF3' hlP hlR hbT hBw hHD hT hb9 t0 t1 t2 t3 t4 HFX HL1 HL2 HZ1 HZ2;go_wp2_with fail;have hbu := five_but w9 (w.heap.size + 1 + 1) (.bool sF) (.slice aF nF cF) (.slice aP6 lP cP6) (.slice aR6 lR cR6) (.int .i64 bT);have hDh := five_heap HHD.out (.bool sF) (.slice aF nF cF) (.slice aP6 lP cP6) (.slice aR6 lR cR6) (.int .i64 bT);have hnw := five_nw HHD.out;have hfin : Fx _ (.agg #[.bool sF, .slice aF nF cF, .slice aP6 lP cP6, .slice aR6 lR cR6, .int .i64 bT]) (zF t) := ⟨sF, aF, nF, cF, _, _, by rw [HBT.out], H1.out.fr hbu hnw, H2.out.fr hbu hnw (fun hl => H2.out.not_fact HHD.out hl), H3.out.fr hbu hnw (fun hl => H3.out.not_fact HHD.out hl)⟩;refine ret_fact2 (B := w.heap.size + 1 + 1) (T := 36) (fr := (0, 0)) (x0 := .bool sF) (x1 := .slice aF nF cF) (x2 := .slice aP6 lP cP6) (x3 := .slice aR6 lR cR6) (x4 := .int .i64 bT) (y := .int .i64 0) rfl rfl rfl rfl hDh ?_;exact ⟨o, HCB.out, ButS.below HBW2.out hbu HBW2.out.size (fun g e => by omega), .inl ⟨HFR.out, _, t, rfl, hfin, HT.out⟩⟩
    ·have HFR := Lib.hid (fun h => hfr (hfi.2 h));rw [Bool.not_eq_true] at hfr;rw [hfr];have hBw := Bl.up HBL.out HS.out.hW;have hHD := (HS.out.hW.block (w.heap.size + 1 + 1) (Array.getElem?_eq_some_iff.1 HD.out).1).trans HD.out;clear e0 hfi hfr hlt hi
     (have HHD := Lib.hid hHD
      obtain ⟨d0, d1, d2, d3, d4, f0, f1, f2, f3, f4⟩ := heap5' hHD;clear hHD;go_wp2_with fail;have hfin := five_but (wr) (w.heap.size + 1 + 1) (.bool false) (.slice none 0 0) (.slice none 0 0) (.slice none 0 0) (.int .i64 0);refine ret_fact2 (B := w.heap.size + 1 + 1) (x0 := .bool false) (x1 := .slice none 0 0) (x2 := .slice none 0 0) (x3 := .slice none 0 0) (x4 := .int .i64 0) (y := .int .i64 6) rfl rfl rfl rfl (five_heap HHD.out _ _ _ _ _) ?_)
     exact ⟨o, HCB.out, ButS.below hBw hfin hBw.size (fun g e => by omega), .inr ⟨HFR.out, _, rfl, fx_zero _⟩⟩
end Go.Proofs.YtblebpmlkpobnaaGreat
