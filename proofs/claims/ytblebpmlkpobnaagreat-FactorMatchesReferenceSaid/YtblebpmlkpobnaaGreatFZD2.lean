/-
  factor.Settle.
-/
import Derived.Test.YtblebpmlkpobnaaGreatFQ1
import Derived.Test.YtblebpmlkpobnaaGreatFZA
set_option linter.unusedSimpArgs false
set_option linter.unusedVariables false
set_option maxRecDepth 100000
set_option maxHeartbeats 4000000
namespace Go.Proofs.YtblebpmlkpobnaaGreat
open Go.RowKit
attribute [local go_sem ↓] Go.wp_at_zero Go.wp_at_succ
theorem zP_erase (a : List (Nat × Nat)) (n : Nat) : (zP a).eraseIdx n = zP (a.eraseIdx n) := by
 induction a generalizing n with
 | nil => rfl
 | cons x a ih => cases n with
   | zero => rfl
   | succ n => simpa [zP] using ih n
theorem settle_bad (va : Value) (f : Fz) (i : Int) (w : World) (ha : Fx w va f) (hi : i < 0 \/ (f.R.length : Int) <= i) :
  Calls Tryz.prog 42 #[va, .int .i64 i] w fun e w' => ∃ v, e = .returned (.tuple #[v, .int .i64 1]) /\ Fx w' v f0 /\ Below w.heap.size w w' := by
 obtain ⟨W, s, a, n, c, aP, cP, aR, cR, rfl, hW, bl, hs, hF⟩ := boxF w ha;clear ha;go_enter Tryz.func42, Tryz.ntmps42
 go_upto_region 1 with fail;rw [<- hW];have hD := heap_alloc_new W (.cells #[.bool false, .slice none 0 0, .slice none 0 0, .slice none 0 0, .int .i64 0] 36);rw [hs] at hD;have hF3 := hF.alloc (.cells #[.bool false, .slice none 0 0, .slice none 0 0, .slice none 0 0, .int .i64 0] 36);have hBw := Bl.alloc bl (.cells #[.bool false, .slice none 0 0, .slice none 0 0, .slice none 0 0, .int .i64 0] 36);clear hW hF bl hs;generalize W.alloc (.cells #[.bool false, .slice none 0 0, .slice none 0 0, .slice none 0 0, .int .i64 0] 36) = W1 at *;obtain ⟨-, -, -, p3, -⟩ := hF3.cells;by_cases h0 : i < 0
 ·clear hi hF3 p3;have HBw := Lib.hid hBw;clear hBw
  (have HHD := Lib.hid hD
   obtain ⟨d0, d1, d2, d3, d4, f0, f1, f2, f3, f4⟩ := heap5' hD;clear hD;go_wp2_with fail;have hfin := five_but (W1) (w.heap.size + 1) (.bool false) (.slice none 0 0) (.slice none 0 0) (.slice none 0 0) (.int .i64 0);refine ret_fact2 (B := w.heap.size + 1) (x0 := .bool false) (x1 := .slice none 0 0) (x2 := .slice none 0 0) (x3 := .slice none 0 0) (x4 := .int .i64 0) (y := .int .i64 1) rfl rfl rfl rfl (five_heap HHD.out _ _ _ _ _) ?_)
  exact ⟨_, rfl, fx_zero _, ButS.below HBw.out hfin HBw.out.size (fun g e => by omega)⟩
 ·have h1 : i >= (f.R.length : Int) := by omega
  clear hi hF3;have HBw := Lib.hid hBw;clear hBw
  (have HHD := Lib.hid hD
   obtain ⟨d0, d1, d2, d3, d4, f0, f1, f2, f3, f4⟩ := heap5' hD;clear hD;go_wp2_with fail;have hfin := five_but (W1) (w.heap.size + 1) (.bool false) (.slice none 0 0) (.slice none 0 0) (.slice none 0 0) (.int .i64 0);refine ret_fact2 (B := w.heap.size + 1) (x0 := .bool false) (x1 := .slice none 0 0) (x2 := .slice none 0 0) (x3 := .slice none 0 0) (x4 := .int .i64 0) (y := .int .i64 1) rfl rfl rfl rfl (five_heap HHD.out _ _ _ _ _) ?_)
  exact ⟨_, rfl, fx_zero _, ButS.below HBw.out hfin HBw.out.size (fun g e => by omega)⟩
theorem settle_ok (va : Value) (f : Fn) (i : Nat) (w : World) (ha : Fx w va (zF f)) (hf : RightN f) (hm : Md f.N) (hi : i < f.R.length) :
  Calls Tryz.prog 42 #[va, .int .i64 (i : Int)] w fun e w' => ∃ v g, e = .returned (.tuple #[v, .int .i64 0]) /\ Fx w' v (zF g) /\ SettleTo f i g /\ Below w.heap.size w w' := by
 obtain ⟨W1, s, a, n, c, aP, cP, aR, cR, rfl, hW, bl, hs, hF⟩ := boxN w ha;clear ha;have hLen := hf.len hm;go_enter Tryz.func42, Tryz.ntmps42
 go_upto_region 1 with fail;rw [<- hW];have hD := heap_alloc_new W1 (.cells #[.bool false, .slice none 0 0, .slice none 0 0, .slice none 0 0, .int .i64 0] 36);rw [hs] at hD;have hF3 := hF.alloc (.cells #[.bool false, .slice none 0 0, .slice none 0 0, .slice none 0 0, .int .i64 0] 36);have hBw := Bl.alloc bl (.cells #[.bool false, .slice none 0 0, .slice none 0 0, .slice none 0 0, .int .i64 0] 36);have hsz : (W1.alloc (.cells #[.bool false, .slice none 0 0, .slice none 0 0, .slice none 0 0, .int .i64 0] 36)).heap.size = w.heap.size + 2 := by rw [World.size_alloc, hs]
 clear hW hF bl hs;generalize W1.alloc (.cells #[.bool false, .slice none 0 0, .slice none 0 0, .slice none 0 0, .int .i64 0] 36) = W at *;have i0 : ¬ (i : Int) < 0 := by omega
 have i1 : ¬ (i : Int) >= (f.R.length : Int) := by omega
 have i2 : (0 : Int) <= (i : Int) := by omega
 have i3 : (i : Int) < (f.R.length : Int) := by omega
 obtain ⟨p0, p1, p2, p3, p4, hN1, hP1, hR1⟩ := hF3.cellsN;have HF := Lib.hid hF3;have HD := Lib.hid hD;have HBL := Lib.hid hBw;have HSZ := Lib.hid hsz;clear hF3 hD hBw;go_wp2_with fail;refine (start_any _ _ (f.N : Int) (f.B : Int) (zP f.P) hN1 hP1 (by rw [zP_len]; omega)).mono ?_;rintro e w1 ⟨B, vP, rfl, hBu, hb1, hbk⟩;clear p0 p1 p2 p3 p4 hN1 hP1 hR1;obtain ⟨-, -, -, p3, -, -, -, hR1⟩ := (HF.out.up hb1).cellsN;have HBu := Lib.hid hBu;have HB1 := Lib.hid hb1;have HBK := Lib.hid hbk;clear hBu hb1 hbk;go_wp2_with fail;refine (cloneP_any _ (zP f.R) w1 hR1 (by rw [zP_len]; omega)).mono ?_;rintro e w2 ⟨vc, rfl, hc, hb2⟩;have hcf := hc.form;rw [zP_len] at hcf
 have hcf : ∃ g cap, vc = .slice (some ⟨g, 0, none⟩) f.R.length cap /\ w1.heap.size <= g /\ g < w2.heap.size := by
  rcases hcf with ⟨-, e⟩ | ⟨g, cap, e, h2, h3, -⟩
  ·have h0 := congrArg List.length e;rw [zP_len] at h0;have h0 : f.R.length = 0 := h0;omega
  ·exact ⟨g, cap, e, h2, h3⟩
 obtain ⟨gc, capc, rfl, hgc, hgc2⟩ := hcf;have hcap := hc.cap;have HC := Lib.hid hc;have HB2 := Lib.hid hb2;clear p3 hR1 hc hb2;go_wp2_with fail;have hcl : (zP f.R).length = f.R.length := zP_len _;have hdel := deleteP_any gc capc i (zP f.R) w2 w1.heap.size (by rw [hcl]; exact HC.out) (by rw [hcl]; exact hi) hcap;rw [hcl, zP_erase] at hdel;refine hdel.mono ?_;rintro e w3 ⟨rfl, hd3, hb3⟩;clear hdel hcl;have hb13 : Below w1.heap.size w1 w3 := ButS.below HB2.out hb3 HB2.out.size (fun g e => e ▸ hgc);have hBu3 := HBu.out.up hb13
 have hBu4 := hBu3.putR (hd3.base (Nat.zero_le _)) (fun g hg hs => by
  have h1 := (hd3.lt g hg).1;have h2 := HBu.out.slt g hs;omega)
 obtain ⟨-, -, -, -, -, -, -, t3, -, -, t6, -⟩ := hBu3.cells;have hb4 := ButS.set w3 B 3 (.slice (some ⟨gc, 0, none⟩) (f.R.length - 1) capc);have hBge : ∀ k, bset B vP (.slice none 0 0) k -> W.heap.size <= k := HBK.out;have hW4 : Below W.heap.size W (w3.setCell ⟨B, 3, none⟩ (.slice (some ⟨gc, 0, none⟩) (f.R.length - 1) capc)) := ButS.below (Bl.up HB1.out hb13) hb4 (Bl.up HB1.out hb13).size (fun g e => e ▸ hBge B (.inl rfl))
 have hk4 : ∀ k, bset B vP (.slice (some ⟨gc, 0, none⟩) (f.R.length - 1) capc) k -> W.heap.size <= k := fun k hk => by
  rcases hk with hk | hk | hk
  ·exact hBge k (.inl hk)
  ·exact hBge k (.inr (.inl hk))
  ·have e : gc = k := by simpa [Value.ownBlock] using hk
   have := HB1.out.size;omega
 have HBu4 := Lib.hid hBu4;have HW4 := Lib.hid hW4;have HK4 := Lib.hid hk4;clear hBu3 hBu4 hb4 hBge hW4 hk4 hb13 hb3 hd3 HC HB2 HBu hgc hgc2 hcap;go_upto_region 5 with fail;clear t3 t6;generalize w3.setCell ⟨B, 3, none⟩ (.slice (some ⟨gc, 0, none⟩) (f.R.length - 1) capc) = w4 at *;obtain ⟨-, -, -, p3, -, -, -, hR4⟩ := (HF.out.up HW4.out).cellsN;have hlR : i < (zP f.R).length := by rw [zP_len]; exact hi
 obtain ⟨ba, offa, rfl, hba, hla⟩ := hR4.at hlR;obtain ⟨s1, a1, n1, k1, q0, q1, q2, hx⟩ := hla.pow hlR;rw [zP_getD] at q2 hx;clear hla hR4;have hmem : f.R.getD i (0, 0) ∈ f.R := by rw [List.getD_eq_getElem?_getD, List.getElem?_eq_getElem hi]; exact List.getElem_mem _
 have hszx := hf.szk hm (ks_mem (List.mem_append_right f.P hmem));obtain ⟨x, hx0⟩ : ∃ x, f.R.getD i (0, 0) = x := ⟨_, rfl⟩;rw [hx0] at q2 hx hszx;have HX := Lib.hid hx0;clear hx0 hmem;go_wp2_with fail;refine (known_any HBu4.out s1 a1 n1 k1 (x.1 : Int) (x.2 : Int) hx (by rw [zP_len]; omega)).mono ?_;rintro e w5 ⟨rfl, vP', r1, r2, r3⟩;have hW5 : Below W.heap.size W w5 := ButS.below HW4.out r2 HW4.out.size HK4.out;have hk5 : ∀ k, bset B vP' (.slice (some ⟨gc, 0, none⟩) (f.R.length - 1) capc) k -> W.heap.size <= k := fun k hk => (r3 k hk).elim (HK4.out k) (fun h => by have := HW4.out.size; omega);have hBu5 : Bu w5 B vP' (.slice (some ⟨gc, 0, none⟩) (f.R.length - 1) capc) (f.N : Int) (zP (f.P ++ [x])) (zP (f.R.eraseIdx i)) (f.B : Int) := by rw [zP_append]; exact r1
 have HBu5 := Lib.hid hBu5;have HK5 := Lib.hid hk5;have hHD := (hW5.block (w.heap.size + 1) (Array.getElem?_eq_some_iff.1 HD.out).1).trans HD.out;have hBw := Bl.up HBL.out hW5;have hszx2 : sz (x.1 : Int) <= 2199023255552 := Nat.le_trans hszx (by decide)
 have hq : ∀ y ∈ zP (f.P ++ [x]), qP y := fun y hy => by
  rw [zP_append, List.mem_append] at hy;rcases hy with hy | hy
  ·exact Nat.le_trans ((hf.szP hm).2 y hy) (by decide)
  ·obtain rfl : y = ((x.1 : Int), (x.2 : Int)) := by simpa [zP] using hy
   exact hszx2
 have hq' : ∀ y ∈ zP (f.R.eraseIdx i), qP y := fun y hy => by
  refine Nat.le_trans ((hf.szR hm).2 y ?_) (by decide);unfold zP at hy |-;obtain ⟨p, hp, rfl⟩ := List.mem_map.1 hy;exact List.mem_map.2 ⟨p, List.mem_of_mem_eraseIdx hp, rfl⟩
 have hlP : (zP (f.P ++ [x])).length < 4611686018427387904 := by rw [zP_len, List.length_append, List.length_singleton]; omega
 have hlR : (zP (f.R.eraseIdx i)).length < 4611686018427387904 := by
  rw [zP_len];have := List.length_eraseIdx_le f.R i;omega
 have hnb : ¬ bset B vP' (.slice (some ⟨gc, 0, none⟩) (f.R.length - 1) capc) (w.heap.size + 1) := fun hs => by
  have h1 := HK5.out _ hs;have h2 := HSZ.out;clear hlP hlR hq hq';omega
 have HNB := Lib.hid hnb;have HHD := Lib.hid hHD;have HBw := Lib.hid hBw;clear hHD hBw hnb hBu5 hk5 hW5 r1 r2 r3 p3 q0 q1 q2 hx HBu4 HW4 HK4;go_wp2_with fail
 (refine (done_any HBu5.out hq hq' hlP hlR).mono ?_
  rintro e w8 ⟨v6, P', R', rfl, hF, hsP, hsR, hbd⟩;have hD6 := (hbd.block (w.heap.size + 1) (Array.getElem?_eq_some_iff.1 HHD.out).1 (HNB.out)).trans HHD.out;have hW6 := ButS.below HBw.out hbd (HBw.out).size (fun g hs => by have := HK5.out g hs; have := HSZ.out; omega);obtain ⟨sF, aF, nF, cF, vP6, vR6, rfl, hF1, hF2, hF3⟩ := hF;obtain ⟨aP6, cP6, rfl, hF2'⟩ := id hF2;obtain ⟨aR6, cR6, rfl, hF3'⟩ := id hF3;dsimp only at hF1 hF2 hF3 |-;obtain ⟨lP, hlP'⟩ : ∃ lP, P'.length = lP := ⟨_, rfl⟩;obtain ⟨lR, hlR'⟩ : ∃ lR, R'.length = lR := ⟨_, rfl⟩;rw [hlP'] at hF2 |-;rw [hlR'] at hF3 |-;have H1 := Lib.hid hF1;have H2 := Lib.hid hF2;have H3 := Lib.hid hF3;have H6 := Lib.hid hW6;have HP6 := Lib.hid hsP;have HR6 := Lib.hid hsR;have HD6 := Lib.hid hD6;obtain ⟨d0, d1, d2, d3, d4, f0, f1, f2, f3, f4⟩ := heap5' hD6;clear hF1 hF2 hF3 hW6 hsP hsR hD6 hbd hF2' hF3' hlP' hlR';go_wp2_with fail;have hfin := five_but w8 (w.heap.size + 1) (.bool sF) (.slice aF nF cF) (.slice aP6 lP cP6) (.slice aR6 lR cR6) (.int .i64 (f.B : Int));have hnw := five_nw HD6.out;obtain ⟨Pn, hPn, hPs⟩ := HP6.out.nat;obtain ⟨Rn, hRn, hRs⟩ := HR6.out.nat;have hf1 := H1.out.fr hfin hnw;have hf2 := H2.out.fr hfin hnw (fun hl => H2.out.not_fact HD6.out hl);have hf3 := H3.out.fr hfin hnw (fun hl => H3.out.not_fact HD6.out hl);rw [hPn] at hf2;rw [hRn] at hf3;have hW8 := ButS.below H6.out hfin H6.out.size (fun g e => e ▸ (by omega));refine ret_fact2 (B := w.heap.size + 1) (x0 := .bool sF) (x1 := .slice aF nF cF) (x2 := .slice aP6 lP cP6) (x3 := .slice aR6 lR cR6) (x4 := .int .i64 (f.B : Int)) (y := .int .i64 0) rfl rfl rfl rfl (five_heap HD6.out _ _ _ _ _) ?_)
 exact ⟨_, ⟨f.N, Pn, Rn, f.B⟩, rfl, ⟨sF, aF, nF, cF, _, _, rfl, hf1, hf2, hf3⟩, ⟨rfl, rfl, by rw [HX.out]; exact hPs, hRs⟩, hW8⟩
end Go.Proofs.YtblebpmlkpobnaaGreat
