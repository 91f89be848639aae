/-
  The reference of factor: Merge, what its regions need.
  The reference of factor: Merge.
-/
import Derived.Test.YtblebpmlkpobnaaGreatFH1
import Derived.Test.YtblebpmlkpobnaaGreatFZV
import Derived.Test.YtblebpmlkpobnaaGreatFZW
import Derived.Test.YtblebpmlkpobnaaGreatFR
set_option linter.unusedSimpArgs false
set_option linter.unusedVariables false
set_option maxHeartbeats 8000000
namespace Go.Proofs.YtblebpmlkpobnaaGreat
theorem merge_tidy {f g : Fn} {o : List Nat} {t : Fn} (ht : TidyTo ⟨f.N, pows f.N (o.filter fun x => decide (x ∈ knownN f g)), pows f.N (o.filter fun x => !decide (x ∈ knownN f g)), max f.B g.B⟩ t) : MergeTo f g o t := by
 obtain ⟨h1, h2, h3, h4⟩ := ht
 dsimp only at h1 h2 h3 h4
 have hf : ∀ (l : List Nat) (p : Nat → Bool), (pows f.N l).filter (fun q => p q.1) = pows f.N (l.filter p) := fun l p => by
  unfold pows
  rw [List.filter_map]; rfl
 rw [hf _ (fun x => sml (max f.B g.B) x), List.filter_filter] at h3
 rw [hf _ (fun x => !sml (max f.B g.B) x), List.filter_filter] at h4
 refine ⟨h1, h2, ⟨h3.1.trans ?_, h3.2⟩, ?_⟩
 ·unfold pows
  rw [← List.map_append]
  refine List.Perm.map _ ?_
  clear h1 h2 h3 h4 hf
  induction o with
  | nil => exact List.Perm.refl _
  | cons x o ih =>
    unfold knw at ih ⊢
    by_cases hk : x ∈ knownN f g
    ·simp [hk]
     exact (by simpa using ih)
    ·by_cases hs : sml (max f.B g.B) x = true
     ·simp [hk, hs]
      refine (List.perm_middle).trans (List.Perm.cons _ ?_)
      exact (by simpa using ih)
     ·simp [hk, hs]
      exact (by simpa using ih)
 ·have : (fun x => (!sml (max f.B g.B) x) && !decide (x ∈ knownN f g)) = fun x => !knw f g x := by
   funext x
   unfold knw
   cases decide (x ∈ knownN f g) <;> cases sml (max f.B g.B) x <;> rfl
  rw [this] at h4
  exact h4
end Go.Proofs.YtblebpmlkpobnaaGreat
namespace Go.Proofs.YtblebpmlkpobnaaGreat
open Go.RowKit
attribute [local go_sem ↓] Go.wp_at_zero Go.wp_at_succ
def kmP (f g : Fn) (o : List Nat) (i : Nat) : List (Nat × Nat) := pows f.N ((o.take i).filter fun x => decide (x ∈ knownN f g))
def kmR (f g : Fn) (o : List Nat) (i : Nat) : List (Nat × Nat) := pows f.N ((o.take i).filter fun x => !decide (x ∈ knownN f g))
theorem km_yes {f g : Fn} {o : List Nat} {i : Nat} (hi : i < o.length) (h : o.getD i 0 ∈ knownN f g) : kmP f g o (i + 1) = kmP f g o i ++ [(o.getD i 0, mlt (o.getD i 0) f.N)] ∧ kmR f g o (i + 1) = kmR f g o i := by
 unfold kmP kmR
 rw [List.take_succ_eq_append_getElem hi, List.filter_append, List.filter_append]
 have e : o.getD i 0 = o[i] := by rw [List.getD_eq_getElem?_getD, List.getElem?_eq_getElem hi]; rfl
 rw [e] at h ⊢
 constructor <;> simp [h, pows]
theorem km_no {f g : Fn} {o : List Nat} {i : Nat} (hi : i < o.length) (h : ¬ o.getD i 0 ∈ knownN f g) : kmP f g o (i + 1) = kmP f g o i ∧ kmR f g o (i + 1) = kmR f g o i ++ [(o.getD i 0, mlt (o.getD i 0) f.N)] := by
 unfold kmP kmR
 rw [List.take_succ_eq_append_getElem hi, List.filter_append, List.filter_append]
 have e : o.getD i 0 = o[i] := by rw [List.getD_eq_getElem?_getD, List.getElem?_eq_getElem hi]; rfl
 rw [e] at h ⊢
 constructor <;> simp [h, pows]
theorem km_len (f g : Fn) (o : List Nat) (i : Nat) : (kmP f g o i).length ≤ o.length ∧ (kmR f g o i).length ≤ o.length := by
 unfold kmP kmR pows
 have h : (o.take i).length ≤ o.length := by rw [List.length_take]; omega
 rw [List.length_map, List.length_map]
 exact ⟨Nat.le_trans (List.length_filter_le _ _) h, Nat.le_trans (List.length_filter_le _ _) h⟩
def RMg (f g : Fn) (e : Ending) (w' : World) : Prop := (f.N ≠ g.N ∧ ∃ v, e = .returned (.tuple #[v, .int .i64 1]) ∧ Fx w' v f0) ∨
 (f.N = g.N ∧ ∃ o, CB (allN f g) o ∧ (((∀ p ∈ knownN f g, p ∈ o) ∧ ∃ v c, e = .returned (.tuple #[v, .int .i64 0]) ∧ Fx w' v (zF c) ∧ MergeTo f g o c) ∨ (¬ (∀ p ∈ knownN f g, p ∈ o) ∧ ∃ v, e = .returned (.tuple #[v, .int .i64 50]) ∧ Fx w' v f0)))
set_option maxRecDepth 100000 in
theorem rmerge_any (va vb : Value) (f g : Fn) (w : World) (ha : Fx w va (zF f)) (hb : Fx w vb (zF g)) (hf : RightN f) (hg : RightN g) (hm : Md f.N) (hmg : Md g.N) :
  Calls Tryz.prog 30 #[va, vb] w fun e w' => Below w.heap.size w w' ∧ RMg f g e w' := by
 obtain ⟨W1, s, a, n, c, aP, cP, aR, cR, rfl, hW1, b1, hs1, hF⟩ := boxN w ha
 obtain ⟨W2, s2, a2, n2, c2, aP2, cP2, aR2, cR2, rfl, hW2, b2, hs2, hG⟩ := boxN W1 (hb.up b1)
 clear ha hb
 have hLen := hf.len hm
 have hLeng := hg.len hmg
 have hAP : (allN f g).prod ≤ f.N * g.N * (f.N * g.N) := by
  unfold allN
  rw [List.prod_append_nat, List.prod_append_nat, List.prod_append_nat]
  exact Nat.mul_le_mul (Nat.mul_le_mul hf.rprod hg.rprod) (Nat.mul_le_mul hf.pprod hg.pprod)
 have hAM : Mdst (allN f g).prod := (Md.prod4 hm hmg hm hmg).mono hAP
 have hperm : (knownN f g ++ ks f.R ++ ks g.R).Perm (allN f g) := by
  unfold allN knownN
  rw [List.append_assoc]
  exact List.perm_append_comm
 have hBM : Mdst (knownN f g ++ ks f.R ++ ks g.R).prod := by rw [hperm.prod_nat]; exact hAM
 have hA2 : ∀ x ∈ knownN f g ++ ks f.R ++ ks g.R, 2 ≤ x := fun x hx => by
  unfold knownN at hx
  rcases List.mem_append.1 hx with hx | hx
  ·rcases List.mem_append.1 hx with hx | hx
   ·rcases List.mem_append.1 hx with hx | hx
    ·exact hf.incP.big hx
    ·exact hg.incP.big hx
   ·exact hf.incR.big hx
  ·exact hg.incR.big hx
 have hKs : ∀ x ∈ knownN f g, sz (x : Int) ≤ 4096 := fun x hx => by
  unfold knownN at hx
  rcases List.mem_append.1 hx with hx | hx
  ·exact hf.szk hm (by rw [ks_append]; exact List.mem_append_left _ hx)
  ·exact hg.szk hmg (by rw [ks_append]; exact List.mem_append_left _ hx)
 have hKL : (knownN f g).length ≤ 131072 := by unfold knownN; simp only [List.length_append, ks_len]; omega
 have hBB : max f.B g.B ≤ 65536 := Nat.max_le.2 ⟨hf.b, hg.b⟩
 have hn1 := hf.n1
 have HPM := Lib.hid hperm
 have HBM := Lib.hid hBM
 have HA2 := Lib.hid hA2
 have HKS := Lib.hid hKs
 have HM := Lib.hid hm
 have HMG := Lib.hid hmg
 clear hAP hAM hperm hBM hA2 hKs hf hg hm hmg
 go_enter Tryz.func30, Tryz.ntmps30
 go_upto_region 1 with fail
 rw [← hW1]
 rw [show (W1.alloc (.cells #[.bool s2, .slice a2 n2 c2, .slice aP2 g.P.length cP2, .slice aR2 g.R.length cR2, .int .i64 (g.B : Int)] 36)) = W2 from hW2.symm]
 rw [hs1] at hG hs2
 have hD := heap_alloc_new W2 (.cells #[.bool false, .slice none 0 0, .slice none 0 0, .slice none 0 0, .int .i64 0] 36)
 rw [hs2] at hD
 have hF3 := (hF.up b2).alloc (.cells #[.bool false, .slice none 0 0, .slice none 0 0, .slice none 0 0, .int .i64 0] 36)
 have hG3 := hG.alloc (.cells #[.bool false, .slice none 0 0, .slice none 0 0, .slice none 0 0, .int .i64 0] 36)
 have hbl := Bl.alloc (Bl.up b1 b2) (.cells #[.bool false, .slice none 0 0, .slice none 0 0, .slice none 0 0, .int .i64 0] 36)
 have hsz : (W2.alloc (.cells #[.bool false, .slice none 0 0, .slice none 0 0, .slice none 0 0, .int .i64 0] 36)).heap.size = w.heap.size + 3 := by rw [World.size_alloc, hs2]
 clear hW1 hW2 hs1 hs2 b1 b2 hF hG
 generalize W2.alloc (.cells #[.bool false, .slice none 0 0, .slice none 0 0, .slice none 0 0, .int .i64 0] 36) = W at *
 have HBL := Lib.hid hbl
 have HSZ := Lib.hid hsz
 obtain ⟨p0, p1, p2, p3, p4, hN1, -, -⟩ := hF3.cellsN
 obtain ⟨q0, q1, q2, q3, q4, hN2, -, -⟩ := hG3.cellsN
 have HF := Lib.hid hF3
 have HG := Lib.hid hG3
 have HD := Lib.hid hD
 clear hF3 hG3 hD hbl hsz
 go_wp2_with fail
 refine (rcmp_any _ _ (f.N : Int) (g.N : Int) W hN1 hN2 (Nat.le_trans (HM.out.sz (Nat.le_refl _)) (by decide)) (Nat.le_trans (HMG.out.sz (Nat.le_refl _)) (by decide))).mono ?_
 rintro e w1 ⟨rfl, hb1⟩
 by_cases hN : f.N = g.N
 case neg =>
  have hd : (cmpI (f.N : Int) (g.N : Int) != 0) = true := by rw [bne_iff_ne, ne_eq, cmpI_zero]; omega
  generalize cmpI (f.N : Int) (g.N : Int) = cc at *
  have hHD := (hb1.block (w.heap.size + 1 + 1) (Array.getElem?_eq_some_iff.1 HD.out).1).trans HD.out
  have hBw := Bl.up HBL.out hb1
  have HNE := Lib.hid hN
  clear p0 p1 p2 p3 p4 q0 q1 q2 q3 q4 hN1 hN2 hb1 hN
  (have HHD := Lib.hid hHD
   have d0 : (w1).cell? ⟨w.heap.size + 1 + 1, 0, none⟩ = some (.bool false) := by simp [World.cell?, hHD]
   have d1 : (w1).cell? ⟨w.heap.size + 1 + 1, 1, none⟩ = some (.slice none 0 0) := by simp [World.cell?, hHD]
   have d2 : (w1).cell? ⟨w.heap.size + 1 + 1, 2, none⟩ = some (.slice none 0 0) := by simp [World.cell?, hHD]
   have d3 : (w1).cell? ⟨w.heap.size + 1 + 1, 3, none⟩ = some (.slice none 0 0) := by simp [World.cell?, hHD]
   have d4 : (w1).cell? ⟨w.heap.size + 1 + 1, 4, none⟩ = some (.int .i64 0) := by simp [World.cell?, hHD]
   have f0 : (w1).frozen? ⟨w.heap.size + 1 + 1, 0, none⟩ = false := by simp [World.frozen?, hHD]
   have f1 : (w1).frozen? ⟨w.heap.size + 1 + 1, 1, none⟩ = false := by simp [World.frozen?, hHD]
   have f2 : (w1).frozen? ⟨w.heap.size + 1 + 1, 2, none⟩ = false := by simp [World.frozen?, hHD]
   have f3 : (w1).frozen? ⟨w.heap.size + 1 + 1, 3, none⟩ = false := by simp [World.frozen?, hHD]
   have f4 : (w1).frozen? ⟨w.heap.size + 1 + 1, 4, none⟩ = false := by simp [World.frozen?, hHD]
   clear hHD
   go_wp2_with fail
   have hfin : ButS (fun k => k = w.heap.size + 1 + 1) (w1) (((((((w1)).setCell ⟨w.heap.size + 1 + 1, 0, none⟩ (.bool false)).setCell ⟨w.heap.size + 1 + 1, 1, none⟩ (.slice none 0 0)).setCell ⟨w.heap.size + 1 + 1, 2, none⟩ (.slice none 0 0)).setCell ⟨w.heap.size + 1 + 1, 3, none⟩ (.slice none 0 0)).setCell ⟨w.heap.size + 1 + 1, 4, none⟩ (.int .i64 0)) :=
    ((((ButS.set (w1) _ 0 _).trans (ButS.set _ _ 1 _)).trans (ButS.set _ _ 2 _)).trans (ButS.set _ _ 3 _)).trans (ButS.set _ _ 4 _)
   refine ret_fact2 (B := w.heap.size + 1 + 1) (T := 36) (fr := (0, 0)) (x0 := .bool false) (x1 := .slice none 0 0) (x2 := .slice none 0 0) (x3 := .slice none 0 0) (x4 := .int .i64 0) (y := .int .i64 1) rfl rfl rfl rfl (by simp [World.setCell, Array.getElem?_modify, HHD.out]) ?_)
  exact ⟨ButS.below hBw hfin hBw.size (fun g e => by omega), .inl ⟨HNE.out, _, rfl, fx_zero _⟩⟩
 have hd : (cmpI (f.N : Int) (g.N : Int) != 0) = false := by rw [bne_eq_false_iff_eq, cmpI_zero, hN]
 generalize cmpI (f.N : Int) (g.N : Int) = cc at *
 have HNN := Lib.hid hN
 clear p0 p1 p2 p3 p4 q0 q1 q2 q3 q4 hN1 hN2 hN
 obtain ⟨p0, p1, p2, p3, p4, -, hP1, hR1⟩ := (HF.out.up hb1).cellsN
 obtain ⟨q0, q1, q2, q3, q4, -, hP2, hR2⟩ := (HG.out.up hb1).cellsN
 have HP1 := Lib.hid hP1
 have HP2 := Lib.hid hP2
 have HR1 := Lib.hid hR1
 have HR2 := Lib.hid hR2
 have HB1 := Lib.hid hb1
 have hz : (zP f.P).length = f.P.length ∧ (zP f.R).length = f.R.length ∧ (zP g.P).length = g.P.length ∧ (zP g.R).length = g.R.length := ⟨zP_len _, zP_len _, zP_len _, zP_len _⟩
 have HZ := Lib.hid hz
 clear hb1 hP1 hP2 hR1 hR2 hz
 go_upto_region 3 with fail
 refine wp_region_T (by kernel_rfl) [6] (S := fun w' => w'.cell? ⟨w.heap.size, 2, none⟩ = some (.slice aP f.P.length cP) ∧ w'.cell? ⟨w.heap.size + 1, 2, none⟩ = some (.slice aP2 g.P.length cP2)) ⟨p2, q2⟩ (fun hHeld => ?_)
 refine pL 0 rfl ?_
 refine kL 1 rfl ?_
 refine pL 3 rfl ?_
 refine kL 4 rfl ?_
 (refine oL 2 rfl fun K hK => tL ?_; go_simp)
 refine (rnumbers_any _ (zP f.P) _ HP1.out.drew (by have := HZ.out; omega)).mono ?_
 rintro e w2 ⟨v1, rfl, hv1, hb2⟩
 replace p2 := keepc hb2 (cellD p2)
 replace q2 := keepc hb2 (cellD q2)
 replace p3 := keepc hb2 (cellD p3)
 replace q3 := keepc hb2 (cellD q3)
 replace HP2 := Lib.hid (HP2.out.drew.up hb2)
 replace HR1 := Lib.hid (HR1.out.drew.up hb2)
 replace HR2 := Lib.hid (HR2.out.drew.up hb2)
 have hbT := Bl.up (Bl.drew (Below.refl w1.heap.size w1)) hb2
 have hv1 : So eI w2 w1.heap.size v1 ((zP f.P).map Prod.fst) := hv1
 clear hb2
 (go_wp2_with fail; clear hHeld; have hHeld : (fun w' : World => w'.cell? ⟨w.heap.size, 2, none⟩ = some (.slice aP f.P.length cP) ∧ w'.cell? ⟨w.heap.size + 1, 2, none⟩ = some (.slice aP2 g.P.length cP2)) (w2) := ⟨p2, q2⟩; refine hK.out _ _ (fun _ => hHeld) ?_; clear hK; refine tL ?_)
 (refine oL 5 rfl fun K hK => tL ?_; go_simp)
 refine (rnumbers_any _ (zP g.P) _ HP2.out (by have := HZ.out; omega)).mono ?_
 rintro e w3 ⟨v2, rfl, hv2, hb2⟩
 replace p2 := keepc hb2 p2
 replace q2 := keepc hb2 q2
 replace p3 := keepc hb2 p3
 replace q3 := keepc hb2 q3
 replace HR1 := Lib.hid (HR1.out.up hb2)
 replace HR2 := Lib.hid (HR2.out.up hb2)
 have hdis : ∀ g, v1.ownBlock = some g → v2.ownBlock ≠ some g := fun g h1 h2 => by have := (hv1.lt g h1).2; have := (hv2.lt g h2).1; omega
 replace hv1 := hv1.up hb2
 replace hbT := Bl.up hbT hb2
 clear hb2
 (go_wp2_with fail; clear hHeld; have hHeld : (fun w' : World => w'.cell? ⟨w.heap.size, 2, none⟩ = some (.slice aP f.P.length cP) ∧ w'.cell? ⟨w.heap.size + 1, 2, none⟩ = some (.slice aP2 g.P.length cP2)) (w3) := ⟨p2, q2⟩; refine hK.out _ _ (fun _ => hHeld) ?_; clear hK; refine tL ?_)
 refine wpAnyT_one (i := 6) (by as_aux_lemma => kernel_rfl) rfl (fun K hK => ?_)
 refine step_apSr (E := eI) (by rfl) (.tmp 22) (.tmp 25) _ (by rfl) Tryz.underlying63 w1.heap.size v1 v2 ((zP f.P).map Prod.fst) ((zP g.P).map Prod.fst) (by rfl) hv1 hbT.size (by rfl) hv2.sr (by rw [List.length_map, List.length_map]; have := HZ.out; omega) ?_
 intro vK w4 h1 h3 h5 _
 have hb4 := ButS.below hbT h3 hbT.size (fun g hg => (hv1.lt g hg).1)
 have hnw := hv1.nw
 have hge : ∀ g, v1.ownBlock = some g → w1.heap.size ≤ g := fun g hg => (hv1.lt g hg).1
 have hKN : (zP f.P).map Prod.fst ++ (zP g.P).map Prod.fst = zI (knownN f g) := by rw [zP_fst, zP_fst, ← zI_append]; rfl
 rw [hKN] at h1
 obtain ⟨aK, cK, rfl, hcK⟩ := h1.slice
 have HK := Lib.hid h1
 have HB4 := Lib.hid hb4
 clear hbT hv1 hv2 hdis h1 h3 h5 hnw hge hb4 hKN hcK HP1 HP2 HR1 HR2 p0 p1 p2 p3 p4 q0 q1 q2 q3 q4
 refine hK.out _ _ (fun h => absurd h (by decide)) ?_
 clear hK hHeld
 refine tL ?_
 refine pL 7 rfl ?_
 refine wpAnyT_done (by kernel_rfl) ?_ _
 replace HB4 := Lib.hid (Bl.up HB1.out HB4.out)
 clear HB1
 obtain ⟨p0, p1, p2, p3, p4, hN1, -, hR1⟩ := (HF.out.up HB4.out).cellsN
 obtain ⟨q0, q1, q2, q3, q4, -, -, hR2⟩ := (HG.out.up HB4.out).cellsN
 have HR1 := Lib.hid hR1
 have HR2 := Lib.hid hR2
 have HN1 := Lib.hid hN1
 obtain ⟨nK, hnK⟩ : ∃ nK, (zI (knownN f g)).length = nK := ⟨_, rfl⟩
 have hKl : (knownN f g).length = nK := by rw [← zI_len]; exact hnK
 rw [hnK] at HK ⊢
 rw [hKl] at hKL
 have HNK := Lib.hid hnK
 have HKL := Lib.hid hKl
 clear hR1 hR2 hN1 hnK hKl
 go_upto_region 4 with fail
 refine wp_region_T (by kernel_rfl) [] (S := fun w' => w'.cell? ⟨w.heap.size, 3, none⟩ = some (.slice aR f.R.length cR) ∧ w'.cell? ⟨w.heap.size + 1, 3, none⟩ = some (.slice aR2 g.R.length cR2)) ⟨p3, q3⟩ (fun hHeld => ?_)
 (refine pL 1 rfl ?_; refine pL 3 rfl ?_)
 refine kL 4 rfl ?_
 refine pL 7 rfl ?_
 refine kL 8 rfl ?_
 (refine oL 0 rfl fun K hK => tL ?_; go_simp)
 have hbT : Below w4.heap.size w4 (w4.alloc (.cells #[] 33)).drew := Bl.drew (below_new w4 _)
 have hv0 : So eI (w4.alloc (.cells #[] 33)).drew w4.heap.size (.slice (some ⟨w4.heap.size, 0, none⟩) 0 0) [] := (So.lit0 eI w4 (Nat.le_refl _)).drew
 (go_wp2_with fail; clear hHeld; have hHeld : (fun w' : World => w'.cell? ⟨w.heap.size, 3, none⟩ = some (.slice aR f.R.length cR) ∧ w'.cell? ⟨w.heap.size + 1, 3, none⟩ = some (.slice aR2 g.R.length cR2)) ((w4.alloc (.cells #[] 33)).drew) := ⟨keepc hbT p3, keepc hbT q3⟩; refine hK.out _ _ (fun _ => hHeld) ?_; clear hK; refine tL ?_)
 refine wpAnyT_one (i := 2) (by as_aux_lemma => kernel_rfl) rfl (fun K hK => ?_)
 refine step_apSr (E := eI) (by rfl) (.tmp 27) (.tmp 28) _ (by rfl) Tryz.underlying63 w4.heap.size (.slice (some ⟨w4.heap.size, 0, none⟩) 0 0) (.slice aK nK cK) [] (zI (knownN f g)) (by rfl) hv0 hbT.size (by rfl) (HK.out.sr.up hbT) (by rw [HNK.out]; simp; omega) ?_
 intro vA wA h1 h3 _ _
 replace hbT := ButS.below hbT h3 hbT.size (fun g hg => (hv0.lt g hg).1)
 replace h1 : So eI wA w4.heap.size vA (zI (knownN f g)) := h1
 have HA := Lib.hid h1
 clear h1 h3 hv0
 refine hK.out _ _ (fun _ => ⟨keepc hbT p3, keepc hbT q3⟩) ?_
 clear hK hHeld
 have hHeld : (fun w' : World => w'.cell? ⟨w.heap.size, 3, none⟩ = some (.slice aR f.R.length cR) ∧ w'.cell? ⟨w.heap.size + 1, 3, none⟩ = some (.slice aR2 g.R.length cR2)) wA := ⟨keepc hbT p3, keepc hbT q3⟩
 refine tL ?_
 (refine oL 5 rfl fun K hK => tL ?_; go_simp)
 refine (rnumbers_any _ (zP f.R) wA (HR1.out.up hbT) (by have := HZ.out; omega)).mono ?_
 rintro e wB ⟨v1, rfl, hv1, hb2⟩
 have hvA := HA.out.up hb2
 replace hbT := Bl.up hbT hb2
 have hge := HA.out.lt
 clear hb2
 (go_wp2_with fail; clear hHeld; have hHeld : (fun w' : World => w'.cell? ⟨w.heap.size, 3, none⟩ = some (.slice aR f.R.length cR) ∧ w'.cell? ⟨w.heap.size + 1, 3, none⟩ = some (.slice aR2 g.R.length cR2)) (wB) := ⟨keepc hbT p3, keepc hbT q3⟩; refine hK.out _ _ (fun _ => hHeld) ?_; clear hK; refine tL ?_)
 refine wpAnyT_one (i := 6) (by as_aux_lemma => kernel_rfl) rfl (fun K hK => ?_)
 refine step_apSr (E := eI) (by rfl) (.tmp 29) (.tmp 32) _ (by rfl) Tryz.underlying63 w4.heap.size vA v1 (zI (knownN f g)) ((zP f.R).map Prod.fst) (by rfl) hvA hbT.size (by rfl) hv1.sr (by rw [HNK.out, List.length_map]; have := HZ.out; omega) ?_
 intro vB wC h1 h3 _ _
 replace hbT := ButS.below hbT h3 hbT.size (fun g hg => (hvA.lt g hg).1)
 have h1 : So eI wC w4.heap.size vB (zI (knownN f g ++ ks f.R)) := by rw [zI_append, ← zP_fst]; exact h1
 have HB := Lib.hid h1
 clear h1 h3 hvA hv1 hge HA
 refine hK.out _ _ (fun _ => ⟨keepc hbT p3, keepc hbT q3⟩) ?_
 clear hK hHeld
 have hHeld : (fun w' : World => w'.cell? ⟨w.heap.size, 3, none⟩ = some (.slice aR f.R.length cR) ∧ w'.cell? ⟨w.heap.size + 1, 3, none⟩ = some (.slice aR2 g.R.length cR2)) wC := ⟨keepc hbT p3, keepc hbT q3⟩
 refine tL ?_
 (refine oL 9 rfl fun K hK => tL ?_; go_simp)
 refine (rnumbers_any _ (zP g.R) wC (HR2.out.up hbT) (by have := HZ.out; omega)).mono ?_
 rintro e wD ⟨v2, rfl, hv2, hb2⟩
 have hvB := HB.out.up hb2
 replace hbT := Bl.up hbT hb2
 clear hb2
 (go_wp2_with fail; clear hHeld; have hHeld : (fun w' : World => w'.cell? ⟨w.heap.size, 3, none⟩ = some (.slice aR f.R.length cR) ∧ w'.cell? ⟨w.heap.size + 1, 3, none⟩ = some (.slice aR2 g.R.length cR2)) (wD) := ⟨keepc hbT p3, keepc hbT q3⟩; refine hK.out _ _ (fun _ => hHeld) ?_; clear hK; refine tL ?_)
 refine wpAnyT_one (i := 10) (by as_aux_lemma => kernel_rfl) rfl (fun K hK => ?_)
 have hlB : (zI (knownN f g ++ ks f.R)).length ≤ 300000 := by rw [zI_len, List.length_append, HKL.out, ks_len]; omega
 refine step_apSr (E := eI) (by rfl) (.tmp 33) (.tmp 36) _ (by rfl) Tryz.underlying63 w4.heap.size vB v2 (zI (knownN f g ++ ks f.R)) ((zP g.R).map Prod.fst) (by rfl) hvB hbT.size (by rfl) hv2.sr (by rw [List.length_map]; have := HZ.out; omega) ?_
 intro vC wE h1 h3 _ _
 replace hbT := ButS.below hbT h3 hbT.size (fun g hg => (hvB.lt g hg).1)
 have h1 : So eI wE w4.heap.size vC (zI (knownN f g ++ ks f.R ++ ks g.R)) := by rw [zI_append, ← zP_fst]; exact h1
 have HC := Lib.hid h1
 clear h1 h3 hvB hv2 HB hlB
 refine hK.out _ _ (fun _ => ⟨keepc hbT p3, keepc hbT q3⟩) ?_
 clear hK hHeld
 have hHeld : (fun w' : World => w'.cell? ⟨w.heap.size, 3, none⟩ = some (.slice aR f.R.length cR) ∧ w'.cell? ⟨w.heap.size + 1, 3, none⟩ = some (.slice aR2 g.R.length cR2)) wE := ⟨keepc hbT p3, keepc hbT q3⟩
 refine tL ?_
 (refine oL 11 rfl fun K hK => tL ?_; go_simp)
 refine (rbase_any _ (knownN f g ++ ks f.R ++ ks g.R) wE HC.out.sr HA2.out HBM.out).mono ?_
 rintro e w5 ⟨vO, o, rfl, hO, hcb, hol, hop, hb2⟩
 replace hbT := Bl.up hbT hb2
 have hcb2 : CB (allN f g) o := hcb.same (fun x hx => .mem (HPM.out.mem_iff.1 hx)) (fun x hx => .mem (HPM.out.mem_iff.2 hx))
 have hops : ∀ p ∈ o, sz ((p : Nat) : Int) ≤ 1099511627776 := fun p hp => sz_prod (hop p hp) HBM.out
 have hop2 : ∀ p ∈ o, 2 ≤ p := hcb.cob.1
 have HO := Lib.hid hO
 have HCB := Lib.hid hcb2
 have HOS := Lib.hid hops
 have HO2 := Lib.hid hop2
 clear hb2 hO hcb hcb2 hop hops hop2 HC
 (go_wp2_with fail; clear hHeld; have hHeld : (fun w' : World => w'.cell? ⟨w.heap.size, 3, none⟩ = some (.slice aR f.R.length cR) ∧ w'.cell? ⟨w.heap.size + 1, 3, none⟩ = some (.slice aR2 g.R.length cR2)) (w5) := ⟨keepc hbT p3, keepc hbT q3⟩; refine hK.out _ _ (fun _ => hHeld) ?_; clear hK; refine tL ?_)
 refine pL 12 rfl ?_
 refine wpAnyT_done (by kernel_rfl) ?_ _
 clear hHeld p0 p1 p2 p3 p4 q0 q1 q2 q3 q4 HR1 HR2
 replace HK := Lib.hid (HK.out.sr.up hbT)
 replace HN1 := Lib.hid (HN1.out.up hbT)
 replace HB4 := Lib.hid (Bl.up HB4.out hbT)
 clear hbT
 obtain ⟨aO, cO, rfl, -⟩ := id HO.out
 obtain ⟨nO, hnO⟩ : ∃ nO, (zI o).length = nO := ⟨_, rfl⟩
 have hOl : o.length = nO := by rw [← zI_len]; exact hnO
 rw [hnO] at HO ⊢
 rw [hOl] at hol
 have HNO := Lib.hid hnO
 have HOL := Lib.hid hOl
 clear hnO hOl
 go_wp2_with fail
 go_loopw [8] (fun s8 wr => ∃ i : Nat, s8 = .int .i64 (i : Int) ∧ i ≤ nK ∧ (∀ j, j < i → (knownN f g).getD j 0 ∈ o) ∧ Below w5.heap.size w5 wr)
  (fun s8 _ => nK - (intOf s8).toNat)
 case atStart => exact ⟨0, rfl, Nat.zero_le _, fun j hj => absurd hj (Nat.not_lt_zero _), Below.refl _ _⟩
 case round =>
  obtain ⟨i, rfl, hi, hin, hbr⟩ := hrel
  have HIN := Lib.hid hin
  have HBR := Lib.hid hbr
  by_cases hlt : i < nK
  ·have i0 : (0 : Int) ≤ (i : Int) := by omega
   have i1 : (i : Int) < (nK : Int) := by omega
   have hil : i < (knownN f g).length := by rw [HKL.out]; exact hlt
   obtain ⟨ba, offa, rfl, hba, hla⟩ := (HK.out.up hbr).at (i := i) (by rw [HNK.out]; exact hlt)
   obtain ⟨s1, a1, n1, k1, x0, x1, hx⟩ := hla.int (i := i) (by rw [HNK.out]; exact hlt)
   rw [zI_getD] at hx
   have hmem : (knownN f g).getD i 0 ∈ knownN f g := by rw [List.getD_eq_getElem?_getD, List.getElem?_eq_getElem hil]; exact List.getElem_mem _
   have hsx := HKS.out _ hmem
   obtain ⟨x, hxe⟩ : ∃ x, (knownN f g).getD i 0 = x := ⟨_, rfl⟩
   rw [hxe] at hx hmem hsx
   have HXE := Lib.hid hxe
   have HX := Lib.hid hx
   have HMEM := Lib.hid hmem
   have HOr := HO.out.up hbr
   have HSX := Lib.hid hsx
   clear hin hbr hla hx hmem hsx hxe hil hba
   go_wp2_with fail
   refine (rhas_any _ _ (zI o) ((x : Nat) : Int) _ HOr HX.out (fun y hy => by
    unfold zI at hy
    obtain ⟨p, hp, rfl⟩ := List.mem_map.1 hy
    exact HOS.out p hp) (Nat.le_trans HSX.out (by decide)) (by rw [HNO.out]; omega)).mono ?_
   rintro e w6 ⟨rfl, hb6⟩
   rw [show decide (((x : Nat) : Int) ∈ zI o) = decide (x ∈ o) by rw [decide_eq_decide, mem_zI]]
   by_cases hxo : x ∈ o
   ·rw [decide_eq_true hxo]
    have HXO := Lib.hid hxo
    have HB6 := Lib.hid (Bl.up HBR.out hb6)
    clear hb6 hxo x0 x1 HOr
    go_wp2_with fail
    refine ⟨⟨i + 1, by go_num, by omega, fun j hj => ?_, HB6.out⟩, by simp [intOf]; omega⟩
    by_cases e : j = i
    ·rw [e, HXE.out]; exact HXO.out
    ·exact HIN.out j (by omega)
   ·rw [decide_eq_false hxo]
    have HXO := Lib.hid (show ¬ (∀ p ∈ knownN f g, p ∈ o) from fun h => hxo (h x HMEM.out))
    have hBw := Bl.up HBL.out (Bl.up HB4.out (Bl.up HBR.out hb6))
    have hHD := ((Bl.up HB4.out (Bl.up HBR.out hb6)).block (w.heap.size + 1 + 1) (Array.getElem?_eq_some_iff.1 HD.out).1).trans HD.out
    clear hb6 hxo x0 x1 HOr
    (have HHD := Lib.hid hHD
     have d0 : (w6).cell? ⟨w.heap.size + 1 + 1, 0, none⟩ = some (.bool false) := by simp [World.cell?, hHD]
     have d1 : (w6).cell? ⟨w.heap.size + 1 + 1, 1, none⟩ = some (.slice none 0 0) := by simp [World.cell?, hHD]
     have d2 : (w6).cell? ⟨w.heap.size + 1 + 1, 2, none⟩ = some (.slice none 0 0) := by simp [World.cell?, hHD]
     have d3 : (w6).cell? ⟨w.heap.size + 1 + 1, 3, none⟩ = some (.slice none 0 0) := by simp [World.cell?, hHD]
     have d4 : (w6).cell? ⟨w.heap.size + 1 + 1, 4, none⟩ = some (.int .i64 0) := by simp [World.cell?, hHD]
     have f0 : (w6).frozen? ⟨w.heap.size + 1 + 1, 0, none⟩ = false := by simp [World.frozen?, hHD]
     have f1 : (w6).frozen? ⟨w.heap.size + 1 + 1, 1, none⟩ = false := by simp [World.frozen?, hHD]
     have f2 : (w6).frozen? ⟨w.heap.size + 1 + 1, 2, none⟩ = false := by simp [World.frozen?, hHD]
     have f3 : (w6).frozen? ⟨w.heap.size + 1 + 1, 3, none⟩ = false := by simp [World.frozen?, hHD]
     have f4 : (w6).frozen? ⟨w.heap.size + 1 + 1, 4, none⟩ = false := by simp [World.frozen?, hHD]
     clear hHD
     go_wp2_with fail
     have hfin : ButS (fun k => k = w.heap.size + 1 + 1) (w6) (((((((w6)).setCell ⟨w.heap.size + 1 + 1, 0, none⟩ (.bool false)).setCell ⟨w.heap.size + 1 + 1, 1, none⟩ (.slice none 0 0)).setCell ⟨w.heap.size + 1 + 1, 2, none⟩ (.slice none 0 0)).setCell ⟨w.heap.size + 1 + 1, 3, none⟩ (.slice none 0 0)).setCell ⟨w.heap.size + 1 + 1, 4, none⟩ (.int .i64 0)) :=
      ((((ButS.set (w6) _ 0 _).trans (ButS.set _ _ 1 _)).trans (ButS.set _ _ 2 _)).trans (ButS.set _ _ 3 _)).trans (ButS.set _ _ 4 _)
     refine ret_fact2 (B := w.heap.size + 1 + 1) (T := 36) (fr := (0, 0)) (x0 := .bool false) (x1 := .slice none 0 0) (x2 := .slice none 0 0) (x3 := .slice none 0 0) (x4 := .int .i64 0) (y := .int .i64 50) rfl rfl rfl rfl (by simp [World.setCell, Array.getElem?_modify, HHD.out]) ?_)
    exact ⟨ButS.below hBw hfin hBw.size (fun g e => by omega), .inr ⟨HNN.out, o, HCB.out, .inr ⟨HXO.out, _, rfl, fx_zero _⟩⟩⟩
  ·obtain rfl : i = nK := by omega
   have i1 : ¬ (i : Int) < (i : Int) := by omega
   have hall : ∀ p ∈ knownN f g, p ∈ o := fun p hp => by
    obtain ⟨j, hj, e⟩ := List.getElem_of_mem hp
    have := HIN.out j (by rw [← HKL.out]; exact hj)
    rw [List.getD_eq_getElem?_getD, List.getElem?_eq_getElem hj, Option.getD_some, e] at this
    exact this
   have HALL := Lib.hid hall
   have hcm := HF.out.up (Bl.up HB4.out hbr)
   have hcg := HG.out.up (Bl.up HB4.out hbr)
   obtain ⟨p0, p1, p2, p3, p4, hNr, -, -⟩ := hcm.cellsN
   obtain ⟨q0, q1, q2, q3, q4, -, -, -⟩ := hcg.cellsN
   have HNr := Lib.hid hNr
   have HOr := Lib.hid (HO.out.up hbr)
   have HKr := Lib.hid (HK.out.up hbr)
   have HBr := Lib.hid (Bl.up HB4.out hbr)
   have hmx : max (f.B : Int) (g.B : Int) = ((max f.B g.B : Nat) : Int) := by omega
   clear hin hbr hall hlt hi hcm hcg hNr HBR HO HK HN1 HB4 HIN p2 p3 q0 q1 q2 q3
   go_upto_region 11 with fail
   obtain ⟨mx, hmxe⟩ : ∃ mx, max f.B g.B = mx := ⟨_, rfl⟩
   rw [hmxe] at hBB ⊢
   have HMX := Lib.hid hmxe
   have hD9 := heap_alloc_new wr (.cells #[.bool s, .slice a n c, .slice none 0 0, .slice none 0 0, .int .i64 (mx : Int)] 36)
   have hb9 := below_new wr (.cells #[.bool s, .slice a n c, .slice none 0 0, .slice none 0 0, .int .i64 (mx : Int)] 36)
   have hBu0 := BuT.new (b := (mx : Int)) 36 HNr.out (So.nil eP wr 0) (So.nil eP wr 0) (fun g h => by simp [Value.ownBlock] at h)
   have HBU0 := Lib.hid hBu0
   have HB9 := Lib.hid hb9
   clear hD9 hb9 hBu0 hmx hmxe p4 q4
   generalize wr.alloc (.cells #[.bool s, .slice a n c, .slice none 0 0, .slice none 0 0, .int .i64 (mx : Int)] 36) = w7 at *
   have hB96 : wr.heap.size ≤ wr.heap.size := Nat.le_refl _
   generalize hB9e : wr.heap.size = B9 at HBU0 hB96 ⊢
   have HB9E := Lib.hid hB9e
   clear hB9e
   generalize wr = w6 at *
   have HP0 := Lib.hid p0
   have HP1 := Lib.hid p1
   clear p0 p1
   go_wp2_with fail
   go_loopw [10, 11, 12] (fun s10 s11 s12 wq => ∃ (i : Nat) (vP vR : Value), s10 = .int .i64 (i : Int) ∧ i ≤ nO ∧ BuT 36 wq B9 vP vR (f.N : Int) (zP (kmP f g o i)) (zP (kmR f g o i)) (mx : Int) ∧ (∀ g', bset B9 vP vR g' → w6.heap.size ≤ g') ∧ Below w6.heap.size w6 wq)
    (fun s10 _ _ _ => nO - (intOf s10).toNat)
   case atStart =>
    have e1 : zP (kmP f g o 0) = [] := by simp [kmP, pows, zP]
    have e2 : zP (kmR f g o 0) = [] := by simp [kmR, pows, zP]
    refine ⟨0, _, _, rfl, Nat.zero_le _, by rw [e1, e2]; exact HBU0.out, fun g' hg => ?_, HB9.out⟩
    rcases hg with h | h | h
    ·have := HB9E.out; omega
    ·simp [Value.ownBlock] at h
    ·simp [Value.ownBlock] at h
   case round =>
    obtain ⟨i, vP, vR, rfl, hi, hBu, hO', hbr⟩ := hrel
    have HBU := Lib.hid hBu
    have HOW := Lib.hid hO'
    have HBR := Lib.hid hbr
    have p0 := keepc hbr HP0.out
    have p1 := keepc hbr HP1.out
    have hNr := HNr.out.up hbr
    have HNq := Lib.hid hNr
    clear hBu hO' hNr
    by_cases hlt : i < nO
    ·have i0 : (0 : Int) ≤ (i : Int) := by omega
     have i1 : (i : Int) < (nO : Int) := by omega
     have hil : i < o.length := by rw [HOL.out]; exact hlt
     obtain ⟨bo, offo, rfl, hbo, hla⟩ := (HOr.out.up hbr).at (i := i) (by rw [HNO.out]; exact hlt)
     obtain ⟨t1, b1, m1, d1, x0, x1, hx⟩ := hla.int (i := i) (by rw [HNO.out]; exact hlt)
     rw [zI_getD] at hx
     have hmem : o.getD i 0 ∈ o := by rw [List.getD_eq_getElem?_getD, List.getElem?_eq_getElem hil]; exact List.getElem_mem _
     have hsx := HOS.out _ hmem
     have h2x := HO2.out _ hmem
     have hyes := km_yes (f := f) (g := g) hil
     have hno := km_no (f := f) (g := g) hil
     obtain ⟨xp, hxe⟩ : ∃ xp, o.getD i 0 = xp := ⟨_, rfl⟩
     rw [hxe] at hx hsx h2x hyes hno
     have HX := Lib.hid hx
     have HSX := Lib.hid hsx
     have H2X := Lib.hid h2x
     have HYES := Lib.hid hyes
     have HNO2 := Lib.hid hno
     have hszN := Nat.le_trans (HM.out.sz (Nat.le_refl _)) (show 4096 ≤ 1099511627776 by decide)
     have HSN := Lib.hid hszN
     clear hbr hla hx hmem hsx h2x hyes hno hil hxe hszN hbo
     go_upto_region 14 with fail
     refine wp_region_T (by kernel_rfl) [12] (S := fun w' => w'.cell? ⟨w.heap.size, 0, none⟩ = some (.bool s) ∧ w'.cell? ⟨w.heap.size, 1, none⟩ = some (.slice a n c) ∧ w'.cell? ⟨bo, offo + i * 2, none⟩ = some (.bool t1) ∧ w'.cell? ⟨bo, offo + i * 2 + 1, none⟩ = some (.slice b1 m1 d1)) ⟨p0, p1, x0, x1⟩ (fun hHeld => ?_)
     refine pL 0 rfl ?_
     refine kL 1 rfl ?_
     (refine pL 2 rfl ?_; refine pL 3 rfl ?_; refine pL 4 rfl ?_)
     refine kL 5 rfl ?_
     clear hHeld
     (refine wpAnyT_all [(6, some 74), (7, some 67), (8, some 75), (9, some 76), (10, some 12), (11, some 11)] 1 (Fl (knU 6 (((mlt xp f.N : Nat) : Int)) (((cof xp f.N : Nat) : Int))) 10 wr) rfl (by kernel_rfl) (by decide) (by kernel_rfl) (by kernel_rfl) (by kernel_rfl) (fun bb xx wz h => (fun hb' => ⟨keepc hb' p0, keepc hb' p1, keepc hb' x0, keepc hb' x1⟩) h.bl) (fun xx => Fl.start _ _ _ _) ?_ ?_
      ·intro i hi
       have hi' : i = 6 ∨ i = 7 ∨ i = 8 ∨ i = 9 ∨ i = 10 ∨ i = 11 := by simpa using hi
       clear hi
       rcases hi' with rfl | rfl | rfl | rfl | rfl | rfl
       ·refine ⟨_, rfl, fun bb xx wz hJ hbb hw K hK => ?_⟩
        clear hbb hw
        simp only [actsD, List.foldl_cons, List.foldl_nil, Act.put, List.setIfInBounds_toArray, List.set_cons_zero, List.set_cons_succ] at hK ⊢
        go_simp
        refine (rtimes2_any _ _ f.N xp wz (HNq.out.up hJ.bl) (HX.out.up hJ.bl) hn1 H2X.out HSN.out HSX.out).mono ?_
        rintro e w2 ⟨v, rfl, hv, hb⟩
        exact hK.out _ _ (hJ.call (i := 6) (by decide) (Z := fun _ => False) (knu0 hv) (fun k hk => hk.elim) hb)
       ·refine ⟨_, rfl, fun bb xx wz hJ hbb hw K hK => ?_⟩
        have hp : ∃ u, xx 6 = .tuple #[.int .i64 (((mlt xp f.N : Nat) : Int)), u] ∧ It wz u (((cof xp f.N : Nat) : Int)) := by
         obtain ⟨Z, hR, -, -⟩ := hJ.pr 6 (by decide) (hw 6 (by kernel_rfl))
         exact hR.1 (.inl rfl)
        have hh := Classical.choose_spec hp
        generalize Classical.choose hp = u at hh
        have hxu := hh.1
        have hu := hh.2
        clear hbb hw hp hh
        simp only [actsD, List.foldl_cons, List.foldl_nil, Act.put, List.setIfInBounds_toArray, List.set_cons_zero, List.set_cons_succ, hxu] at hK ⊢
        go_simp
        exact hK.out _ _ (hJ.call (i := 7) (by decide) (Z := fun _ => False) (knu1 hu) (fun k hk => hk.elim) (Below.refl _ _))
       ·refine ⟨_, rfl, fun bb xx wz hJ hbb hw K hK => ?_⟩
        have hp : ∃ u, xx 7 = .tuple #[.int .i64 (((mlt xp f.N : Nat) : Int)), u] ∧ It wz u (((cof xp f.N : Nat) : Int)) := by
         obtain ⟨Z, hR, -, -⟩ := hJ.pr 7 (by decide) (hw 7 (by kernel_rfl))
         exact hR.1 (.inr rfl)
        have hh := Classical.choose_spec hp
        generalize Classical.choose hp = u at hh
        have hxu := hh.1
        have hu := hh.2
        clear hbb hw hp hh
        simp only [actsD, List.foldl_cons, List.foldl_nil, Act.put, List.setIfInBounds_toArray, List.set_cons_zero, List.set_cons_succ, hxu] at hK ⊢
        go_simp
        exact hK.out _ _ (hJ.call (i := 8) (by decide) (Z := fun _ => False) (knu2) (fun k hk => hk.elim) (Below.refl _ _))
       ·refine ⟨_, rfl, fun bb xx wz hJ hbb hw K hK => ?_⟩
        have hp : ∃ u, xx 7 = .tuple #[.int .i64 (((mlt xp f.N : Nat) : Int)), u] ∧ It wz u (((cof xp f.N : Nat) : Int)) := by
         obtain ⟨Z, hR, -, -⟩ := hJ.pr 7 (by decide) (hw 7 (by kernel_rfl))
         exact hR.1 (.inr rfl)
        have hh := Classical.choose_spec hp
        generalize Classical.choose hp = u at hh
        have hxu := hh.1
        have hu := hh.2
        clear hbb hw hp hh
        simp only [actsD, List.foldl_cons, List.foldl_nil, Act.put, List.setIfInBounds_toArray, List.set_cons_zero, List.set_cons_succ, hxu] at hK ⊢
        go_simp
        exact hK.out _ _ (hJ.call (i := 9) (by decide) (Z := fun _ => False) (knu3 hu) (fun k hk => hk.elim) (Below.refl _ _))
       ·refine ⟨_, rfl, fun bb xx wz hJ hbb hw K hK => ?_⟩
        clear hbb hw
        simp only [actsD, List.foldl_cons, List.foldl_nil, Act.put, List.setIfInBounds_toArray, List.set_cons_zero, List.set_cons_succ] at hK ⊢
        go_simp
        exact hK.out _ _ (hJ.var (W' := wz.alloc (.cells #[.bool false, .slice none 0 0] 33)) (Vx.new0 (w := wz) rfl) (below_new _ _))
       ·refine ⟨_, rfl, fun bb xx wz hJ hbb hw K hK => ?_⟩
        have hx5 : xx 8 = .int .i64 (((mlt xp f.N : Nat) : Int)) := by
         obtain ⟨Z, hR, -, -⟩ := hJ.pr 8 (by decide) (hw 8 (by kernel_rfl))
         exact hR.2.1 (.inl rfl)
        clear hbb hw
        simp only [actsD, List.foldl_cons, List.foldl_nil, Act.put, List.setIfInBounds_toArray, List.set_cons_zero, List.set_cons_succ, hx5] at hK ⊢
        go_simp
        exact hK.out _ _ (hJ.call (i := 11) (by decide) (Z := fun _ => False) (knu5) (fun k hk => hk.elim) (Below.refl _ _))
      intro bb xx wz hbb hJ
      obtain ⟨Z, hR, -, -⟩ := hJ.pr 9 (by decide) (hbb 9 (by decide))
      have hu := hR.2.2 rfl
      obtain ⟨Z', hR', -, -⟩ := hJ.pr 11 (by decide) (hbb 11 (by decide))
      have h5 := hR'.2.1 (.inr rfl)
      obtain ⟨B13, hx13, hB13, hV13⟩ := hJ.pj (hbb 10 (by decide))
      have hbz := hJ.bl
      clear hbb hJ hR hR'
      obtain ⟨u0, hu0⟩ : ∃ u0, u0 = xx 6 := ⟨_, rfl⟩
      obtain ⟨u1, hu1⟩ : ∃ u1, u1 = xx 7 := ⟨_, rfl⟩
      obtain ⟨u2, hu2⟩ : ∃ u2, u2 = xx 8 := ⟨_, rfl⟩
      obtain ⟨s3, a3, n3, c3, hx6⟩ := hu.shape
      rw [hx6] at hu
      simp only [actsD, markOf, List.map_cons, List.map_nil, List.foldl_cons, List.foldl_nil, Act.put, List.setIfInBounds_toArray, List.set_cons_zero, List.set_cons_succ, hx13, hx6, h5, ← hu0, ← hu1, ← hu2]
      clear hx13 hx6 h5 hu0 hu1 hu2
      obtain ⟨y1, y2, y3, y4, z0, z1, z2, z3, -⟩ := hV13.cells
      (refine oL 12 rfl fun K hK => tL ?_; go_simp)
      (go_wp2_with fail; refine hK.out _ _ (fun h => absurd h (by decide)) ?_; clear hK; refine tL ?_)
      refine wpAnyT_done (by kernel_rfl) ?_ _
      clear z0 z1 z2 z3)
     have hbu := (ButS.set wz B13 0 (.bool s3)).trans (ButS.set _ B13 1 (.slice a3 n3 c3))
     have hb10 := ButS.below hbz hbu hbz.size (fun g e => by omega)
     replace x0 := keepc hb10 x0
     replace x1 := keepc hb10 x1
     replace HX := Lib.hid (HX.out.up hb10)
     replace HBU := Lib.hid (HBU.out.up hb10)
     replace HBR := Lib.hid (Bl.up HBR.out hb10)
     clear hbu hb10 hbz hV13 hu p0 p1 HNq
     generalize (wz.setCell ⟨B13, 0, none⟩ (.bool s3)).setCell ⟨B13, 1, none⟩ (.slice a3 n3 c3) = wa at *
     obtain ⟨mk, hmk⟩ : ∃ mk, mlt xp f.N = mk := ⟨_, rfl⟩
     rw [hmk]
     rw [hmk] at HYES HNO2
     clear hmk
     go_upto_region 15 with fail
     have hKq := HKr.out.up HBR.out
     go_wp2_with fail
     refine (rhas_any _ _ (zI (knownN f g)) ((xp : Nat) : Int) _ hKq HX.out (fun y hy => by
      unfold zI at hy
      obtain ⟨p, hp, rfl⟩ := List.mem_map.1 hy
      exact Nat.le_trans (HKS.out p hp) (by decide)) HSX.out (by rw [HNK.out]; omega)).mono ?_
     rintro e wz ⟨rfl, hb6⟩
     rw [show decide (((xp : Nat) : Int) ∈ zI (knownN f g)) = decide (xp ∈ knownN f g) by rw [decide_eq_decide, mem_zI]]
     replace x0 := keepc hb6 x0
     replace x1 := keepc hb6 x1
     have HXP := Lib.hid (HX.out.up hb6)
     replace HBU := Lib.hid (HBU.out.up hb6)
     have HBZ := Lib.hid (Bl.up HBR.out hb6)
     clear hb6 hKq HX HBR
     obtain ⟨aPv, cPv, rfl, -⟩ := HBU.out.hP.slice
     obtain ⟨aRv, cRv, rfl, -⟩ := HBU.out.hR.slice
     have hkl := km_len f g o i
     have hlPv : (zP (kmP f g o i)).length ≤ 200000000 := by rw [zP_len]; have := HOL.out; omega
     have hlRv : (zP (kmR f g o i)).length ≤ 200000000 := by rw [zP_len]; have := HOL.out; omega
     clear hkl
     obtain ⟨_, _, _, _, -, -, m2, m3, -, -, -, -, -, -, -⟩ := HBU.out.cellsA
     by_cases h1 : xp ∈ knownN f g
     ·rw [decide_eq_true h1]
      have HZS := Lib.hid (show zP (kmP f g o i) ++ [((xp : Int), (mk : Int))] = zP (kmP f g o (i + 1)) ∧ zP (kmR f g o i) = zP (kmR f g o (i + 1)) by
       obtain ⟨h2, h3⟩ := HYES.out h1
       rw [h2, h3, zP_append (kmP f g o i)]
       exact ⟨rfl, rfl⟩)
      clear h1 HYES HNO2
      obtain ⟨Pv, hPv⟩ : ∃ Pv, zP (kmP f g o i) = Pv := ⟨_, rfl⟩
      obtain ⟨Rv, hRv⟩ : ∃ Rv, zP (kmR f g o i) = Rv := ⟨_, rfl⟩
      rw [hPv, hRv] at HBU HZS HOW
      rw [hPv] at m2 hlPv
      rw [hRv] at m3 hlRv
      clear hPv hRv
      go_upto_region 16 with fail
      refine wp_region_T (by kernel_rfl) [9] (S := fun w' => w'.cell? ⟨B9, 2, none⟩ = some (.slice aPv Pv.length cPv) ∧ w'.cell? ⟨bo, offo + i * 2, none⟩ = some (.bool t1) ∧ w'.cell? ⟨bo, offo + i * 2 + 1, none⟩ = some (.slice b1 m1 d1)) ⟨m2, x0, x1⟩ (fun hHeld => ?_)
      refine pL 0 rfl ?_
      refine kL 1 rfl ?_
      (refine pL 2 rfl ?_; refine pL 3 rfl ?_; refine pL 4 rfl ?_)
      refine kL 5 rfl ?_
      (refine pL 6 rfl ?_; refine pL 7 rfl ?_)
      (refine oL 8 rfl fun K hK => tL ?_; go_simp)
      have hD7 : (wz.alloc (.cells #[.bool t1, .slice b1 m1 d1, .int .i64 (mk : Int)] 49)).drew.heap[wz.heap.size]? = some (.cells #[.bool t1, .slice b1 m1 d1, .int .i64 (mk : Int)] 49 (0, 0)) := heap_alloc_new wz (.cells #[.bool t1, .slice b1 m1 d1, .int .i64 (mk : Int)] 49)
      have hsc : Sc eP (wz.alloc (.cells #[.bool t1, .slice b1 m1 d1, .int .i64 (mk : Int)] 49)).drew wz.heap.size 0 [((xp : Int), (mk : Int))] := Sc.one hD7 ⟨t1, b1, m1, d1, rfl, (HXP.out.alloc _).drew⟩
      have hF7 := (HBU.out.alloc (.cells #[.bool t1, .slice b1 m1 d1, .int .i64 (mk : Int)] 49)).drew
      have hB7 := Bl.drew (Bl.alloc HBZ.out (.cells #[.bool t1, .slice b1 m1 d1, .int .i64 (mk : Int)] 49))
      have m7 := cellD (cellN m2 (.cells #[.bool t1, .slice b1 m1 d1, .int .i64 (mk : Int)] 49))
      have x7 := cellD (cellN x0 (.cells #[.bool t1, .slice b1 m1 d1, .int .i64 (mk : Int)] 49))
      have x8 := cellD (cellN x1 (.cells #[.bool t1, .slice b1 m1 d1, .int .i64 (mk : Int)] 49))
      have hlt7 := hB7.size
      (go_wp2_with fail; clear hHeld; have hHeld : (fun w' : World => w'.cell? ⟨B9, 2, none⟩ = some (.slice aPv Pv.length cPv) ∧ w'.cell? ⟨bo, offo + i * 2, none⟩ = some (.bool t1) ∧ w'.cell? ⟨bo, offo + i * 2 + 1, none⟩ = some (.slice b1 m1 d1)) ((wz.alloc (.cells #[.bool t1, .slice b1 m1 d1, .int .i64 (mk : Int)] 49)).drew) := ⟨m7, x7, x8⟩; refine hK.out _ _ (fun _ => hHeld) ?_; clear hK; refine tL ?_)
      refine wpAnyT_one (i := 9) (by as_aux_lemma => kernel_rfl) rfl (fun K hK => ?_)
      refine step_apS (E := eP) (by rfl) (.tmp 84) (.tmp 91) _ (by rfl) Tryz.underlying34 0 _ Pv [((xp : Int), (mk : Int))] (by rfl) hF7.hP (Nat.zero_le _) wz.heap.size 0 1 1 (by rfl) rfl hsc (by decide) (by omega) ?_
      intro g8 cap8 w8 h8 hb8 hg8
      have hg8' : ∀ g, (Value.slice (some ⟨g8, 0, none⟩) (Pv.length + 1) cap8).ownBlock = some g → (Value.slice aPv Pv.length cPv).ownBlock = some g ∨ g = (wz.alloc (.cells #[.bool t1, .slice b1 m1 d1, .int .i64 (mk : Int)] 49)).drew.heap.size := fun g hg => by
       have : g8 = g := by simpa [Value.ownBlock] using hg
       rw [← this]; exact hg8
      obtain ⟨k1', k2', k3'⟩ := hF7.setP hb8 h8 hg8'
      obtain ⟨y1, y2, y3, y4, -, -, -, -, -, -, -, zf2, zf3, -, -⟩ := hF7.cellsA
      have d8 := cell_fr hb8 (cell_lt m7) hF7.d2 m7
      have f8 := frozen_fr hb8 (cell_lt m7) hF7.d2 zf2
      have hS8 := HOW.out
      have hB8 := ButS.below hB7 k2' hB7.size (fun g hg => hS8 g hg)
      have hO8 : ∀ g, bset B9 (.slice (some ⟨g8, 0, none⟩) (Pv.length + 1) cap8) (.slice aRv Rv.length cRv) g → w6.heap.size ≤ g := fun g hg => (k3' g hg).elim (hS8 g) (fun h => Nat.le_trans hlt7 h)
      have HF8 := Lib.hid k1'
      have HB8 := Lib.hid hB8
      have HO8 := Lib.hid hO8
      clear hF7 hB7 hb8 h8 hg8 hg8' k1' k2' k3' zf2 zf3 hB8 hS8 hO8 hD7 hsc m2 m3 x0 x1 m7 x7 x8 hlt7 HBU HBZ HOW HXP
      refine hK.out _ _ (fun h => absurd h (by decide)) ?_
      clear hK hHeld
      refine tL ?_
      refine pL 10 rfl ?_
      (refine oL 11 rfl fun K hK => tL ?_; go_simp)
      (go_wp2_with fail; refine hK.out _ _ (fun h => absurd h (by decide)) ?_; clear hK; refine tL ?_)
      refine wpAnyT_done (by kernel_rfl) ?_ _
      clear d8 f8
      go_wp2_with fail
      refine ⟨⟨i + 1, _, _, by go_num, by omega, by rw [← HZS.out.1, ← HZS.out.2]; exact HF8.out, HO8.out, HB8.out⟩, by simp [intOf]; omega⟩
     ·rw [decide_eq_false h1]
      have HZS := Lib.hid (show zP (kmP f g o i) = zP (kmP f g o (i + 1)) ∧ zP (kmR f g o i) ++ [((xp : Int), (mk : Int))] = zP (kmR f g o (i + 1)) by
       obtain ⟨h2, h3⟩ := HNO2.out h1
       rw [h2, h3, zP_append (kmR f g o i)]
       exact ⟨rfl, rfl⟩)
      clear h1 HYES HNO2
      obtain ⟨Pv, hPv⟩ : ∃ Pv, zP (kmP f g o i) = Pv := ⟨_, rfl⟩
      obtain ⟨Rv, hRv⟩ : ∃ Rv, zP (kmR f g o i) = Rv := ⟨_, rfl⟩
      rw [hPv, hRv] at HBU HZS HOW
      rw [hPv] at m2 hlPv
      rw [hRv] at m3 hlRv
      clear hPv hRv
      go_upto_region 17 with fail
      refine wp_region_T (by kernel_rfl) [9] (S := fun w' => w'.cell? ⟨B9, 3, none⟩ = some (.slice aRv Rv.length cRv) ∧ w'.cell? ⟨bo, offo + i * 2, none⟩ = some (.bool t1) ∧ w'.cell? ⟨bo, offo + i * 2 + 1, none⟩ = some (.slice b1 m1 d1)) ⟨m3, x0, x1⟩ (fun hHeld => ?_)
      refine pL 0 rfl ?_
      refine kL 1 rfl ?_
      (refine pL 2 rfl ?_; refine pL 3 rfl ?_; refine pL 4 rfl ?_)
      refine kL 5 rfl ?_
      (refine pL 6 rfl ?_; refine pL 7 rfl ?_)
      (refine oL 8 rfl fun K hK => tL ?_; go_simp)
      have hD7 : (wz.alloc (.cells #[.bool t1, .slice b1 m1 d1, .int .i64 (mk : Int)] 49)).drew.heap[wz.heap.size]? = some (.cells #[.bool t1, .slice b1 m1 d1, .int .i64 (mk : Int)] 49 (0, 0)) := heap_alloc_new wz (.cells #[.bool t1, .slice b1 m1 d1, .int .i64 (mk : Int)] 49)
      have hsc : Sc eP (wz.alloc (.cells #[.bool t1, .slice b1 m1 d1, .int .i64 (mk : Int)] 49)).drew wz.heap.size 0 [((xp : Int), (mk : Int))] := Sc.one hD7 ⟨t1, b1, m1, d1, rfl, (HXP.out.alloc _).drew⟩
      have hF7 := (HBU.out.alloc (.cells #[.bool t1, .slice b1 m1 d1, .int .i64 (mk : Int)] 49)).drew
      have hB7 := Bl.drew (Bl.alloc HBZ.out (.cells #[.bool t1, .slice b1 m1 d1, .int .i64 (mk : Int)] 49))
      have m7 := cellD (cellN m3 (.cells #[.bool t1, .slice b1 m1 d1, .int .i64 (mk : Int)] 49))
      have x7 := cellD (cellN x0 (.cells #[.bool t1, .slice b1 m1 d1, .int .i64 (mk : Int)] 49))
      have x8 := cellD (cellN x1 (.cells #[.bool t1, .slice b1 m1 d1, .int .i64 (mk : Int)] 49))
      have hlt7 := hB7.size
      (go_wp2_with fail; clear hHeld; have hHeld : (fun w' : World => w'.cell? ⟨B9, 3, none⟩ = some (.slice aRv Rv.length cRv) ∧ w'.cell? ⟨bo, offo + i * 2, none⟩ = some (.bool t1) ∧ w'.cell? ⟨bo, offo + i * 2 + 1, none⟩ = some (.slice b1 m1 d1)) ((wz.alloc (.cells #[.bool t1, .slice b1 m1 d1, .int .i64 (mk : Int)] 49)).drew) := ⟨m7, x7, x8⟩; refine hK.out _ _ (fun _ => hHeld) ?_; clear hK; refine tL ?_)
      refine wpAnyT_one (i := 9) (by as_aux_lemma => kernel_rfl) rfl (fun K hK => ?_)
      refine step_apS (E := eP) (by rfl) (.tmp 95) (.tmp 102) _ (by rfl) Tryz.underlying34 0 _ Rv [((xp : Int), (mk : Int))] (by rfl) hF7.hR (Nat.zero_le _) wz.heap.size 0 1 1 (by rfl) rfl hsc (by decide) (by omega) ?_
      intro g8 cap8 w8 h8 hb8 hg8
      have hg8' : ∀ g, (Value.slice (some ⟨g8, 0, none⟩) (Rv.length + 1) cap8).ownBlock = some g → (Value.slice aRv Rv.length cRv).ownBlock = some g ∨ g = (wz.alloc (.cells #[.bool t1, .slice b1 m1 d1, .int .i64 (mk : Int)] 49)).drew.heap.size := fun g hg => by
       have : g8 = g := by simpa [Value.ownBlock] using hg
       rw [← this]; exact hg8
      obtain ⟨k1', k2', k3'⟩ := hF7.setR hb8 h8 hg8'
      obtain ⟨y1, y2, y3, y4, -, -, -, -, -, -, -, zf2, zf3, -, -⟩ := hF7.cellsA
      have d8 := cell_fr hb8 (cell_lt m7) hF7.d3 m7
      have f8 := frozen_fr hb8 (cell_lt m7) hF7.d3 zf3
      have hS8 := HOW.out
      have hB8 := ButS.below hB7 k2' hB7.size (fun g hg => hS8 g hg)
      have hO8 : ∀ g, bset B9 (.slice aPv Pv.length cPv) (.slice (some ⟨g8, 0, none⟩) (Rv.length + 1) cap8) g → w6.heap.size ≤ g := fun g hg => (k3' g hg).elim (hS8 g) (fun h => Nat.le_trans hlt7 h)
      have HF8 := Lib.hid k1'
      have HB8 := Lib.hid hB8
      have HO8 := Lib.hid hO8
      clear hF7 hB7 hb8 h8 hg8 hg8' k1' k2' k3' zf2 zf3 hB8 hS8 hO8 hD7 hsc m2 m3 x0 x1 m7 x7 x8 hlt7 HBU HBZ HOW HXP
      refine hK.out _ _ (fun h => absurd h (by decide)) ?_
      clear hK hHeld
      refine tL ?_
      refine pL 10 rfl ?_
      (refine oL 11 rfl fun K hK => tL ?_; go_simp)
      (go_wp2_with fail; refine hK.out _ _ (fun h => absurd h (by decide)) ?_; clear hK; refine tL ?_)
      refine wpAnyT_done (by kernel_rfl) ?_ _
      clear d8 f8
      go_wp2_with fail
      refine ⟨⟨i + 1, _, _, by go_num, by omega, by rw [← HZS.out.1, ← HZS.out.2]; exact HF8.out, HO8.out, HB8.out⟩, by simp [intOf]; omega⟩
    ·obtain rfl : i = nO := by omega
     have i1 : ¬ (i : Int) < (i : Int) := by omega
     have e0 : o.take i = o := by rw [← HOL.out, List.take_length]
     have e1 : kmP f g o i = pows f.N (o.filter fun x => decide (x ∈ knownN f g)) := by unfold kmP; rw [e0]
     have e2 : kmR f g o i = pows f.N (o.filter fun x => !decide (x ∈ knownN f g)) := by unfold kmR; rw [e0]
     rw [e1, e2] at HBU
     obtain ⟨aPv, cPv, rfl, -⟩ := HBU.out.hP.slice
     obtain ⟨aRv, cRv, rfl, -⟩ := HBU.out.hR.slice
     obtain ⟨sG, aG, nG, cG, hh, hfx⟩ := HBU.out.fx
     obtain ⟨t0, t1, t2, t3, t4, -, -, -, -, -⟩ := heap5' hh
     have hfx : Fx _ (.agg #[.bool sG, .slice aG nG cG, .slice aPv (zP (pows f.N (o.filter fun x => decide (x ∈ knownN f g)))).length cPv, .slice aRv (zP (pows f.N (o.filter fun x => !decide (x ∈ knownN f g)))).length cRv, .int .i64 (mx : Int)]) (zF ⟨f.N, pows f.N (o.filter fun x => decide (x ∈ knownN f g)), pows f.N (o.filter fun x => !decide (x ∈ knownN f g)), mx⟩) := hfx
     have HFX := Lib.hid hfx
     have hl1 : (pows f.N (o.filter fun x => decide (x ∈ knownN f g))).length ≤ 100000000 := by
      unfold pows; rw [List.length_map]; have := List.length_filter_le (fun x => decide (x ∈ knownN f g)) o; have := HOL.out; omega
     have hl2 : (pows f.N (o.filter fun x => !decide (x ∈ knownN f g))).length ≤ 100000000 := by
      unfold pows; rw [List.length_map]; have := List.length_filter_le (fun x => !decide (x ∈ knownN f g)) o; have := HOL.out; omega
     have hz1 : ∀ p ∈ pows f.N (o.filter fun x => decide (x ∈ knownN f g)), sz ((p.1 : Nat) : Int) ≤ 1099511627776 := fun p hp => by
      unfold pows at hp
      obtain ⟨x, hx, rfl⟩ := List.mem_map.1 hp
      exact HOS.out x (List.mem_filter.1 hx).1
     have hz2 : ∀ p ∈ pows f.N (o.filter fun x => !decide (x ∈ knownN f g)), sz ((p.1 : Nat) : Int) ≤ 1099511627776 := fun p hp => by
      unfold pows at hp
      obtain ⟨x, hx, rfl⟩ := List.mem_map.1 hp
      exact HOS.out x (List.mem_filter.1 hx).1
     have HL1 := Lib.hid hl1
     have HL2 := Lib.hid hl2
     have HZ1 := Lib.hid hz1
     have HZ2 := Lib.hid hz2
     have HBW := Lib.hid (Bl.up HBr.out HBR.out)
     have hMT := fun t => merge_tidy (f := f) (g := g) (o := o) (t := t)
     rw [HMX.out] at hMT
     have HMT := Lib.hid hMT
     clear e0 e1 e2 hh hfx hl1 hl2 hz1 hz2 hMT p0 p1 HNq HBU HOW hlt hi hbr
     go_wp2_with fail
     refine (rtidy_any _ ⟨f.N, pows f.N (o.filter fun x => decide (x ∈ knownN f g)), pows f.N (o.filter fun x => !decide (x ∈ knownN f g)), mx⟩ _ HFX.out hBB HL1.out HL2.out HZ1.out HZ2.out).mono ?_
     rintro e w9 ⟨v, t, rfl, hF, hT, hb9⟩
     have hBw := Bl.up HBL.out (Bl.up HBW.out hb9)
     have hHD := ((Bl.up HBW.out hb9).block (w.heap.size + 1 + 1) (Array.getElem?_eq_some_iff.1 HD.out).1).trans HD.out
     obtain ⟨sF, aF, nF, cF, vP6, vR6, rfl, hF1, hF2, hF3⟩ := hF
     obtain ⟨aP6, cP6, rfl, hF2'⟩ := id hF2
     obtain ⟨aR6, cR6, rfl, hF3'⟩ := id hF3
     obtain ⟨lP, hlP⟩ : ∃ lP, (zF t).P.length = lP := ⟨_, rfl⟩
     obtain ⟨lR, hlR⟩ : ∃ lR, (zF t).R.length = lR := ⟨_, rfl⟩
     obtain ⟨bT, hbT⟩ : ∃ bT, (zF t).B = bT := ⟨_, rfl⟩
     rw [hlP] at hF2 ⊢
     rw [hlR] at hF3 ⊢
     rw [hbT]
     have H1 := Lib.hid hF1
     have H2 := Lib.hid hF2
     have H3 := Lib.hid hF3
     have HBW2 := Lib.hid hBw
     have HHD := Lib.hid hHD
     have HT := Lib.hid (HMT.out t hT)
     have HBT := Lib.hid hbT
     obtain ⟨d0, d1, d2, d3, d4, f0, f1, f2, f3, f4⟩ := heap5' hHD
     clear hF1 hF2 hF3 hF2' hF3' hlP hlR hbT hBw hHD hT hb9 t0 t1 t2 t3 t4 HFX HL1 HL2 HZ1 HZ2 HBW HMT
     go_wp2_with fail
     have hbu := five_but w9 (w.heap.size + 1 + 1) (.bool sF) (.slice aF nF cF) (.slice aP6 lP cP6) (.slice aR6 lR cR6) (.int .i64 bT)
     have hDh := five_heap HHD.out (.bool sF) (.slice aF nF cF) (.slice aP6 lP cP6) (.slice aR6 lR cR6) (.int .i64 bT)
     have hnw := five_nw HHD.out
     have hfin : Fx _ (.agg #[.bool sF, .slice aF nF cF, .slice aP6 lP cP6, .slice aR6 lR cR6, .int .i64 bT]) (zF t) := ⟨sF, aF, nF, cF, _, _, by rw [HBT.out], H1.out.fr hbu hnw, H2.out.fr hbu hnw (fun hl => H2.out.not_fact HHD.out hl), H3.out.fr hbu hnw (fun hl => H3.out.not_fact HHD.out hl)⟩
     refine ret_fact2 (B := w.heap.size + 1 + 1) (T := 36) (fr := (0, 0)) (x0 := .bool sF) (x1 := .slice aF nF cF) (x2 := .slice aP6 lP cP6) (x3 := .slice aR6 lR cR6) (x4 := .int .i64 bT) (y := .int .i64 0) rfl rfl rfl rfl hDh ?_
     exact ⟨ButS.below HBW2.out hbu HBW2.out.size (fun g e => by omega), .inr ⟨HNN.out, o, HCB.out, .inl ⟨HALL.out, _, t, rfl, hfin, HT.out⟩⟩⟩
end Go.Proofs.YtblebpmlkpobnaaGreat
