/-
  factor.Split.
-/
import Derived.Test.YtblebpmlkpobnaaGreatDoorFO1
import Derived.Test.YtblebpmlkpobnaaGreatDoorFP1
set_option linter.unusedSimpArgs false
set_option linter.unusedVariables false
set_option maxRecDepth 100000
set_option maxHeartbeats 4000000
namespace Go.Proofs.YtblebpmlkpobnaaGreatDoor
open Go.RowKit
attribute [local go_sem ↓] Go.wp_at_zero Go.wp_at_succ
theorem Ss.lit1 {α : Type} {E : Elt α} {w : World} (T : TypeId) (a : Option Addr) (n cap : Nat) (l : List α) (hn : l.length = n) (h : Sr E w (.slice a n cap) l) : Ss E (w.alloc (.cells #[.slice a n cap] T)) (.slice (some ⟨w.heap.size, 0, none⟩) 1 1) [l] :=
 ⟨_, _, fun _ => .slice a n cap, rfl, (Own.lit w #[.slice a n cap] T 1 _ rfl (fun i hi => by obtain rfl : i = 0 := by omega
                                                                                             rfl)).cl, fun i hi => by
  obtain rfl : i = 0 := by simpa using hi
  exact h.alloc _⟩
def kpI (f : Fn) (o : List Nat) (i : Nat) : List Nat := keep f (o.take i)
theorem kpI_zero (f : Fn) (o : List Nat) : kpI f o 0 = [] := rfl
theorem kpI_all (f : Fn) (o : List Nat) : kpI f o o.length = keep f o := by unfold kpI; rw [List.take_length]
theorem take_get {o : List Nat} {i : Nat} (hi : i < o.length) : o.take (i + 1) = o.take i ++ [o.getD i 0] := by
 rw [List.take_succ_eq_append_getElem hi]; simp [List.getD_eq_getElem?_getD, hi]
theorem kpI_no {f : Fn} {o : List Nat} {i : Nat} (hi : i < o.length) (h : ¬ ∃ r ∈ ks f.R, o.getD i 0 ∣ r) : kpI f o (i + 1) = kpI f o i := by
 unfold kpI keep;rw [take_get hi, List.filter_append, List.filter_cons_of_neg, List.filter_nil, List.append_nil];simpa using h
theorem kpI_yes {f : Fn} {o : List Nat} {i : Nat} (hi : i < o.length) (h : ∃ r ∈ ks f.R, o.getD i 0 ∣ r) : kpI f o (i + 1) = kpI f o i ++ [o.getD i 0] := by
 unfold kpI keep;rw [take_get hi, List.filter_append, List.filter_cons_of_pos, List.filter_nil];simpa using h
def spP (f : Fn) (o : List Nat) (i : Nat) : List (Nat × Nat) := f.P ++ pows f.N ((kpI f o i).filter (sml f.B))
def spR (f : Fn) (o : List Nat) (i : Nat) : List (Nat × Nat) := pows f.N ((kpI f o i).filter (fun x => !sml f.B x))
noncomputable def spF (f : Fn) (o : List Nat) (i : Nat) : Bool := @decide (∃ x ∈ kpI f o i, x ∉ ks f.R) (Classical.propDecidable _)
theorem spF_iff {f : Fn} {o : List Nat} {i : Nat} : spF f o i = true ↔ ∃ x ∈ kpI f o i, x ∉ ks f.R := by unfold spF; exact @decide_eq_true_iff _ (Classical.propDecidable _)
theorem pows_snoc (N : Nat) (l : List Nat) (x : Nat) : pows N (l ++ [x]) = pows N l ++ [(x, mlt x N)] := by simp [pows]
theorem sp_no {f : Fn} {o : List Nat} {i : Nat} (hi : i < o.length) (h : ¬ ∃ r ∈ ks f.R, o.getD i 0 ∣ r) : spP f o (i + 1) = spP f o i /\ spR f o (i + 1) = spR f o i /\ spF f o (i + 1) = spF f o i := by
 unfold spP spR spF;rw [kpI_no hi h];exact ⟨rfl, rfl, rfl⟩
theorem sp_small {f : Fn} {o : List Nat} {i : Nat} (hi : i < o.length) (h : ∃ r ∈ ks f.R, o.getD i 0 ∣ r) (hs : sml f.B (o.getD i 0) = true) :
  spP f o (i + 1) = spP f o i ++ [(o.getD i 0, mlt (o.getD i 0) f.N)] /\ spR f o (i + 1) = spR f o i := by
 unfold spP spR;rw [kpI_yes hi h, List.filter_append, List.filter_append, List.filter_cons_of_pos hs, List.filter_cons_of_neg (by show ¬ (!sml f.B (o.getD i 0)) = true; rw [hs]; decide), List.filter_nil, List.filter_nil, pows_snoc, List.append_nil, List.append_assoc];exact ⟨rfl, rfl⟩
theorem sp_big {f : Fn} {o : List Nat} {i : Nat} (hi : i < o.length) (h : ∃ r ∈ ks f.R, o.getD i 0 ∣ r) (hs : ¬ sml f.B (o.getD i 0) = true) :
  spP f o (i + 1) = spP f o i /\ spR f o (i + 1) = spR f o i ++ [(o.getD i 0, mlt (o.getD i 0) f.N)] := by
 unfold spP spR;rw [kpI_yes hi h, List.filter_append, List.filter_append, List.filter_cons_of_neg hs, List.filter_cons_of_pos (by show (!sml f.B (o.getD i 0)) = true; rw [Bool.eq_false_iff.2 hs]; rfl), List.filter_nil, List.filter_nil, pows_snoc, List.append_nil];exact ⟨rfl, rfl⟩
theorem sp_flag {f : Fn} {o : List Nat} {i : Nat} (hi : i < o.length) (h : ∃ r ∈ ks f.R, o.getD i 0 ∣ r) : spF f o (i + 1) = (spF f o i || !decide (o.getD i 0 ∈ ks f.R)) := by
 rw [Bool.eq_iff_iff, Bool.or_eq_true, spF_iff, spF_iff, kpI_yes hi h];constructor
 ·rintro ⟨x, hx, hn⟩;rcases List.mem_append.1 hx with hx | hx
  ·exact .inl ⟨x, hx, hn⟩
  ·obtain rfl : x = o.getD i 0 := by simpa using hx
   exact .inr (by simpa using hn)
 ·rintro (⟨x, hx, hn⟩ | hn)
  ·exact ⟨x, List.mem_append_left _ hx, hn⟩
  ·exact ⟨_, List.mem_append_right _ (List.mem_singleton.2 rfl), by simpa using hn⟩
theorem kp_len (f : Fn) (o : List Nat) (i : Nat) : (kpI f o i).length <= o.length := by
 unfold kpI keep;exact Nat.le_trans (List.length_filter_le _ _) (by simp; omega)
theorem sp_len (f : Fn) (o : List Nat) (i : Nat) : (spP f o i).length <= f.P.length + o.length /\ (spR f o i).length <= o.length := by
 have h1 := kp_len f o i;unfold spP spR pows;simp only [List.length_append, List.length_map];have h2 := List.length_filter_le (sml f.B) (kpI f o i);have h3 := List.length_filter_le (fun x => !sml f.B x) (kpI f o i);omega
theorem BuO.sp {w' : World} {B : Nat} {vP' vR' : Value} {f : Fn} {o : List Nat} {i : Nat} (h : BuO w' B vP' vR' (f.N : Int) (zP (spP f o i)) (zP (spR f o i)) (f.B : Int) ((o.getD i 0 : Nat) : Int) ((mlt (o.getD i 0) f.N : Nat) : Int)) (hi : i < o.length) (hd : ∃ r ∈ ks f.R, o.getD i 0 ∣ r) :
  Bu w' B vP' vR' (f.N : Int) (zP (spP f o (i + 1))) (zP (spR f o (i + 1))) (f.B : Int) := by
 have e : ((f.B : Int) + 1) * ((f.B : Int) + 1) = (((f.B + 1) * (f.B + 1) : Nat) : Int) := by simp
 by_cases hs : sml f.B (o.getD i 0) = true
 ·obtain ⟨e1, e2⟩ := sp_small hi hd hs;rw [e1, e2, zP_append];unfold sml at hs;have hs := of_decide_eq_true hs;exact h.1 (by rw [e]; omega)
 ·obtain ⟨e1, e2⟩ := sp_big hi hd hs;rw [e1, e2, zP_append];unfold sml at hs;have hs : ¬ o.getD i 0 < (f.B + 1) * (f.B + 1) := fun hh => hs (decide_eq_true hh);exact h.2 (by rw [e]; omega)
structure SpI (W wr : World) (B : Nat) (vP vR : Value) (N : Nat) (P R : List (Nat × Nat)) (b : Nat) (vO : Value) (O : List Nat) (vL : Value) (L : List Nat) : Prop where
 hB : Bu wr B vP vR N (zP P) (zP R) b
 hk : ∀ k, bset B vP vR k -> W.heap.size <= k
 hO : So eI wr W.heap.size vO (zI O)
 nO : ∀ g, vO.ownBlock = some g -> ¬ bset B vP vR g
 hL : So eI wr W.heap.size vL (zI L)
 nL : ∀ g, vL.ownBlock = some g -> ¬ bset B vP vR g
 hb : Below W.heap.size W wr
section
variable {W wr w' : World} {B : Nat} {vP vR : Value} {N : Nat} {P R : List (Nat × Nat)} {b : Nat} {vO : Value} {O : List Nat} {vL : Value} {L : List Nat}
theorem SpI.up (h : SpI W wr B vP vR N P R b vO O vL L) (hb : Below wr.heap.size wr w') : SpI W w' B vP vR N P R b vO O vL L :=
 ⟨h.hB.up hb, h.hk, h.hO.up hb, h.nO, h.hL.up hb, h.nL, Bl.up h.hb hb⟩
theorem SpI.opened (h : SpI W wr B vP vR N P R b vO O vL L) {vP' vR' : Value} {P' R' : List (Nat × Nat)} (h1 : Bu w' B vP' vR' N (zP P') (zP R') b) (hb : ButS (bset B vP vR) wr w') (hk : ∀ k, bset B vP' vR' k -> bset B vP vR k \/ wr.heap.size <= k) :
  SpI W w' B vP' vR' N P' R' b vO O vL L := by
 have hw := h.hb.size;refine ⟨h1, fun g hg => (hk g hg).elim (h.hk g) (fun _ => by omega), h.hO.fr hb h.hB.nw h.nO, fun g hg hs => ?_, h.hL.fr hb h.hB.nw h.nL, fun g hg hs => ?_, ButS.below h.hb hb hw h.hk⟩
 ·exact (hk g hs).elim (h.nO g hg) (fun _ => by have := (h.hO.lt g hg).2; omega)
 ·exact (hk g hs).elim (h.nL g hg) (fun _ => by have := (h.hL.lt g hg).2; omega)
end
theorem SpI.lenP {W wr : World} {B : Nat} {vP vR : Value} {f : Fn} {o : List Nat} {i : Nat} {vO vL : Value} {O L : List Nat} (_ : SpI W wr B vP vR f.N (spP f o i) (spR f o i) f.B vO O vL L) (hl : f.P.length + f.R.length <= 65536) (ho : o.length <= 4194304) :
  (zP (spP f o i)).length < 1099511627776 /\ (zP (spR f o i)).length < 1099511627776 := by
 have := sp_len f o i;rw [zP_len, zP_len]; omega
def knC (l : List Int) (s : Bool) (a : Option Addr) (n c : Nat) : Kn where
 R := fun i v Z w => i = 1 -> So eI w 0 v l /\ ∀ g, v.ownBlock = some g -> Z g
 V := fun w B => w.heap[B]? = some (.cells #[.bool s, .slice a n c] 29 (0, 0))
 up := fun h hb e => ⟨(h e).1.up hb, (h e).2⟩
 vup := fun h hb => (hb.block _ (Array.getElem?_eq_some_iff.1 h).1).trans h
 vlt := fun h => (Array.getElem?_eq_some_iff.1 h).1
theorem split_ok (va vd : Value) (f : Fn) (d : Nat) (w : World) (ha : Fx w va (zF f)) (hd : It w vd d) (hf : RightN f) (hm : Md f.N) (h1 : 1 <= d) (hmd : Md d) :
  Calls Tryz.prog 13 #[va, vd] w fun e w' => ∃ o, CB (ks f.R ++ [d]) o /\ Below w.heap.size w w' /\
   ((fresh f o /\ ∃ v g, e = .returned (.tuple #[v, .int .i64 0]) /\ Fx w' v (zF g) /\ SplitTo f o g) \/ (¬ fresh f o /\ ∃ v, e = .returned (.tuple #[v, .int .i64 6]) /\ Fx w' v ⟨0, [], [], 0⟩)) := by
 obtain ⟨W1, s, a, n, c, aP, cP, aR, cR, rfl, hW1, b1, hs1, hF⟩ := boxN w ha;obtain ⟨W2, sd, ad, nd, cd, rfl, hW2, b2, hVd, hs2, -, -, hxd⟩ := box1 W1 (hd.up b1);clear ha hd;have hLen := hf.len hm;have hsd := hmd.sz (Nat.le_refl d);go_enter Tryz.func13, Tryz.ntmps13
 go_upto_region 1 with fail;rw [<- hW1];rw [show (W1.alloc (.cells #[.bool sd, .slice ad nd cd] 29)) = W2 from hW2.symm];rw [hs1] at hVd hs2;have hD := heap_alloc_new W2 (.cells #[.bool false, .slice none 0 0, .slice none 0 0, .slice none 0 0, .int .i64 0] 32);rw [hs2] at hD;have hF3 := (hF.up b2).alloc (.cells #[.bool false, .slice none 0 0, .slice none 0 0, .slice none 0 0, .int .i64 0] 32);have hVd3 := hVd.alloc (.cells #[.bool false, .slice none 0 0, .slice none 0 0, .slice none 0 0, .int .i64 0] 32);have hbl := Bl.alloc (Bl.up b1 b2) (.cells #[.bool false, .slice none 0 0, .slice none 0 0, .slice none 0 0, .int .i64 0] 32);have hsz : (W2.alloc (.cells #[.bool false, .slice none 0 0, .slice none 0 0, .slice none 0 0, .int .i64 0] 32)).heap.size = w.heap.size + 3 := by rw [World.size_alloc, hs2]
 clear hW1 hW2 hs1 hs2 b1 b2 hF hVd hxd;generalize W2.alloc (.cells #[.bool false, .slice none 0 0, .slice none 0 0, .slice none 0 0, .int .i64 0] 32) = W at *;have HBL := Lib.hid hbl;have HSZ := Lib.hid hsz;obtain ⟨e1, e2, e3, e4, g0, g1, -, -, ixd⟩ := hVd3.cells;have hc1 : cmpI (d : Int) 0 = 1 := by unfold cmpI; rw [if_neg (by omega), if_pos (by omega)]
 go_wp2_with fail;refine (sign_any _ (d : Int) W ixd).mono ?_;rintro e w1 ⟨rfl, hb1⟩;rw [hc1];have HF1 := Lib.hid (hF3.up hb1);have HVd1 := Lib.hid (hVd3.up hb1);have HF := Lib.hid hF3;have HVd := Lib.hid hVd3;have HD := Lib.hid hD;have hb1' := hb1;clear hc1 g0 g1 ixd hF3 hVd3 hD hbl;go_upto_region 3 with fail;obtain ⟨p0, p1, p2, p3, p4, hN1, hP1, hR1⟩ := HF1.out.cellsN;refine wp_region_T (by kernel_rfl) [] (S := fun w' => w'.cell? ⟨w.heap.size, 0, none⟩ = some (.bool s) /\ w'.cell? ⟨w.heap.size, 1, none⟩ = some (.slice a n c) /\ w'.cell? ⟨w.heap.size, 2, none⟩ = some (.slice aP f.P.length cP) /\ w'.cell? ⟨w.heap.size, 3, none⟩ = some (.slice aR f.R.length cR) /\ w'.cell? ⟨w.heap.size, 4, none⟩ = some (.int .i64 (f.B : Int))) ⟨p0, p1, p2, p3, p4⟩ (fun hHeld => ?_);(refine kL 0 rfl ?_; refine kL 1 rfl ?_; refine kL 4 rfl ?_; refine kL 5 rfl ?_; refine kL 6 rfl ?_; refine kL 7 rfl ?_; refine kL 8 rfl ?_; refine kL 9 rfl ?_)
 (refine oL 2 rfl fun K hK => tL ?_; go_simp);have hss := (Ss.lit1 (w := w1) 30 aR f.R.length cR (zP f.R) (zP_len _) hR1).up ((Below.refl _ _).drew);have hb2 : Below W.heap.size W (w1.alloc (.cells #[.slice aR f.R.length cR] 30)).drew := Bl.drew (Bl.alloc hb1' _);replace hN1 := (hN1.alloc (.cells #[.slice aR f.R.length cR] 30)).drew;replace hP1 := (hP1.alloc (.cells #[.slice aR f.R.length cR] 30)).drew;replace p0 := cellD (cellN p0 (.cells #[.slice aR f.R.length cR] 30));replace p1 := cellD (cellN p1 (.cells #[.slice aR f.R.length cR] 30));replace p2 := cellD (cellN p2 (.cells #[.slice aR f.R.length cR] 30));replace p3 := cellD (cellN p3 (.cells #[.slice aR f.R.length cR] 30));replace p4 := cellD (cellN p4 (.cells #[.slice aR f.R.length cR] 30));clear hR1 hb1';(go_wp2_with fail; clear hHeld; refine nxL hK ⟨p0, p1, p2, p3, p4⟩ fun hHeld => tL ?_; clear hK);generalize (w1.alloc (.cells #[.slice aR f.R.length cR] 30)).drew = w2 at *;(refine oL 3 rfl fun K hK => tL ?_; go_simp);refine (numbers_any _ [zP f.R] w2 hss (by simp [zP_len]; omega) (by simp)).mono ?_;rintro e w3 ⟨vO, rfl, hO, hb3⟩;rw [List.flatten_singleton, zP_fst] at hO;replace hO := hO.base hb2.size;replace hb2 := Bl.up hb2 hb3;replace hN1 := hN1.up hb3;replace hP1 := hP1.up hb3;replace p0 := keepc hb3 p0;replace p1 := keepc hb3 p1;replace p2 := keepc hb3 p2;replace p3 := keepc hb3 p3;replace p4 := keepc hb3 p4;clear hb3 hss;(go_wp2_with fail; clear hHeld; refine nxL hK ⟨p0, p1, p2, p3, p4⟩ fun hHeld => tL ?_; clear hK);(refine oL 10 rfl fun K hK => tL ?_; go_simp);refine (start_any _ _ (f.N : Int) (f.B : Int) (zP f.P) hN1 hP1 (by rw [zP_len]; omega)).mono ?_;rintro e w4 ⟨B, vP, rfl, hBu, hb3, hbk⟩;have hnO : ∀ g, vO.ownBlock = some g -> ¬ bset B vP (.slice none 0 0) g := fun g hg hs => by have := (hO.lt g hg).2; have := hbk g hs; omega
 have hbk2 : ∀ k, bset B vP (.slice none 0 0) k -> W.heap.size <= k := fun k hk => by have := hbk k hk; have := hb2.size; omega
 replace hO := hO.up hb3;replace hb2 := Bl.up hb2 hb3;replace p0 := keepc hb3 p0;replace p1 := keepc hb3 p1;replace p2 := keepc hb3 p2;replace p3 := keepc hb3 p3;replace p4 := keepc hb3 p4;clear hb3 hN1 hP1 hbk;(go_wp2_with fail; clear hHeld; refine nxL hK ⟨p0, p1, p2, p3, p4⟩ fun hHeld => tL ?_; clear hK);(refine kL 11 rfl ?_; refine kL 12 rfl ?_; refine kL 13 rfl ?_)
 refine dT ?_;clear hHeld p0 p1 p2 p3 p4;obtain ⟨aO, cO, rfl, hcO⟩ := hO.slice;rw [zI_len, ks_len] at hO hnO hcO |-;have HVd4 := Lib.hid (HVd.out.up hb2);obtain ⟨q1, q2, q3, q4, g0, g1, -, -, ixd⟩ := HVd4.out.cells;have HO := Lib.hid hO;have HBu := Lib.hid hBu;have HB2 := Lib.hid hb2;have HnO := Lib.hid hnO;have Hbk := Lib.hid hbk2;clear hO hBu hb2 hnO hbk2 HF1 HVd1;go_upto_region 4 with fail;refine wp_region_T (by kernel_rfl) [] (S := fun w' => w'.cell? ⟨w.heap.size + 1, 0, none⟩ = some (.bool q1) /\ w'.cell? ⟨w.heap.size + 1, 1, none⟩ = some (.slice q2 q3 q4)) ⟨g0, g1⟩ (fun hHeld => ?_);(refine kL 0 rfl ?_; refine kL 2 rfl ?_; refine kL 7 rfl ?_)
 clear hHeld
 refine wpAnyT_all [(1, some 29), (3, some 31)] 3 (Fl2 (knC (zI (ks f.R)) q1 q2 q3 q4) (fun B => .slice (some ⟨B, 0, none⟩) 1 1) 3 w4) rfl (by kernel_rfl) (by decide) (by kernel_rfl) (by kernel_rfl) (by kernel_rfl)
  (fun bb xx wz h => ⟨keepc h.bl g0, keepc h.bl g1⟩) (fun xx => Fl2.start _ _ _ _ _) ?_ ?_
 ·intro i hi;have hi' : i = 1 \/ i = 3 := by simpa using hi
  clear hi;rcases hi' with rfl | rfl
  ·refine ⟨_, rfl, fun bb xx wz hJ hbb hw K hK => ?_⟩;clear hbb hw;simp only [actA] at hK |-;go_simp;refine (cloneI_any _ (zI (ks f.R)) wz (HO.out.up hJ.bl).sr (by rw [zI_len, ks_len]; omega)).mono ?_;rintro e w5 ⟨v, rfl, hv, hb⟩;exact hK.out _ _ (hJ.call (fun a b h => by injection h with h; injection h with h; injection h) (i := 1) (by decide) (Z := fun k => v.ownBlock = some k) (fun _ => ⟨hv.base (Nat.zero_le _), fun _ h => h⟩) (fun k hk => hv.lt k hk) hb)
  ·refine ⟨_, rfl, fun bb xx wz hJ hbb hw K hK => ?_⟩;clear hbb hw;simp only [actA] at hK |-;go_simp;exact hK.out _ _ (hJ.var (fun a b h => by injection h with h; injection h with h; injection h) (W' := wz.alloc (.cells #[.bool q1, .slice q2 q3 q4] 29)) (heap_alloc_new _ _) (below_new _ _))
 intro bb xx wz hbb hJ;obtain ⟨Z, hRR, hZ, hZn⟩ := hJ.pr 1 (by decide) (hbb 1 (by decide));obtain ⟨hSo, hSZ⟩ := hRR rfl;obtain ⟨B3, hx3, hB3, hV3⟩ := hJ.pj (hbb 3 (by decide));have hbz := hJ.bl;clear hbb hJ hRR;obtain ⟨aC, cC, hxC, hcC⟩ := hSo.slice;rw [zI_len, ks_len] at hxC hcC;rw [hxC] at hSo hSZ;simp only [actM, hx3, hxC];have hZ4 : ∀ g, (Value.slice aC f.R.length cC).ownBlock = some g -> w4.heap.size <= g := fun g hg => (hZ g (hSZ g hg)).1;have hsc : Sc eI wz B3 0 [(d : Int)] := Sc.one hV3 ⟨q1, q2, q3, q4, rfl, ixd.up hbz⟩;clear hx3 hxC hZ hZn hV3;have hHeld : (fun w' : World => w'.cell? ⟨w.heap.size + 1, 0, none⟩ = some (.bool q1) /\ w'.cell? ⟨w.heap.size + 1, 1, none⟩ = some (.slice q2 q3 q4)) wz := ⟨keepc hbz g0, keepc hbz g1⟩;refine wpAnyT_one (i := 4) (by as_aux_lemma => kernel_rfl) rfl (fun K hK => ?_);refine step_apS (E := eI) (by rfl) (.tmp 29) (.tmp 31) _ (by rfl) Tryz.underlying51 0 _ (zI (ks f.R)) [(d : Int)] (by rfl) hSo (Nat.zero_le _) B3 0 1 1 (by rfl) rfl hsc (by decide) (by rw [zI_len, ks_len]; omega) ?_;intro g5 cap5 w5 h5 hb5 hg5;have hb45 : Below w4.heap.size w4 w5 := ButS.below hbz hb5 hbz.size (fun g hg => hZ4 g hg);have el : zI (ks f.R) ++ [(d : Int)] = zI (ks f.R ++ [d]) := by rw [zI_append]; rfl
 rw [el] at h5;have H5 := Lib.hid h5.sr;have HB45 := Lib.hid hb45;replace g0 := keepc hb45 g0;replace g1 := keepc hb45 g1;have hHeld : (fun w' : World => w'.cell? ⟨w.heap.size + 1, 0, none⟩ = some (.bool q1) /\ w'.cell? ⟨w.heap.size + 1, 1, none⟩ = some (.slice q2 q3 q4)) w5 := ⟨g0, g1⟩;refine hK.out _ _ (fun _ => hHeld) ?_;clear hK hbz hb5 hg5 hb45 h5 el hZ4 hSZ hSo hsc;refine tL ?_;(refine oL 5 rfl fun K hK => tL ?_; go_simp);refine (base_any _ (ks f.R ++ [d]) w5 H5.out (fun x hx => ?_) (by rw [List.length_append, ks_len]; simp; omega) ?_).mono ?_
 ·rcases List.mem_append.1 hx with hx | hx
  ·have := hf.incR.big hx; omega
  ·obtain rfl : x = d := by simpa using hx
   exact h1
 ·refine (Md.prod hm hmd).mono ?_;rw [List.prod_append_nat];exact Nat.mul_le_mul hf.rprod (by simp)
 rintro e w6 ⟨vL, o, rfl, hL, hcb, ⟨hol, hop⟩, hb6⟩;obtain ⟨aL, cL, rfl, hcL⟩ := hL.slice;rw [zI_len] at hL hcL |-;have hb46 : Below w4.heap.size w4 w6 := Bl.up HB45.out hb6
 have hSp : SpI W w6 B vP (.slice none 0 0) f.N (spP f o 0) (spR f o 0) f.B (.slice aO f.R.length cO) (ks f.R) (.slice aL o.length cL) o := by
  have e1 : spP f o 0 = f.P := by simp [spP, kpI_zero, pows]
  have e2 : spR f o 0 = [] := by simp [spR, kpI_zero, pows]
  rw [e1, e2];refine ⟨HBu.out.up hb46, Hbk.out, HO.out.up hb46, HnO.out, hL.base (by have := HB2.out.size; have := HB45.out.size; omega), fun g hg hs => ?_, Bl.up HB2.out hb46⟩;have := (hL.lt g hg).1;have := HB45.out.size;have := HBu.out.slt g hs;omega
 have hflag : spF f o 0 = false := Bool.eq_false_iff.2 fun h => by
  obtain ⟨x, hx, -⟩ := spF_iff.1 h;rw [kpI_zero] at hx
  cases hx
 have HSp := Lib.hid hSp;have HFl := Lib.hid hflag;have HCB := Lib.hid hcb;have HOP := Lib.hid hop;(go_wp2_with fail; clear hHeld; refine nxL hK ⟨keepc hb6 g0, keepc hb6 g1⟩ fun hHeld => tL ?_; clear hK);(refine kL 6 rfl ?_)
 refine dT ?_;clear hHeld g0 g1 hL hb6 hb46 hSp hflag hcb hop HBu HO HB2 HnO Hbk HVd4 H5 HB45 ixd;go_wp2_with fail
 go_loopw [8, 10, 11, 35] (fun s8 s10 s11 s35 wr => ∃ (i : Nat) (vP vR : Value), s35 = .int .i64 (i : Int) /\ i <= o.length /\ s8 = .bool (spF f o i) /\ SpI W wr B vP vR f.N (spP f o i) (spR f o i) f.B (.slice aO f.R.length cO) (ks f.R) (.slice aL o.length cL) o)
  (fun _ _ _ s35 _ => o.length - (intOf s35).toNat)
 case atStart => exact ⟨0, vP, _, rfl, Nat.zero_le _, by rw [HFl.out], HSp.out⟩
 case round =>
  clear HSp HFl;obtain ⟨i, vP, vR, rfl, hi, rfl, hSp⟩ := hrel;have HSp := Lib.hid hSp;clear hSp;by_cases hlt : i < o.length
  ·obtain ⟨ba, offa, rfl, hba, hla⟩ := HSp.out.hL.sr.at (i := i) (by rw [zI_len]; exact hlt);obtain ⟨s1, a1, n1, k1, p0, p1, hx⟩ := hla.int (i := i) (by rw [zI_len]; exact hlt);rw [zI_getD] at hx;have hmem : o.getD i 0 ∈ o := by rw [List.getD_eq_getElem?_getD, List.getElem?_eq_getElem hlt]; exact List.getElem_mem _
   have h2x := HCB.out.cob.1 _ hmem
   have hszx : sz ((o.getD i 0 : Nat) : Int) <= 1099511627776 := by
    refine sz_prod (HOP.out _ hmem) ((Md.prod hm hmd).mono ?_);rw [List.prod_append_nat];exact Nat.mul_le_mul hf.rprod (by simp)
   have hkx := hm.mlt h2x hf.n1 (Nat.le_refl _);have HNO := Lib.hid (fun h => sp_no (f := f) hlt h);have HBO := Lib.hid (show ∀ (w' : World) (vP' vR' : Value), BuO w' B vP' vR' (f.N : Int) (zP (spP f o i)) (zP (spR f o i)) (f.B : Int) ((o.getD i 0 : Nat) : Int) ((mlt (o.getD i 0) f.N : Nat) : Int) -> (∃ r ∈ ks f.R, o.getD i 0 ∣ r) -> Bu w' B vP' vR' (f.N : Int) (zP (spP f o (i + 1))) (zP (spR f o (i + 1))) (f.B : Int) from fun _ _ _ h hd => h.sp hlt hd);have HFL := Lib.hid (fun h => sp_flag (f := f) hlt h);obtain ⟨x, hx0⟩ : ∃ x, o.getD i 0 = x := ⟨_, rfl⟩;rw [hx0] at hx h2x hszx hkx HNO HBO HFL;clear hx0 hmem hla;have i0 : (0 : Int) <= (i : Int) := by omega
   have i1 : (i : Int) < (o.length : Int) := by omega
   go_upto_region 7 with fail;have hV10 := Vx.new (w := wr) (T := 29) rfl hx;have hSp1 := HSp.out.up (below_new _ (.cells #[.bool s1, .slice a1 n1 k1] 29));have hB10 : W.heap.size <= wr.heap.size := HSp.out.hb.size;have hnB : ¬ bset B vP vR wr.heap.size := fun hs => Nat.lt_irrefl _ (HSp.out.hB.slt _ hs);clear p0 p1 hx HSp;generalize wr.heap.size = B10 at *;generalize wr.alloc (.cells #[.bool s1, .slice a1 n1 k1] 29) = wa at *;have HSp := Lib.hid hSp1;have HV10 := Lib.hid hV10;clear hSp1 hV10;go_wp2_with fail;refine (has1_any _ (zI (ks f.R)) 53 #[.pointer (some ⟨B10, 0, none⟩)] (fun r => decide (r % (x : Int) = 0)) _ (enters_of Tryz.func53 (by kernel_rfl) rfl) HSp.out.hO.sr.rw (by rw [zI_len, ks_len]; omega) (fun j hj W' v hbW hv => ?_)).mono ?_
   ·rw [zI_len] at hj;refine splitC_any v _ (x : Int) B10 W' hv (HV10.out.up hbW) (by omega) ?_ hszx;rw [zI_getD];refine Nat.le_trans (hf.szk hm ?_) (by decide);rw [List.getD_eq_getElem?_getD, List.getElem?_eq_getElem hj];rw [ks_append];exact List.mem_append_right _ (List.getElem_mem _)
   rintro e w7 ⟨rfl, hb7⟩
   have hany : ((zI (ks f.R)).any fun r => decide (r % (x : Int) = 0)) = decide (∃ r ∈ ks f.R, x ∣ r) := by
    rw [Bool.eq_iff_iff, List.any_eq_true, decide_eq_true_iff];constructor
    ·rintro ⟨r, hr, h⟩;unfold zI at hr;obtain ⟨y, hy, rfl⟩ := List.mem_map.1 hr;exact ⟨y, hy, Nat.dvd_of_mod_eq_zero (by have := of_decide_eq_true h; omega)⟩
    ·rintro ⟨r, hr, h⟩;exact ⟨(r : Int), mem_zI.2 hr, decide_eq_true (by have := Nat.mod_eq_zero_of_dvd h; omega)⟩
   rw [hany];clear hany;have hSp2 := HSp.out.up hb7;have hV2 := HV10.out.up hb7;clear HSp HV10 hb7;by_cases hdv : ∃ r ∈ ks f.R, x ∣ r
   case neg =>
    rw [decide_eq_false hdv];obtain ⟨e1, e2, e3⟩ := HNO.out hdv;rw [<- e1, <- e2] at hSp2;have HSp := Lib.hid hSp2;have HE3 := Lib.hid e3;clear hSp2 hdv hV2 e1 e2 e3;go_wp2_with fail;refine ⟨⟨i + 1, vP, vR, by go_num, by omega, by rw [HE3.out], HSp.out⟩, by simp [intOf]; omega⟩
   rw [decide_eq_true hdv];have HDV := Lib.hid hdv;clear hdv HNO;obtain ⟨p0, p1, -, -, -, hN1, -, -⟩ := (HF.out.up hSp2.hb).cellsN;obtain ⟨r1, r2, r3, r4, x0, x1, -, -, ix⟩ := hV2.cells;have HSp := Lib.hid hSp2;have HV2 := Lib.hid hV2;clear hSp2 hV2;go_wp2_with fail;refine (ftake_any _ _ f.N x w7 hN1 ix hf.n1 h2x (Nat.le_trans (hm.sz (Nat.le_refl _)) (by decide)) hszx).mono ?_;rintro e w8 ⟨v, rfl, hv, hb8⟩;obtain ⟨s6, a6, n6, k6, rfl⟩ := hv.shape;have hSp3 := HSp.out.up hb8;have hV3 := HV2.out.up hb8;clear HSp HV2 hb8 p0 p1 hN1 x0 x1 ix;go_upto_region 9 with fail;have hlt10 := hV3.lt;have hSp4 := hSp3.up (below_new _ (.cells #[.bool s6, .slice a6 n6 k6] 29));have hV4 := hV3.alloc (.cells #[.bool s6, .slice a6 n6 k6] 29);clear hSp3 hV3 hv;generalize w8.heap.size = B12 at *;generalize w8.alloc (.cells #[.bool s6, .slice a6 n6 k6] 29) = w9 at *;obtain ⟨r1, r2, r3, r4, x0, x1, -, -, ix⟩ := hV4.cells;have hlp := hSp4.lenP hLen hol;have HSp := Lib.hid hSp4;have HV4 := Lib.hid hV4;clear hSp4 hV4;go_wp2_with fail;refine (open_any HSp.out.hB r1 r2 r3 r4 (x : Int) ((mlt x f.N : Nat) : Int) ix hszx hlp.1 hlp.2 (by omega) (by have := hf.b; omega)).mono ?_;rintro e w10 ⟨rfl, vP', vR', q1, q2, q3⟩;have hSp5 := HSp.out.opened (HBO.out _ _ _ q1 HDV.out) q2 q3;have hV5 := HV4.out.fr q2 HSp.out.hB.nw hnB;have HFI := Lib.hid (HFL.out HDV.out);clear HSp HV4 q1 q2 q3 x0 x1 ix HBO HFL hlp;obtain ⟨r1, r2, r3, r4, x0, x1, -, -, ix⟩ := hV5.cells;obtain ⟨fl, hfl⟩ : ∃ fl, spF f o i = fl := ⟨_, rfl⟩;rw [hfl] at HFI |-;have HSp := Lib.hid hSp5;clear hfl hSp5 hV5
   cases fl
   case true =>
    go_wp2_with fail;refine ⟨⟨i + 1, vP', vR', by go_num, by omega, by rw [HFI.out]; rfl, HSp.out⟩, by simp [intOf]; omega⟩
   go_wp2_with fail;refine (has_any _ _ (zI (ks f.R)) (x : Int) w10 HSp.out.hO.sr ix (by rw [zI_len, ks_len]; omega) (fun r hr => ?_) hszx).mono ?_
   ·unfold zI at hr;obtain ⟨y, hy, rfl⟩ := List.mem_map.1 hr;refine Nat.le_trans (hf.szk hm ?_) (by decide);rw [ks_append];exact List.mem_append_right _ hy
   rintro e w11 ⟨rfl, hb11⟩;have hSp6 := HSp.out.up hb11;have hdm : decide ((x : Int) ∈ zI (ks f.R)) = decide (x ∈ ks f.R) := by rw [decide_eq_decide]; exact mem_zI
   rw [hdm];have HSp6 := Lib.hid hSp6;clear hdm HSp hSp6 hb11 x0 x1 ix;go_wp2_with fail;refine ⟨⟨i + 1, vP', vR', by go_num, by omega, by rw [HFI.out]; simp, HSp6.out⟩, by simp [intOf]; omega⟩
  ·obtain rfl : i = o.length := by omega
   obtain ⟨fl, hfl⟩ : ∃ fl, spF f o o.length = fl := ⟨_, rfl⟩;rw [hfl];have HFI := Lib.hid hfl;clear hfl;have hHD := (HSp.out.hb.block (w.heap.size + 2) (Array.getElem?_eq_some_iff.1 HD.out).1).trans HD.out;have hBw := Bl.up HBL.out HSp.out.hb
   cases fl
   case false =>
    have HHD := Lib.hid hHD;obtain ⟨d0, d1, d2, d3, d4, f0, f1, f2, f3, f4⟩ := heap5' hHD;have HBw := Lib.hid hBw;clear hHD hBw;go_wp2_with fail
    have hfin : ButS (fun k => k = w.heap.size + 1 + 1) wr (((((wr.setCell ⟨w.heap.size + 1 + 1, 0, none⟩ (.bool false)).setCell ⟨w.heap.size + 1 + 1, 1, none⟩ (.slice none 0 0)).setCell ⟨w.heap.size + 1 + 1, 2, none⟩ (.slice none 0 0)).setCell ⟨w.heap.size + 1 + 1, 3, none⟩ (.slice none 0 0)).setCell ⟨w.heap.size + 1 + 1, 4, none⟩ (.int .i64 0)) :=
     ((((ButS.set wr _ 0 _).trans (ButS.set _ _ 1 _)).trans (ButS.set _ _ 2 _)).trans (ButS.set _ _ 3 _)).trans (ButS.set _ _ 4 _)
    refine ret_fact2 (B := w.heap.size + 1 + 1) (T := 32) (fr := (0, 0)) (x0 := .bool false) (x1 := .slice none 0 0) (x2 := .slice none 0 0) (x3 := .slice none 0 0) (x4 := .int .i64 0) (y := .int .i64 6) rfl rfl rfl rfl (by simp [World.setCell, Array.getElem?_modify, HHD.out]) ?_;refine ⟨o, HCB.out, ButS.below HBw.out hfin HBw.out.size (fun g e => by omega), .inr ⟨fun h => ?_, _, rfl, ⟨false, none, 0, 0, _, _, rfl, it_zero _, Sr.nil _ _, Sr.nil _ _⟩⟩⟩;have h2 := HFI.out;rw [Bool.eq_false_iff] at h2;refine h2 (spF_iff.2 ?_);rw [kpI_all];exact h
   have hqo : ∀ l : List (Nat × Nat), (∀ p ∈ l, p ∈ f.P \/ p.1 ∈ o) -> ∀ x ∈ zP l, qP x := fun l hl x hx => by
    unfold zP at hx;obtain ⟨p, hp, rfl⟩ := List.mem_map.1 hx;rcases hl p hp with h | h
    ·exact Nat.le_trans (hf.szk hm (ks_mem (List.mem_append_left _ h))) (by decide)
    ·refine Nat.le_trans (sz_prod (HOP.out _ h) ((Md.prod hm hmd).mono ?_)) (by decide);rw [List.prod_append_nat];exact Nat.mul_le_mul hf.rprod (by simp)
   have hpo : ∀ (q : Nat -> Bool) (p : Nat × Nat), p ∈ pows f.N ((kpI f o o.length).filter q) -> p.1 ∈ o := fun q p hp => by
    unfold pows at hp;obtain ⟨y, hy, rfl⟩ := List.mem_map.1 hp;have h2 := (List.mem_filter.1 hy).1;unfold kpI keep at h2;exact List.mem_of_mem_take (List.mem_filter.1 h2).1
   have hq : ∀ x ∈ zP (spP f o o.length), qP x := hqo _ fun p hp => by
    unfold spP at hp;exact (List.mem_append.1 hp).imp id (hpo _ p)
   have hq' : ∀ x ∈ zP (spR f o o.length), qP x := hqo _ fun p hp => .inr (hpo _ p hp);clear hqo hpo;have hlP := Nat.lt_trans (HSp.out.lenP hLen hol).1 (show 1099511627776 < 4611686018427387904 by decide);have hlR := Nat.lt_trans (HSp.out.lenP hLen hol).2 (show 1099511627776 < 4611686018427387904 by decide)
   have hnb : ¬ bset B vP vR (w.heap.size + 1 + 1) := fun hs => by
    have h1 := HSp.out.hk _ hs;have h2 := HSZ.out;clear hlP hlR hq hq';omega
   have HNB := Lib.hid hnb;have HHD := Lib.hid hHD;have HBw := Lib.hid hBw;clear hHD hBw hnb;go_wp2_with fail
   (refine (done_any HSp.out.hB hq hq' hlP hlR).mono ?_
    rintro e w8 ⟨v6, P', R', rfl, hF, hsP, hsR, hbd⟩;have hD6 := (hbd.block (w.heap.size + 1 + 1) (Array.getElem?_eq_some_iff.1 HHD.out).1 (HNB.out)).trans HHD.out;have hW6 := ButS.below HBw.out hbd (HBw.out).size (fun g hs => by have := HSp.out.hk g hs; have := HSZ.out; omega);obtain ⟨sF, aF, nF, cF, vP6, vR6, rfl, hF1, hF2, hF3⟩ := hF;obtain ⟨aP6, cP6, rfl, hF2'⟩ := id hF2;obtain ⟨aR6, cR6, rfl, hF3'⟩ := id hF3;dsimp only at hF1 hF2 hF3 |-;obtain ⟨lP, hlP'⟩ : ∃ lP, P'.length = lP := ⟨_, rfl⟩;obtain ⟨lR, hlR'⟩ : ∃ lR, R'.length = lR := ⟨_, rfl⟩;rw [hlP'] at hF2 |-;rw [hlR'] at hF3 |-;have H1 := Lib.hid hF1;have H2 := Lib.hid hF2;have H3 := Lib.hid hF3;have H6 := Lib.hid hW6;have HP6 := Lib.hid hsP;have HR6 := Lib.hid hsR;have HD6 := Lib.hid hD6;obtain ⟨d0, d1, d2, d3, d4, f0, f1, f2, f3, f4⟩ := heap5' hD6;clear hF1 hF2 hF3 hW6 hsP hsR hD6 hbd hF2' hF3' hlP' hlR';go_wp2_with fail;have hfin := five_but w8 (w.heap.size + 1 + 1) (.bool sF) (.slice aF nF cF) (.slice aP6 lP cP6) (.slice aR6 lR cR6) (.int .i64 f.B);have hnw := five_nw HD6.out;obtain ⟨Pn, hPn, hPs⟩ := HP6.out.nat;obtain ⟨Rn, hRn, hRs⟩ := HR6.out.nat;have hf1 := H1.out.fr hfin hnw;have hf2 := H2.out.fr hfin hnw (fun hl => H2.out.not_fact HD6.out hl);have hf3 := H3.out.fr hfin hnw (fun hl => H3.out.not_fact HD6.out hl);rw [hPn] at hf2;rw [hRn] at hf3;have hW8 := ButS.below H6.out hfin H6.out.size (fun g e => e ▸ (by omega));refine ret_fact2 (B := w.heap.size + 1 + 1) (x0 := .bool sF) (x1 := .slice aF nF cF) (x2 := .slice aP6 lP cP6) (x3 := .slice aR6 lR cR6) (x4 := .int .i64 f.B) (y := .int .i64 0) rfl rfl rfl rfl (five_heap HD6.out _ _ _ _ _) ?_)
   refine ⟨o, HCB.out, hW8, .inl ⟨?_, _, ⟨f.N, Pn, Rn, f.B⟩, rfl, ⟨sF, aF, nF, cF, _, _, rfl, hf1, hf2, hf3⟩, rfl, rfl, ?_, ?_⟩⟩
   ·obtain ⟨x, hx, hn⟩ := spF_iff.1 HFI.out;rw [kpI_all] at hx;exact ⟨x, hx, hn⟩
   ·have e := hPs;unfold spP at e;rw [kpI_all] at e;exact e
   ·have e := hRs;unfold spR at e;rw [kpI_all] at e;exact e
def f0 : Fz := ⟨0, [], [], 0⟩
theorem fx_zero (w : World) : Fx w (.agg #[.bool false, .slice none 0 0, .slice none 0 0, .slice none 0 0, .int .i64 0]) f0 := ⟨false, none, 0, 0, _, _, rfl, it_zero _, Sr.nil _ _, Sr.nil _ _⟩
end Go.Proofs.YtblebpmlkpobnaaGreatDoor
