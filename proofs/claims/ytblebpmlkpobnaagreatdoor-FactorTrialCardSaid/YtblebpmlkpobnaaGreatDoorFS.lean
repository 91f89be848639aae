/-
  The reference of factor: SamePowers, Same, Times.
-/
import Derived.Test.YtblebpmlkpobnaaGreatDoorFN
import Derived.Test.YtblebpmlkpobnaaGreatDoorFH1
import Derived.Test.YtblebpmlkpobnaaGreatDoorFL1
import Derived.Test.YtblebpmlkpobnaaGreatDoorFP1
import Derived.Test.YtblebpmlkpobnaaGreatDoorFM
set_option linter.unusedSimpArgs false
set_option linter.unusedVariables false
set_option maxRecDepth 100000
set_option maxHeartbeats 4000000
namespace Go.Proofs.YtblebpmlkpobnaaGreatDoor
open Go.RowKit
attribute [local go_sem ↓] Go.wp_at_zero Go.wp_at_succ
theorem It.top {w : World} {v : Value} {z : Int} (h : It w v z) : ∃ a cap f, v = .agg #[.bool (decide (z < 0)), .slice a (sz z) cap] /\ Wd w a (sz z) f /\ Wf f (sz z) /\ nv f (sz z) = z.natAbs /\ (sz z ≠ 0 -> f (sz z - 1) ≠ 0) /\ (sz z = 0 -> decide (z < 0) = false) := by
 obtain ⟨a, cap, f, h1, h2, h3, h4, h5, h6⟩ := h.parts;exact ⟨a, cap, f, h1, h3, h4, h6, fun h0 => h5.resolve_left h0, fun h0 => by rw [sz_zero] at h0; simp [h0]⟩
theorem rvalid_any (va : Value) (x : Int) (w : World) (hx : It w va x) (hs : sz x <= 4611686018427387904) :
  Calls Tryz.prog 33 #[va] w fun e w' => e = .returned (.bool true) /\ Below w.heap.size w w' := by
 obtain ⟨a, cap, f, rfl, hw, hf, hv, ht, hz⟩ := hx.top;clear hx hv;generalize sz x = n at *;generalize decide (x < 0) = s at *;have bl := below_new w (.cells #[.bool s, .slice a n cap] 29);rcases Nat.eq_zero_or_pos n with h0 | h0
 ·subst h0;obtain rfl := hz rfl;go_enter Tryz.func33, Tryz.ntmps33
  go_wp2_with fail;go_ret
  exact ⟨rfl, bl⟩
 ·obtain ⟨b, off, rfl, hb, hc⟩ := hw.at (i := n - 1) (by omega);have hck := keepc bl (hc (n - 1) (by omega));have hne : ((f (n - 1) : Int) != 0) = true := by rw [bne_iff_ne]; have := ht (by omega); omega
  have i0 : ((n : Int) == 0) = false := by rw [beq_eq_false_iff_ne]; omega
  have i1 : (n : Int) > 0 := by omega
  have i2 : (0 : Int) <= (n : Int) - 1 := by omega
  have i3 : (n : Int) - 1 < (n : Int) := by omega
  have i4 : ((n : Int) - 1).toNat = n - 1 := by omega
  clear hc hw ht hz;go_enter Tryz.func33, Tryz.ntmps33
  go_wp2_with fail
  all_goals go_ret
  all_goals exact ⟨rfl, bl⟩
theorem rone_any (w : World) : Calls Tryz.prog 29 #[] w fun e w' => ∃ v, e = .returned v /\ It w' v 1 /\ Below w.heap.size w w' := by
 have hx := Vx.new0 (w := w) (T := 29) rfl;go_enter Tryz.func29, Tryz.ntmps29
 go_wp2_with fail;refine (rof_any 1 _ (by decide) (by decide)).mono ?_;rintro e w1 ⟨v, rfl, hv, hb⟩;obtain ⟨s', a', n', cap', rfl⟩ := hv.shape;have hb2 := (below_new w (.cells #[.bool false, .slice none 0 0] 29)).trans (hb.mono (by simp));replace hx := hx.up hb;clear hb;obtain ⟨s, a, k, c, c0, c1, f0, f1, -⟩ := hx.cells;go_wp2_with fail;exact ret_vx (B := w.heap.size) rfl rfl rfl (Vx.put hx.va hv) (fun v hv => ⟨_, rfl, hv, Bl.st hb2 (Nat.le_refl _)⟩)
def topN (f : Nat -> Nat) (n m : Nat) : Nat := nv (fun i => f (m + i)) (n - m)
theorem topN_all (f : Nat -> Nat) (n : Nat) : topN f n 0 = nv f n := by unfold topN; simp
theorem topN_none (f : Nat -> Nat) (n : Nat) : topN f n n = 0 := by unfold topN; simp [nv]
theorem topN_step (f : Nat -> Nat) {n m : Nat} (h : m < n) : topN f n m = f m + 4294967296 * topN f n (m + 1) := by
 unfold topN;obtain ⟨k, hk⟩ : ∃ k, n - m = k + 1 := ⟨n - m - 1, by omega⟩;rw [hk, nv_head, show n - (m + 1) = k by omega];simp only [Nat.add_zero, Nat.add_assoc, Nat.add_comm 1]
theorem rem_any (va : Value) (x d : Nat) (w : World) (hx : It w va x) (hd : 1 <= d) (hd2 : d <= 4294967296) (hs : sz x <= 4611686018427387904) :
  Calls Tryz.prog 67 #[va, .int .u64 d] w fun e w' => e = .returned (.int .u64 ((x % d : Nat) : Int)) /\ Below w.heap.size w w' := by
 obtain ⟨a, cap, f, rfl, hw, hf, hv, -, -⟩ := hx.top;clear hx;rw [show ((x : Int) : Int).natAbs = x by omega] at hv;generalize sz (x : Int) = n at *;generalize decide ((x : Int) < 0) = s at *;have bl := below_new w (.cells #[.bool s, .slice a n cap] 29);have hB := Bx.new w (.bool s) (.slice a n cap) 29;replace hw := hw.up bl;have p0 := hB.c0;have p1 := hB.c1;have HV := Lib.hid hv;clear hv;go_enter Tryz.func67, Tryz.ntmps67
 go_wp2_with fail;generalize w.alloc (.cells #[.bool s, .slice a n cap] 29) = W at *;clear hB
 go_loopw [5, 6] (fun r s wr => ∃ k : Nat, k <= n /\ s = .int .i64 ((k : Int) - 1) /\ r = .int .u64 ((topN f n k % d : Nat) : Int) /\ ∃ q, wr = W.drewN q)
  (fun _ s _ => (intOf s + 1).toNat)
 case atStart => exact ⟨n, Nat.le_refl _, rfl, by rw [topN_none]; simp, 0, rfl⟩
 case round =>
  obtain ⟨k, hk, rfl, rfl, q, rfl⟩ := hrel;rcases k with _ | k
  ·go_wp2_with fail;go_ret
   rw [topN_all, HV.out];exact ⟨rfl, Go.Proofs.YtblebpmlkpobnaaGreatDoor.Below.drewN bl q⟩
  ·obtain ⟨b, off, rfl, hb, hc⟩ := (hw.drewN q).at (i := k) (by omega);have hck := hc k (by omega);have hfk := hf k (by omega);have HS := Lib.hid (topN_step f (n := n) (m := k) (by omega));have hr : topN f n (k + 1) % d < d := Nat.mod_lt _ (by omega);generalize topN f n (k + 1) = t at *;clear hc;have i1 : (0 : Int) <= ((k + 1 : Nat) : Int) - 1 := by omega
   have i2 : ((k + 1 : Nat) : Int) - 1 < (n : Int) := by omega
   have i3 : (((k + 1 : Nat) : Int) - 1).toNat = k := by omega
   go_wp2_with fail;refine ⟨⟨k, by omega, rfl, ?_, _, rfl⟩, by simp [intOf]⟩;have hr' : (t : Int) % (d : Int) = ((t % d : Nat) : Int) := by omega
   rw [hr', or_join _ _ (by omega) (by omega) (by omega) (by omega), HS.out];have e1 : ((t % d : Nat) : Int) * 4294967296 + (f k : Int) = ((f k + 4294967296 * (t % d) : Nat) : Int) := by omega
   rw [e1, Int.tmod_eq_emod_of_nonneg (by omega), <- Int.natCast_emod];congr 2
   simp [Nat.add_mod, Nat.mul_mod]
def hasD (x : Nat) (b : Int) : Bool := decide (∃ d : Nat, d < b.toNat + 1 /\ 2 <= d /\ d ∣ x)
theorem rsmall_any (va : Value) (x : Nat) (b : Int) (w : World) (hx : It w va x) (hb : b <= 65536) (hs : sz x <= 1099511627776) :
  Calls Tryz.prog 38 #[va, .int .i64 b] w fun e w' => e = .returned (.bool (hasD x b)) /\ Below w.heap.size w w' := by
 obtain ⟨s, a, n, c, rfl⟩ := hx.shape;have bl := below_new w (.cells #[.bool s, .slice a n c] 29);have hV := Vx.new (w := w) (T := 29) rfl hx;clear hx;go_enter Tryz.func38, Tryz.ntmps38
 go_wp2_with fail;generalize w.alloc (.cells #[.bool s, .slice a n c] 29) = W at *
 go_loopw [5] (fun s wr => ∃ k : Nat, 2 <= k /\ k <= 65537 /\ s = .int .i64 (k : Int) /\ (∀ d, 2 <= d -> d < k -> ¬ d ∣ x) /\ Below w.heap.size w wr /\ Vx wr w.heap.size x)
  (fun s _ => (b + 1 - intOf s).toNat)
 case atStart => exact ⟨2, by decide, by decide, rfl, fun d h1 h2 => by omega, bl, hV⟩
 case round =>
  obtain ⟨k, h2, h3, rfl, hn, hbl, hv⟩ := hrel;clear bl hV;have HN := Lib.hid hn;clear hn;by_cases hk : (k : Int) <= b
  ·obtain ⟨s1, a1, n1, c1, x0, x1, -, -, hx⟩ := hv.cells;go_wp2_with fail;refine (rem_any _ x k _ hx (by omega) (by omega) (Nat.le_trans hs (by decide))).mono ?_;rintro e w2 ⟨rfl, hb2⟩;replace hv := hv.up hb2;replace hbl := Bl.up hbl hb2;clear hb2 x0 x1 hx;by_cases hd : k ∣ x
   ·have e0 : (((x % k : Nat) : Int) == 0) = true := by rw [beq_iff_eq]; have := Nat.mod_eq_zero_of_dvd hd; omega
    have e2 : ((x : Int) % (k : Int) == 0) = true := by rw [beq_iff_eq]; have := Nat.mod_eq_zero_of_dvd hd; omega
    go_wp2_with fail;go_ret
    refine ⟨ret_of (congrArg Value.bool ?_), hbl⟩;exact (decide_eq_true ⟨k, by omega, h2, hd⟩).symm
   ·have e1 : ¬ x % k = 0 := fun h => hd (Nat.dvd_of_mod_eq_zero h);have e0 : (((x % k : Nat) : Int) == 0) = false := by rw [beq_eq_false_iff_ne]; omega
    have e2 : ((x : Int) % (k : Int) == 0) = false := by rw [beq_eq_false_iff_ne]; omega
    go_wp2_with fail;refine ⟨⟨k + 1, by omega, by omega, by go_num, fun d h1 h2 => ?_, hbl, hv⟩, by simp [intOf]; omega⟩;by_cases e : d = k
    ·subst e; exact hd
    ·exact HN.out d h1 (by omega)
  ·go_wp2_with fail;go_ret
   refine ⟨ret_of (congrArg Value.bool ?_), hbl⟩;exact (decide_eq_false (by rintro ⟨d, h4, h5, h6⟩; exact HN.out d h5 (by omega) h6)).symm
def OrdAt (l : List (Int × Int)) (i : Nat) : Prop := 2 <= (l.getD i (0, 0)).1 /\ 1 <= (l.getD i (0, 0)).2 /\ (0 < i -> (l.getD (i - 1) (0, 0)).1 < (l.getD i (0, 0)).1)
noncomputable def ordB (l : List (Int × Int)) : Bool := @decide (∀ i, i < l.length -> OrdAt l i) (Classical.propDecidable _)
theorem ordB_iff {l : List (Int × Int)} : ordB l = true ↔ ∀ i, i < l.length -> OrdAt l i := by unfold ordB; exact @decide_eq_true_iff _ (Classical.propDecidable _)
theorem ordB_of {l : List (Int × Int)} (h : ∀ i, i < l.length -> OrdAt l i) : ordB l = true := ordB_iff.2 h
theorem ordB_not {l : List (Int × Int)} {i : Nat} (hi : i < l.length) (h : ¬ OrdAt l i) : ordB l = false := Bool.eq_false_iff.2 fun hh => h (ordB_iff.1 hh i hi)
theorem ordB_inc {l : List (Int × Int)} : ordB l = true ↔ ∃ m, l = zP m /\ Inc m := by
 rw [ordB_iff];have hg : ∀ {l : List (Int × Int)} {i : Nat} (hi : i < l.length), l.getD i (0, 0) = l[i] := fun {l i} hi => by simp [List.getD_eq_getElem?_getD, hi]
 constructor
 ·intro h;refine ⟨l.map fun p => (p.1.toNat, p.2.toNat), ?_, ?_, ?_⟩
  ·unfold zP;rw [List.map_map];conv => lhs; rw [<- List.map_id l]
   refine List.map_congr_left fun p hp => ?_;obtain ⟨i, hi, rfl⟩ := List.getElem_of_mem hp;obtain ⟨h1, h2, -⟩ := h i hi;rw [hg hi] at h1 h2;refine Prod.ext ?_ ?_
   ·show l[i].1 = ((l[i].1.toNat : Nat) : Int); omega
   ·show l[i].2 = ((l[i].2.toNat : Nat) : Int); omega
  ·intro p hp;obtain ⟨q, hq, rfl⟩ := List.mem_map.1 hp;obtain ⟨i, hi, rfl⟩ := List.getElem_of_mem hq;obtain ⟨h1, h2, -⟩ := h i hi;rw [hg hi] at h1 h2;exact ⟨by show 2 <= l[i].1.toNat; omega, by show 1 <= l[i].2.toNat; omega⟩
  ·have key : ∀ j i, (hij : i < j) -> (hj : j < l.length) -> (l[i]'(by omega)).1 < l[j].1 := by
    intro j;induction j with
    | zero => intro i h; omega
    | succ j ih =>
      intro i hij hj;obtain ⟨-, -, h3⟩ := h (j + 1) hj;have h3 := h3 (by omega);rw [hg hj, show j + 1 - 1 = j by omega, hg (by omega)] at h3;by_cases e : i = j
      ·subst e; exact h3
      ·have := ih i (by omega) (by omega);omega
   rw [List.pairwise_map];rw [List.pairwise_iff_getElem];intro i j hi hj hij;have h1 := key j i hij hj;obtain ⟨h2, -, -⟩ := h i hi;rw [hg hi] at h2;show (l[i].1.toNat : Nat) < l[j].1.toNat
   omega
 ·rintro ⟨m, rfl, h1, h2⟩ i hi;have hi' : i < m.length := by rw [zP_len] at hi; exact hi
  have e : ∀ j, j < m.length -> (zP m).getD j (0, 0) = (((m.getD j (0, 0)).1 : Int), ((m.getD j (0, 0)).2 : Int)) := fun j hj => by
   simp [zP, List.getD_eq_getElem?_getD, hj]
  unfold OrdAt;rw [e i hi', e (i - 1) (by omega)];have hm : m.getD i (0, 0) = m[i] := by simp [List.getD_eq_getElem?_getD, hi']
  have := h1 _ (List.getElem_mem hi');rw [hm];refine ⟨by show (2 : Int) <= (m[i].1 : Int); omega, by show (1 : Int) <= (m[i].2 : Int); omega, fun h0 => ?_⟩;have hm' : m.getD (i - 1) (0, 0) = m[i - 1] := by simp [List.getD_eq_getElem?_getD, show i - 1 < m.length by omega]
  rw [hm'];have := List.pairwise_iff_getElem.1 h2 (i - 1) i (by omega) hi' (by omega);show (m[i - 1].1 : Int) < (m[i].1 : Int)
  omega
theorem rordered_any (va : Value) (l : List (Int × Int)) (w : World) (ha : Sr eP w va l) (hL : szL l) :
  Calls Tryz.prog 35 #[va] w fun e w' => e = .returned (.bool (ordB l)) /\ Below w.heap.size w w' := by
 obtain ⟨a, ca, rfl, hra⟩ := id ha;clear hra;have hN := hL.1;go_enter Tryz.func35, Tryz.ntmps35
 go_wp2_with fail
 go_loopw [3] (fun s wr => ∃ (i : Nat), i <= l.length /\ s = .int .i64 i /\ (∀ j, j < i -> OrdAt l j) /\ Below w.heap.size w wr)
  (fun s _ => l.length - (intOf s).toNat)
 case atStart => exact ⟨0, Nat.zero_le _, rfl, fun j hj => absurd hj (Nat.not_lt_zero _), Below.refl _ _⟩
 case round =>
  obtain ⟨i, hi, rfl, hval, hbl⟩ := hrel;have HV := Lib.hid hval;clear hval;by_cases hlt : i < l.length
  ·obtain ⟨j, hj⟩ : ∃ j, j = i - 1 := ⟨_, rfl⟩;have hlj : j < l.length := by omega
   have hs1 := hL.at hlt;have hs2 := hL.at hlj;obtain ⟨ba, offa, rfl, hba, hla⟩ := (ha.up hbl).at hlt;obtain ⟨s1, a1, n1, k1, p0, p1, p2, hx⟩ := hla.pow hlt;obtain ⟨s2, a2, n2, k2, q0, q1, q2, hy⟩ := hla.pow hlj;clear hla ha;have i0 : (0 : Int) <= (i : Int) := by omega
   have i1 : (i : Int) < (l.length : Int) := by omega
   have i2 : (j : Int) < (l.length : Int) := by omega
   have i4 : (0 : Int) <= (j : Int) := by omega
   have HO := Lib.hid (show (OrdAt l i ↔ 2 <= (l.getD i (0, 0)).1 /\ 1 <= (l.getD i (0, 0)).2 /\ (0 < i -> (l.getD j (0, 0)).1 < (l.getD i (0, 0)).1)) from by rw [hj]; rfl);generalize l.getD i (0, 0) = x at *;generalize l.getD j (0, 0) = y at *;go_upto_region 4 with fail;refine wp_region_T (by kernel_rfl) [] (S := fun w' => w'.cell? ⟨ba, offa + i * 3, none⟩ = some (.bool s1) /\ w'.cell? ⟨ba, offa + i * 3 + 1, none⟩ = some (.slice a1 n1 k1) /\ w'.cell? ⟨ba, offa + i * 3 + 2, none⟩ = some (.int .i64 x.2) /\ w'.cell? ⟨ba, offa + j * 3, none⟩ = some (.bool s2) /\ w'.cell? ⟨ba, offa + j * 3 + 1, none⟩ = some (.slice a2 n2 k2)) ⟨p0, p1, p2, q0, q1⟩ (fun hHeld => ?_);replace hx := hx.drew;replace hy := hy.drew;replace hbl := Bl.drew hbl;(refine kL 0 rfl ?_; refine kL 1 rfl ?_; refine kL 2 rfl ?_; refine kL 3 rfl ?_; refine kL 4 rfl ?_)
   (refine oL 5 rfl fun K hK => tL ?_; go_simp);refine (rvalid_any _ x.1 _ hx (Nat.le_trans hs1 (by decide))).mono ?_;rintro e w2 ⟨rfl, hb2⟩;replace hbl := Bl.up hbl hb2;replace hx := hx.up hb2;replace hy := hy.up hb2;replace p0 := keepc hb2 (cellD p0);replace p1 := keepc hb2 (cellD p1);replace p2 := keepc hb2 (cellD p2);replace q0 := keepc hb2 (cellD q0);replace q1 := keepc hb2 (cellD q1);clear hb2;(go_wp2_with fail; clear hHeld; refine nxL hK ⟨p0, p1, p2, q0, q1⟩ fun hHeld => tL ?_; clear hK);(refine kL 6 rfl ?_; refine kL 7 rfl ?_; refine kL 8 rfl ?_; refine kL 9 rfl ?_; refine kL 10 rfl ?_; refine kL 11 rfl ?_; refine kL 12 rfl ?_)
   (refine oL 13 rfl fun K hK => tL ?_; go_simp);refine (rof_any 2 w2 (by decide) (by decide)).mono ?_;rintro e w3 ⟨v2, rfl, hv2, hb2⟩;replace hbl := Bl.up hbl hb2;replace hx := hx.up hb2;replace hy := hy.up hb2;replace p0 := keepc hb2 p0;replace p1 := keepc hb2 p1;replace p2 := keepc hb2 p2;replace q0 := keepc hb2 q0;replace q1 := keepc hb2 q1;clear hb2;(go_wp2_with fail; clear hHeld; refine nxL hK ⟨p0, p1, p2, q0, q1⟩ fun hHeld => tL ?_; clear hK);(refine oL 14 rfl fun K hK => tL ?_; go_simp);refine (rcmp_any _ _ x.1 2 w3 hx hv2 (Nat.le_trans hs1 (by decide)) (by decide)).mono ?_;rintro e w4 ⟨rfl, hb2⟩;replace hbl := Bl.up hbl hb2;replace hx := hx.up hb2;replace hy := hy.up hb2;replace p0 := keepc hb2 p0;replace p1 := keepc hb2 p1;replace p2 := keepc hb2 p2;replace q0 := keepc hb2 q0;replace q1 := keepc hb2 q1;clear hb2 hv2;(go_wp2_with fail; clear hHeld; refine nxL hK ⟨p0, p1, p2, q0, q1⟩ fun hHeld => tL ?_; clear hK);by_cases c1 : x.1 < 2
   ·rw [cmpI_lt c1];(refine kL 15 rfl ?_; refine kL 16 rfl ?_; refine kL 17 rfl ?_)
    (refine uL 18 rfl ?_; refine uL 19 rfl ?_; refine uL 20 rfl ?_; refine uL 21 rfl ?_; refine uL 22 rfl ?_; refine uL 23 rfl ?_)
    (refine kL 24 rfl ?_; refine kL 25 rfl ?_)
    (refine uL 26 rfl ?_; refine uL 27 rfl ?_; refine uL 28 rfl ?_; refine uL 29 rfl ?_; refine uL 30 rfl ?_; refine uL 31 rfl ?_; refine uL 32 rfl ?_; refine uL 33 rfl ?_; refine uL 34 rfl ?_; refine uL 35 rfl ?_; refine uL 36 rfl ?_; refine uL 37 rfl ?_; refine uL 38 rfl ?_; refine uL 39 rfl ?_; refine uL 40 rfl ?_; refine uL 41 rfl ?_; refine uL 42 rfl ?_)
    (refine kL 43 rfl ?_)
    refine dT ?_;go_wp2_with fail;go_ret
    exact ⟨ret_of (congrArg Value.bool (ordB_not hlt (fun h => by have := (HO.out.1 h).1; omega)).symm), hbl⟩
   have d1 : ¬ cmpI x.1 2 < 0 := by unfold cmpI; rw [if_neg c1]; split <;> decide
   generalize cmpI x.1 2 = cc at *;(refine kL 15 rfl ?_; refine kL 16 rfl ?_; refine kL 17 rfl ?_; refine kL 18 rfl ?_; refine kL 19 rfl ?_; refine kL 20 rfl ?_; refine kL 21 rfl ?_; refine kL 22 rfl ?_)
   by_cases c2 : x.2 < 1
   ·(refine kL 23 rfl ?_; refine kL 24 rfl ?_; refine kL 25 rfl ?_)
    (refine uL 26 rfl ?_; refine uL 27 rfl ?_; refine uL 28 rfl ?_; refine uL 29 rfl ?_; refine uL 30 rfl ?_; refine uL 31 rfl ?_; refine uL 32 rfl ?_; refine uL 33 rfl ?_; refine uL 34 rfl ?_; refine uL 35 rfl ?_; refine uL 36 rfl ?_; refine uL 37 rfl ?_; refine uL 38 rfl ?_; refine uL 39 rfl ?_; refine uL 40 rfl ?_; refine uL 41 rfl ?_; refine uL 42 rfl ?_)
    (refine kL 43 rfl ?_)
    refine dT ?_;go_wp2_with fail;go_ret
    exact ⟨ret_of (congrArg Value.bool (ordB_not hlt (fun h => by have := (HO.out.1 h).2.1; omega)).symm), hbl⟩
   (refine kL 23 rfl ?_; refine kL 24 rfl ?_; refine kL 25 rfl ?_; refine kL 26 rfl ?_)
   by_cases c3 : 0 < i
   ·have i5 : (i : Int) > 0 := by omega
    have i6 : (i : Int) - 1 = (j : Int) := by omega
    have i7 : IntKind.i64.wrap (j : Int) = (j : Int) := by rw [IntKind.wrap_i64]; omega
    have i8 : i - 1 = j := hj.symm;clear hj;(refine kL 27 rfl ?_; refine kL 28 rfl ?_; refine kL 29 rfl ?_; refine kL 30 rfl ?_; refine kL 31 rfl ?_; refine kL 32 rfl ?_; refine kL 33 rfl ?_; refine kL 34 rfl ?_; refine kL 35 rfl ?_; refine kL 36 rfl ?_; refine kL 37 rfl ?_; refine kL 38 rfl ?_; refine kL 39 rfl ?_)
    (refine oL 40 rfl fun K hK => tL ?_; go_simp);refine (rcmp_any _ _ y.1 x.1 w4 hy hx (Nat.le_trans hs2 (by decide)) (Nat.le_trans hs1 (by decide))).mono ?_;rintro e w5 ⟨rfl, hb2⟩;replace hbl := Bl.up hbl hb2;(go_wp2_with fail; clear hHeld; refine nxL hK ⟨keepc hb2 p0, keepc hb2 p1, keepc hb2 p2, keepc hb2 q0, keepc hb2 q1⟩ fun hHeld => tL ?_; clear hK);by_cases c4 : y.1 < x.1
    ·rw [cmpI_lt c4];(refine kL 41 rfl ?_; refine kL 42 rfl ?_; refine kL 43 rfl ?_)
     refine dT ?_;clear hHeld p0 p1 p2 q0 q1 hb2 hx hy i6;go_wp2_with fail;go_roundw
     case rel =>
      refine ⟨i + 1, by omega, by go_num, fun j' hj' => ?_, hbl⟩;by_cases e : j' = i
      ·subst e; exact HO.out.2 ⟨by omega, by omega, fun _ => c4⟩
      ·exact HV.out j' (by omega)
     case measure => simp [intOf]; omega
    ·have d4 : cmpI y.1 x.1 >= 0 := by unfold cmpI; rw [if_neg c4]; split <;> decide
     generalize cmpI y.1 x.1 = cc at *;(refine kL 41 rfl ?_; refine kL 42 rfl ?_; refine kL 43 rfl ?_)
     refine dT ?_;go_wp2_with fail;go_ret
     exact ⟨ret_of (congrArg Value.bool (ordB_not hlt (fun h => by have := (HO.out.1 h).2.2 c3; omega)).symm), hbl⟩
   ·have i5 : ¬ (i : Int) > 0 := by omega
    (refine kL 27 rfl ?_; refine kL 28 rfl ?_)
    (refine uL 29 rfl ?_; refine uL 30 rfl ?_; refine uL 31 rfl ?_; refine uL 32 rfl ?_; refine uL 33 rfl ?_; refine uL 34 rfl ?_; refine uL 35 rfl ?_; refine uL 36 rfl ?_; refine uL 37 rfl ?_; refine uL 38 rfl ?_; refine uL 39 rfl ?_; refine uL 40 rfl ?_; refine uL 41 rfl ?_)
    (refine kL 42 rfl ?_; refine kL 43 rfl ?_)
    refine dT ?_;clear hHeld p0 p1 p2 q0 q1 hx hy;go_wp2_with fail;go_roundw
    case rel =>
     refine ⟨i + 1, by omega, by go_num, fun j' hj' => ?_, hbl⟩;by_cases e : j' = i
     ·subst e; exact HO.out.2 ⟨by omega, by omega, fun h => absurd h c3⟩
     ·exact HV.out j' (by omega)
    case measure => simp [intOf]; omega
  ·have hin : i = l.length := by omega
   subst hin;go_wp2_with fail;go_ret
   exact ⟨ret_of (congrArg Value.bool (ordB_of HV.out).symm), hbl⟩
theorem valid_any (va : Value) (x : Int) (w : World) (hx : It w va x) (hs : sz x <= 4611686018427387904) :
  Calls Tryz.prog 40 #[va] w fun e w' => e = .returned (.bool true) /\ Below w.heap.size w w' := by
 obtain ⟨a, cap, f, rfl, hw, hf, hv, ht, hz⟩ := hx.top;clear hx hv;generalize sz x = n at *;generalize decide (x < 0) = s at *;have bl := below_new w (.cells #[.bool s, .slice a n cap] 29);rcases Nat.eq_zero_or_pos n with h0 | h0
 ·subst h0;obtain rfl := hz rfl;go_enter Tryz.func40, Tryz.ntmps40
  go_wp2_with fail;go_ret
  exact ⟨rfl, bl⟩
 ·obtain ⟨b, off, rfl, hb, hc⟩ := hw.at (i := n - 1) (by omega);have hck := keepc bl (hc (n - 1) (by omega));have hne : ((f (n - 1) : Int) != 0) = true := by rw [bne_iff_ne]; have := ht (by omega); omega
  have i0 : ((n : Int) == 0) = false := by rw [beq_eq_false_iff_ne]; omega
  have i2 : (0 : Int) <= (n : Int) - 1 := by omega
  have i3 : (n : Int) - 1 < (n : Int) := by omega
  have i4 : ((n : Int) - 1).toNat = n - 1 := by omega
  clear hc hw ht hz;go_enter Tryz.func40, Tryz.ntmps40
  go_wp2_with fail
  all_goals go_ret
  all_goals exact ⟨rfl, bl⟩
theorem increasing_any (va : Value) (l : List (Int × Int)) (w : World) (ha : Sr eP w va l) (hL : szL l) :
  Calls Tryz.prog 41 #[va] w fun e w' => e = .returned (.bool (ordB l)) /\ Below w.heap.size w w' := by
 obtain ⟨a, ca, rfl, hra⟩ := id ha;clear hra;have hN := hL.1;go_enter Tryz.func41, Tryz.ntmps41
 go_wp2_with fail
 go_loopw [3, 7] (fun s3 s wr => ∃ (i : Nat), i <= l.length /\ s = .int .i64 i /\ (∀ j, j < i -> OrdAt l j) /\ Below w.heap.size w wr)
  (fun _ s _ => l.length - (intOf s).toNat)
 case atStart => exact ⟨0, Nat.zero_le _, rfl, fun j hj => absurd hj (Nat.not_lt_zero _), Below.refl _ _⟩
 case round =>
  obtain ⟨i, hi, rfl, hval, hbl⟩ := hrel;have HV := Lib.hid hval;clear hval;by_cases hlt : i < l.length
  ·obtain ⟨j, hj⟩ : ∃ j, j = i - 1 := ⟨_, rfl⟩;have hlj : j < l.length := by omega
   have hs1 := hL.at hlt;have hs2 := hL.at hlj;obtain ⟨ba, offa, rfl, hba, hla⟩ := (ha.up hbl).at hlt;obtain ⟨s1, a1, n1, k1, p0, p1, p2, hx⟩ := hla.pow hlt;obtain ⟨s2, a2, n2, k2, q0, q1, q2, hy⟩ := hla.pow hlj;clear hla ha;have i0 : (0 : Int) <= (i : Int) := by omega
   have i1 : (i : Int) < (l.length : Int) := by omega
   have i2 : (j : Int) < (l.length : Int) := by omega
   have i4 : (0 : Int) <= (j : Int) := by omega
   have HO := Lib.hid (show (OrdAt l i ↔ 2 <= (l.getD i (0, 0)).1 /\ 1 <= (l.getD i (0, 0)).2 /\ (0 < i -> (l.getD j (0, 0)).1 < (l.getD i (0, 0)).1)) from by rw [hj]; rfl);generalize l.getD i (0, 0) = x at *;generalize l.getD j (0, 0) = y at *;go_upto_region 4 with fail;have hD := heap_alloc_new wr (.cells #[.bool s1, .slice a1 n1 k1, .int .i64 x.2] 41);replace hx := hx.alloc (.cells #[.bool s1, .slice a1 n1 k1, .int .i64 x.2] 41);replace hy := hy.alloc (.cells #[.bool s1, .slice a1 n1 k1, .int .i64 x.2] 41);replace hbl := Bl.alloc hbl (.cells #[.bool s1, .slice a1 n1 k1, .int .i64 x.2] 41);replace q0 := cellN q0 (.cells #[.bool s1, .slice a1 n1 k1, .int .i64 x.2] 41);replace q1 := cellN q1 (.cells #[.bool s1, .slice a1 n1 k1, .int .i64 x.2] 41);replace q2 := cellN q2 (.cells #[.bool s1, .slice a1 n1 k1, .int .i64 x.2] 41);clear p0 p1 p2 hba;generalize wr.heap.size = B4 at *;generalize wr.alloc (.cells #[.bool s1, .slice a1 n1 k1, .int .i64 x.2] 41) = wa at *;have p0 : wa.cell? ⟨B4, 0, none⟩ = some (.bool s1) := by simp [World.cell?, hD]
   have p1 : wa.cell? ⟨B4, 1, none⟩ = some (.slice a1 n1 k1) := by simp [World.cell?, hD]
   have p2 : wa.cell? ⟨B4, 2, none⟩ = some (.int .i64 x.2) := by simp [World.cell?, hD]
   clear hD;refine wp_region_T (by kernel_rfl) [] (S := fun w' => w'.cell? ⟨B4, 0, none⟩ = some (.bool s1) /\ w'.cell? ⟨B4, 1, none⟩ = some (.slice a1 n1 k1) /\ w'.cell? ⟨B4, 2, none⟩ = some (.int .i64 x.2) /\ w'.cell? ⟨ba, offa + j * 3, none⟩ = some (.bool s2) /\ w'.cell? ⟨ba, offa + j * 3 + 1, none⟩ = some (.slice a2 n2 k2) /\ w'.cell? ⟨ba, offa + j * 3 + 2, none⟩ = some (.int .i64 y.2)) ⟨p0, p1, p2, q0, q1, q2⟩ (fun hHeld => ?_);replace hx := hx.drew;replace hy := hy.drew;replace hbl := Bl.drew hbl;(refine kL 0 rfl ?_; refine kL 1 rfl ?_)
   (refine oL 2 rfl fun K hK => tL ?_; go_simp);refine (valid_any _ x.1 _ hx (Nat.le_trans hs1 (by decide))).mono ?_;rintro e w2 ⟨rfl, hb2⟩;replace hbl := Bl.up hbl hb2;replace hx := hx.up hb2;replace hy := hy.up hb2;replace p0 := keepc hb2 (cellD p0);replace p1 := keepc hb2 (cellD p1);replace p2 := keepc hb2 (cellD p2);replace q0 := keepc hb2 (cellD q0);replace q1 := keepc hb2 (cellD q1);replace q2 := keepc hb2 (cellD q2);clear hb2;(go_wp2_with fail; clear hHeld; refine nxL hK ⟨p0, p1, p2, q0, q1, q2⟩ fun hHeld => tL ?_; clear hK);(refine kL 3 rfl ?_; refine kL 4 rfl ?_; refine kL 5 rfl ?_; refine kL 6 rfl ?_)
   (refine oL 7 rfl fun K hK => tL ?_; go_simp);refine (number_any 2 w2 (by decide) (by decide)).mono ?_;rintro e w3 ⟨v2, rfl, hv2, hb2⟩;replace hbl := Bl.up hbl hb2;replace hx := hx.up hb2;replace hy := hy.up hb2;replace p0 := keepc hb2 p0;replace p1 := keepc hb2 p1;replace p2 := keepc hb2 p2;replace q0 := keepc hb2 q0;replace q1 := keepc hb2 q1;replace q2 := keepc hb2 q2;clear hb2;(go_wp2_with fail; clear hHeld; refine nxL hK ⟨p0, p1, p2, q0, q1, q2⟩ fun hHeld => tL ?_; clear hK);(refine oL 8 rfl fun K hK => tL ?_; go_simp);refine (cmp_any _ _ x.1 2 w3 hx hv2 (Nat.le_trans hs1 (by decide)) (by decide)).mono ?_;rintro e w4 ⟨rfl, hb2⟩;replace hbl := Bl.up hbl hb2;replace hx := hx.up hb2;replace hy := hy.up hb2;replace p0 := keepc hb2 p0;replace p1 := keepc hb2 p1;replace p2 := keepc hb2 p2;replace q0 := keepc hb2 q0;replace q1 := keepc hb2 q1;replace q2 := keepc hb2 q2;clear hb2 hv2;(go_wp2_with fail; clear hHeld; refine nxL hK ⟨p0, p1, p2, q0, q1, q2⟩ fun hHeld => tL ?_; clear hK);by_cases c1 : x.1 < 2
   ·rw [cmpI_lt c1];(refine kL 9 rfl ?_; refine kL 10 rfl ?_; refine kL 11 rfl ?_)
    (refine uL 12 rfl ?_; refine uL 13 rfl ?_; refine uL 14 rfl ?_)
    (refine kL 15 rfl ?_; refine kL 16 rfl ?_)
    (refine uL 17 rfl ?_; refine uL 18 rfl ?_; refine uL 19 rfl ?_; refine uL 20 rfl ?_; refine uL 21 rfl ?_; refine uL 22 rfl ?_; refine uL 23 rfl ?_; refine uL 24 rfl ?_; refine uL 25 rfl ?_; refine uL 26 rfl ?_; refine uL 27 rfl ?_; refine uL 28 rfl ?_)
    (refine kL 29 rfl ?_)
    refine dT ?_;go_wp2_with fail;go_ret
    exact ⟨ret_of (congrArg Value.bool (ordB_not hlt (fun h => by have := (HO.out.1 h).1; omega)).symm), hbl⟩
   have d1 : ¬ cmpI x.1 2 < 0 := by unfold cmpI; rw [if_neg c1]; split <;> decide
   generalize cmpI x.1 2 = cc at *;(refine kL 9 rfl ?_; refine kL 10 rfl ?_; refine kL 11 rfl ?_; refine kL 12 rfl ?_; refine kL 13 rfl ?_)
   by_cases c2 : x.2 < 1
   ·(refine kL 14 rfl ?_; refine kL 15 rfl ?_; refine kL 16 rfl ?_)
    (refine uL 17 rfl ?_; refine uL 18 rfl ?_; refine uL 19 rfl ?_; refine uL 20 rfl ?_; refine uL 21 rfl ?_; refine uL 22 rfl ?_; refine uL 23 rfl ?_; refine uL 24 rfl ?_; refine uL 25 rfl ?_; refine uL 26 rfl ?_; refine uL 27 rfl ?_; refine uL 28 rfl ?_)
    (refine kL 29 rfl ?_)
    refine dT ?_;go_wp2_with fail;go_ret
    exact ⟨ret_of (congrArg Value.bool (ordB_not hlt (fun h => by have := (HO.out.1 h).2.1; omega)).symm), hbl⟩
   (refine kL 14 rfl ?_; refine kL 15 rfl ?_; refine kL 16 rfl ?_; refine kL 17 rfl ?_)
   by_cases c3 : 0 < i
   ·have i5 : (i : Int) > 0 := by omega
    have i6 : (i : Int) - 1 = (j : Int) := by omega
    have i7 : IntKind.i64.wrap (j : Int) = (j : Int) := by rw [IntKind.wrap_i64]; omega
    have i8 : i - 1 = j := hj.symm;clear hj;(refine kL 18 rfl ?_; refine kL 19 rfl ?_; refine kL 20 rfl ?_; refine kL 21 rfl ?_; refine kL 22 rfl ?_; refine kL 23 rfl ?_; refine kL 24 rfl ?_; refine kL 25 rfl ?_)
    (refine oL 26 rfl fun K hK => tL ?_; go_simp);refine (compare_gr s2 s1 a2 a1 n2 n1 k2 k1 y.1 x.1 y.2 x.2 w4 hy hx (Nat.le_trans hs2 (by decide)) (Nat.le_trans hs1 (by decide))).mono ?_;rintro e w5 ⟨rfl, hgr⟩;have hb2 := hgr.below;clear hgr;replace hbl := Bl.up hbl hb2;(go_wp2_with fail; clear hHeld; refine nxL hK ⟨keepc hb2 p0, keepc hb2 p1, keepc hb2 p2, keepc hb2 q0, keepc hb2 q1, keepc hb2 q2⟩ fun hHeld => tL ?_; clear hK);by_cases c4 : y.1 < x.1
    ·rw [cmpI_lt c4];(refine kL 27 rfl ?_; refine kL 28 rfl ?_; refine kL 29 rfl ?_)
     refine dT ?_;clear hHeld p0 p1 p2 q0 q1 q2 hb2 hx hy i6;go_wp2_with fail;go_roundw
     case rel =>
      refine ⟨i + 1, by omega, by go_num, fun j' hj' => ?_, hbl⟩;by_cases e : j' = i
      ·subst e; exact HO.out.2 ⟨by omega, by omega, fun _ => c4⟩
      ·exact HV.out j' (by omega)
     case measure => simp [intOf]; omega
    ·have d4 : cmpI y.1 x.1 >= 0 := by unfold cmpI; rw [if_neg c4]; split <;> decide
     generalize cmpI y.1 x.1 = cc at *;(refine kL 27 rfl ?_; refine kL 28 rfl ?_; refine kL 29 rfl ?_)
     refine dT ?_;go_wp2_with fail;go_ret
     exact ⟨ret_of (congrArg Value.bool (ordB_not hlt (fun h => by have := (HO.out.1 h).2.2 c3; omega)).symm), hbl⟩
   ·have i5 : ¬ (i : Int) > 0 := by omega
    (refine kL 18 rfl ?_; refine kL 19 rfl ?_)
    (refine uL 20 rfl ?_; refine uL 21 rfl ?_; refine uL 22 rfl ?_; refine uL 23 rfl ?_; refine uL 24 rfl ?_; refine uL 25 rfl ?_; refine uL 26 rfl ?_; refine uL 27 rfl ?_)
    (refine kL 28 rfl ?_; refine kL 29 rfl ?_)
    refine dT ?_;clear hHeld p0 p1 p2 q0 q1 q2 hx hy;go_wp2_with fail;go_roundw
    case rel =>
     refine ⟨i + 1, by omega, by go_num, fun j' hj' => ?_, hbl⟩;by_cases e : j' = i
     ·subst e; exact HO.out.2 ⟨by omega, by omega, fun h => absurd h c3⟩
     ·exact HV.out j' (by omega)
    case measure => simp [intOf]; omega
  ·have hin : i = l.length := by omega
   subst hin;go_wp2_with fail;go_ret
   exact ⟨ret_of (congrArg Value.bool (ordB_of HV.out).symm), hbl⟩
theorem rall_any (va : Value) (f : Fz) (w : World) (h : Fx w va f) (hP : f.P.length <= 549755813888) (hR : f.R.length <= 549755813888) :
  Calls Tryz.prog 36 #[va] w fun e w' => ∃ v, e = .returned v /\ So eP w' w.heap.size v (f.P ++ f.R) /\ Below w.heap.size w w' := by
 obtain ⟨W, s, a, n, c, aP, cP, aR, cR, rfl, hW, bl, hs, hF⟩ := boxF w h;clear h;go_enter Tryz.func36, Tryz.ntmps36
 go_upto_region 1 with fail;rw [<- hW];clear hW;obtain ⟨p0, p1, p2, p3, p4⟩ := hF.cells;refine wp_region_T (by kernel_rfl) [] (S := fun w' => w'.cell? ⟨w.heap.size, 2, none⟩ = some (.slice aP f.P.length cP) /\ w'.cell? ⟨w.heap.size, 3, none⟩ = some (.slice aR f.R.length cR)) ⟨p2, p3⟩ (fun hHeld => ?_);(refine kL 1 rfl ?_; refine kL 2 rfl ?_; refine kL 4 rfl ?_; refine kL 5 rfl ?_)
 (refine oL 0 rfl fun K hK => tL ?_; go_simp);have hF1 := hF.drew.alloc (.cells #[] 41);have b1 : Below W.heap.size W (W.drew.alloc (.cells #[] 41)) := (Below.refl _ _).drew.trans ((below_new W.drew _).mono (Nat.le_refl _));(go_wp2_with fail; clear hHeld; refine nxL hK ⟨cellN (cellD p2) _, cellN (cellD p3) _⟩ fun hHeld => tL ?_; clear hK);have hz : W.drew.heap.size = w.heap.size + 1 := hs
 have hL : So eP (W.drew.alloc (.cells #[] 41)) W.heap.size (.slice (some ⟨w.heap.size + 1, 0, none⟩) 0 0) [] := by
  have := So.lit0 eP W.drew (base := W.heap.size) (Nat.le_refl _);rwa [hz] at this
 refine wpAnyT_one (i := 3) (by as_aux_lemma => kernel_rfl) rfl (fun K hK => ?_);refine step_apSr (E := eP) (by rfl) (.tmp 3) (.tmp 5) _ (by rfl) Tryz.underlying30 W.heap.size (.slice (some ⟨w.heap.size + 1, 0, none⟩) 0 0) (.slice aP f.P.length cP) [] f.P (by rfl) hL (by simp) (by rfl) hF1.hP (by simp; omega) ?_;intro v2 w2 h2 hb2 hg2 _
 have b2 : Below W.heap.size W w2 := ButS.below b1 hb2 (by simp) (fun g hg => by
  have : w.heap.size + 1 = g := by simpa [Value.ownBlock] using hg
  omega)
 have hF2 := hF.up b2;refine hK.out _ _ (fun _ => ⟨keepc b2 p2, keepc b2 p3⟩) ?_;clear hK hHeld;have hHeld : (fun w' : World => w'.cell? ⟨w.heap.size, 2, none⟩ = some (.slice aP f.P.length cP) /\ w'.cell? ⟨w.heap.size, 3, none⟩ = some (.slice aR f.R.length cR)) w2 := ⟨keepc b2 p2, keepc b2 p3⟩;refine tL ?_;refine wpAnyT_one (i := 6) (by as_aux_lemma => kernel_rfl) rfl (fun K hK => ?_);have hv2 := (h2.sr).lt;refine step_apSr (E := eP) (by rfl) (.tmp 6) (.tmp 8) _ (by rfl) Tryz.underlying30 W.heap.size v2 (.slice aR f.R.length cR) ([] ++ f.P) f.R (by rfl) h2 b2.size (by rfl) hF2.hR (by simp; omega) ?_;intro v3 w3 h3 hb3 hg3 _;have b3 : Below W.heap.size W w3 := ButS.below b2 hb3 b2.size (fun g hg => (h2.lt g hg).1);refine hK.out _ _ (fun _ => ⟨keepc b3 p2, keepc b3 p3⟩) ?_;clear hK hHeld;have hHeld : (fun w' : World => w'.cell? ⟨w.heap.size, 2, none⟩ = some (.slice aP f.P.length cP) /\ w'.cell? ⟨w.heap.size, 3, none⟩ = some (.slice aR f.R.length cR)) w3 := ⟨keepc b3 p2, keepc b3 p3⟩;refine tL ?_;(refine kL 7 rfl ?_)
 refine dT ?_;go_wp2_with fail;go_ret
 refine ⟨_, rfl, ?_, Bl.up bl b3⟩;rw [List.nil_append] at h3;exact h3.base (by show w.heap.size <= W.heap.size; omega)
theorem rsamep_any (va vb : Value) (l m : List (Int × Int)) (w : World) (ha : Sr eP w va l) (hb : Sr eP w vb m) (hL : szL l) (hM : szL m) :
  Calls Tryz.prog 17 #[va, vb] w fun e w' => e = .returned (.bool (decide (l = m))) /\ Below w.heap.size w w' := by
 obtain ⟨a, ca, rfl, hra⟩ := id ha;obtain ⟨b, cb, rfl, hrb⟩ := id hb;clear hra hrb;have hN := hL.1;have hN2 := hM.1;by_cases hlen : l.length = m.length
 ·have hb0 : ((l.length : Int) != (m.length : Int)) = false := by rw [hlen]; simp
  have HL := Lib.hid hlen;clear hlen;go_enter Tryz.func17, Tryz.ntmps17
  go_wp2_with fail
  go_loopw [5] (fun s wr => ∃ (i : Nat), i <= l.length /\ s = .int .i64 i /\ (∀ j, j < i -> l.getD j (0, 0) = m.getD j (0, 0)) /\ Below w.heap.size w wr)
   (fun s _ => l.length - (intOf s).toNat)
  case atStart => exact ⟨0, Nat.zero_le _, rfl, fun j hj => absurd hj (Nat.not_lt_zero _), Below.refl _ _⟩
  case round =>
   obtain ⟨i, hi, rfl, hval, hbl⟩ := hrel;have HV := Lib.hid hval;clear hval;by_cases hlt : i < l.length
   ·have hlm : i < m.length := by rw [<- HL.out]; exact hlt
    have hs1 := hL.at hlt;have hs2 := hM.at hlm;obtain ⟨ba, offa, rfl, hba, hla⟩ := (ha.up hbl).at hlt;obtain ⟨bb, offb, rfl, hbb, hlb⟩ := (hb.up hbl).at hlm;obtain ⟨s1, a1, n1, k1, p0, p1, p2, hx⟩ := hla.pow hlt;obtain ⟨s2, a2, n2, k2, q0, q1, q2, hy⟩ := hlb.pow hlm;clear hla hlb ha hb;have i0 : (0 : Int) <= (i : Int) := by omega
    have i1 : (i : Int) < (l.length : Int) := by omega
    have i2 : (i : Int) < (m.length : Int) := by omega
    obtain ⟨x, hx0⟩ : ∃ x, l.getD i (0, 0) = x := ⟨_, rfl⟩;obtain ⟨y, hy0⟩ : ∃ y, m.getD i (0, 0) = y := ⟨_, rfl⟩;rw [hx0] at p2 hx hs1;rw [hy0] at q2 hy hs2;have HX := Lib.hid hx0;have HY := Lib.hid hy0;clear hx0 hy0 hL hM;by_cases hk : x.2 = y.2
    ·have hk0 : (x.2 != y.2) = false := by rw [hk]; simp
     have HK := Lib.hid hk;clear hk;go_upto_region 6 with fail;refine wp_region_T (by kernel_rfl) [] (S := fun w' => w'.cell? ⟨ba, offa + i * 3, none⟩ = some (.bool s1) /\ w'.cell? ⟨ba, offa + i * 3 + 1, none⟩ = some (.slice a1 n1 k1) /\ w'.cell? ⟨ba, offa + i * 3 + 2, none⟩ = some (.int .i64 x.2) /\ w'.cell? ⟨bb, offb + i * 3, none⟩ = some (.bool s2) /\ w'.cell? ⟨bb, offb + i * 3 + 1, none⟩ = some (.slice a2 n2 k2) /\ w'.cell? ⟨bb, offb + i * 3 + 2, none⟩ = some (.int .i64 y.2)) ⟨p0, p1, p2, q0, q1, q2⟩ (fun hHeld => ?_);(refine kL 0 rfl ?_; refine kL 1 rfl ?_; refine kL 2 rfl ?_; refine kL 3 rfl ?_; refine kL 4 rfl ?_; refine kL 5 rfl ?_; refine kL 6 rfl ?_; refine kL 7 rfl ?_; refine kL 8 rfl ?_; refine kL 9 rfl ?_; refine kL 10 rfl ?_; refine kL 11 rfl ?_; refine kL 12 rfl ?_; refine kL 13 rfl ?_; refine kL 14 rfl ?_; refine kL 15 rfl ?_; refine kL 16 rfl ?_; refine kL 17 rfl ?_; refine kL 18 rfl ?_; refine kL 19 rfl ?_; refine kL 20 rfl ?_; refine kL 21 rfl ?_)
     (refine oL 22 rfl fun K hK => tL ?_; go_simp);refine (rsame_any _ _ x.1 y.1 _ hx.drew hy.drew (Nat.le_trans hs1 (by decide)) (Nat.le_trans hs2 (by decide))).mono ?_;rintro e w2 ⟨rfl, hb2⟩;have hbl2 := Bl.up (Bl.drew hbl) hb2;obtain ⟨bs, hbs⟩ : ∃ bs, sameB x.1 y.1 = bs := ⟨_, rfl⟩;rw [hbs];have HS := Lib.hid hbs;clear hbs;(go_wp2_with fail; clear hHeld; refine nxL hK ⟨keepc hb2 p0, keepc hb2 p1, keepc hb2 p2, keepc hb2 q0, keepc hb2 q1, keepc hb2 q2⟩ fun hHeld => tL ?_; clear hK);(refine oL 23 rfl fun K hK => tL ?_; go_simp);(go_wp2_with fail; clear hHeld; refine nxL hK ⟨keepc hb2 p0, keepc hb2 p1, keepc hb2 p2, keepc hb2 q0, keepc hb2 q1, keepc hb2 q2⟩ fun hHeld => tL ?_; clear hK);(refine oL 24 rfl fun K hK => tL ?_; go_simp);(go_wp2_with fail; clear hHeld; refine nxL hK ⟨keepc hb2 p0, keepc hb2 p1, keepc hb2 p2, keepc hb2 q0, keepc hb2 q1, keepc hb2 q2⟩ fun hHeld => tL ?_; clear hK);refine dT ?_;clear hHeld p0 p1 p2 q0 q1 q2 hb2 hx hy
     cases bs
     ·go_wp2_with fail;go_ret
      refine ⟨ret_of (congrArg Value.bool (decide_eq_false fun e => ?_).symm), hbl2⟩;have := HX.out.symm.trans ((congrArg (fun t => List.getD t i (0, 0)) e).trans HY.out);have h2 := HS.out;rw [this] at h2;rw [sameB_iff.2 rfl] at h2
      cases h2
     ·go_wp2_with fail;go_roundw
      case rel =>
       refine ⟨i + 1, by omega, by go_num, fun j hj => ?_, hbl2⟩;by_cases e : j = i
       ·subst e; rw [HX.out, HY.out]; exact Prod.ext (sameB_iff.1 HS.out) HK.out
       ·exact HV.out j (by omega)
      case measure => simp [intOf]; omega
    ·have hk0 : (x.2 != y.2) = true := bne_iff_ne.2 hk;have HK := Lib.hid hk;clear hk;go_upto_region 6 with fail;refine wp_region_T (by kernel_rfl) [] (S := fun w' => w'.cell? ⟨ba, offa + i * 3, none⟩ = some (.bool s1) /\ w'.cell? ⟨ba, offa + i * 3 + 1, none⟩ = some (.slice a1 n1 k1) /\ w'.cell? ⟨ba, offa + i * 3 + 2, none⟩ = some (.int .i64 x.2) /\ w'.cell? ⟨bb, offb + i * 3, none⟩ = some (.bool s2) /\ w'.cell? ⟨bb, offb + i * 3 + 1, none⟩ = some (.slice a2 n2 k2) /\ w'.cell? ⟨bb, offb + i * 3 + 2, none⟩ = some (.int .i64 y.2)) ⟨p0, p1, p2, q0, q1, q2⟩ (fun hHeld => ?_);(refine kL 0 rfl ?_; refine kL 1 rfl ?_; refine kL 2 rfl ?_; refine kL 3 rfl ?_; refine kL 4 rfl ?_; refine kL 5 rfl ?_; refine kL 6 rfl ?_; refine kL 7 rfl ?_; refine kL 8 rfl ?_; refine kL 9 rfl ?_; refine kL 10 rfl ?_; refine kL 11 rfl ?_)
     (refine uL 12 rfl ?_; refine uL 13 rfl ?_; refine uL 14 rfl ?_; refine uL 15 rfl ?_; refine uL 16 rfl ?_; refine uL 17 rfl ?_; refine uL 18 rfl ?_; refine uL 19 rfl ?_; refine uL 20 rfl ?_; refine uL 21 rfl ?_; refine uL 22 rfl ?_; refine uL 23 rfl ?_)
     (refine kL 24 rfl ?_)
     refine dT ?_;clear hHeld;go_wp2_with fail;go_ret
     refine ⟨ret_of (congrArg Value.bool (decide_eq_false fun e => HK.out ?_).symm), Bl.drew hbl⟩;rw [<- HX.out, <- HY.out, e]
   ·have hin : i = l.length := by omega
    subst hin;go_wp2_with fail;go_ret
    exact ⟨ret_of (congrArg Value.bool (decide_eq_true (getD_ext HL.out HV.out)).symm), hbl⟩
 ·have hb0 : ((l.length : Int) != (m.length : Int)) = true := by rw [bne_iff_ne]; omega
  have HL := Lib.hid hlen;clear hlen;go_enter Tryz.func17, Tryz.ntmps17
  go_wp2_with fail;go_ret
  exact ⟨ret_of (congrArg Value.bool (decide_eq_false fun e => HL.out (by rw [e])).symm), Below.refl _ _⟩
def sameF (f g : Fz) : Bool := sameB f.N g.N && decide (f.B = g.B) && decide (f.P = g.P) && decide (f.R = g.R)
theorem sameF_iff {f g : Fz} : sameF f g = true ↔ f = g := by
 unfold sameF;simp only [Bool.and_eq_true, decide_eq_true_eq, sameB_iff];obtain ⟨a, b, c, d⟩ := f;obtain ⟨a', b', c', d'⟩ := g;simp only [Fz.mk.injEq];constructor
 ·rintro ⟨⟨⟨h1, h2⟩, h3⟩, h4⟩; exact ⟨h1, h3, h4, h2⟩
 ·rintro ⟨h1, h3, h4, h2⟩; exact ⟨⟨⟨h1, h2⟩, h3⟩, h4⟩
theorem rsamef_any (va vb : Value) (f g : Fz) (w : World) (ha : Fx w va f) (hb : Fx w vb g) (hF : szF f) (hG : szF g) :
  Calls Tryz.prog 18 #[va, vb] w fun e w' => e = .returned (.bool (sameF f g)) /\ Below w.heap.size w w' := by
 obtain ⟨W, s1, a1, n1, c1, aP1, cP1, aR1, cR1, s2, a2, n2, c2, aP2, cP2, aR2, cR2, rfl, rfl, hW, bl, hs, h1, h2⟩ := boxF2 w ha hb;clear ha hb;go_enter Tryz.func18, Tryz.ntmps18
 go_wp2_with fail;rw [<- hW];clear hW;have hsN1 := hF.1;have hsN2 := hG.1;refine (rsame_any _ _ f.N g.N W h1.hN h2.hN (Nat.le_trans hsN1 (by decide)) (Nat.le_trans hsN2 (by decide))).mono ?_;rintro e w1 ⟨rfl, hb1⟩;replace h1 := h1.up hb1;replace h2 := h2.up hb1;replace bl := Bl.up bl hb1;clear hb1;obtain ⟨p0, p1, p2, p3, p4⟩ := h1.cells;obtain ⟨q0, q1, q2, q3, q4⟩ := h2.cells;obtain ⟨x1, hx1⟩ : ∃ x1, sameB f.N g.N = x1 := ⟨_, rfl⟩;rw [hx1];have X1 := Lib.hid hx1;clear hx1;have H1 := Lib.hid h1;have H2 := Lib.hid h2;clear h1 h2;have hd : (f.B == g.B) = decide (f.B = g.B) := by rw [Bool.eq_iff_iff]; simp
 cases x1
 ·go_wp2_with fail;go_ret
  exact ⟨ret_of (congrArg Value.bool (by unfold sameF; rw [X1.out]; rfl)), bl⟩
 by_cases hB : f.B = g.B
 case neg =>
  have XB := Lib.hid hB;rw [decide_eq_false hB] at hd;clear hB;go_wp2_with fail;go_ret
  exact ⟨ret_of (congrArg Value.bool (by unfold sameF; rw [X1.out, decide_eq_false XB.out]; rfl)), bl⟩
 have XB := Lib.hid hB;rw [decide_eq_true hB] at hd;clear hB;go_wp2_with fail;refine (rsamep_any _ _ f.P g.P w1 H1.out.hP H2.out.hP hF.2.1 hG.2.1).mono ?_;rintro e w2 ⟨rfl, hb2⟩;replace bl := Bl.up bl hb2;have h1 := H1.out.up hb2;have h2 := H2.out.up hb2;clear hb2 H1 H2 p0 p1 p2 p3 p4 q0 q1 q2 q3 q4;obtain ⟨p0, p1, p2, p3, p4⟩ := h1.cells;obtain ⟨q0, q1, q2, q3, q4⟩ := h2.cells;obtain ⟨x2, hx2⟩ : ∃ x2, decide (f.P = g.P) = x2 := ⟨_, rfl⟩;rw [hx2];have X2 := Lib.hid hx2;clear hx2
 cases x2
 ·go_wp2_with fail;go_ret
  exact ⟨ret_of (congrArg Value.bool (by unfold sameF; rw [X1.out, decide_eq_true XB.out, X2.out]; rfl)), bl⟩
 go_wp2_with fail;refine (rsamep_any _ _ f.R g.R w2 h1.hR h2.hR hF.2.2 hG.2.2).mono ?_;rintro e w3 ⟨rfl, hb3⟩;replace bl := Bl.up bl hb3;go_wp2_with fail;go_ret
 exact ⟨ret_of (congrArg Value.bool (by unfold sameF; rw [X1.out, decide_eq_true XB.out, X2.out]; rfl)), bl⟩
theorem rtimes2_any (va vb : Value) (x d : Nat) (w : World) (hx : It w va x) (hy : It w vb d) (h1 : 1 <= x) (h2 : 2 <= d) (hsx : sz x <= 1099511627776) (hsy : sz d <= 1099511627776) :
  Calls Tryz.prog 39 #[va, vb] w fun e w' => ∃ v, e = .returned (.tuple #[.int .i64 (mlt d x : Nat), v]) /\ It w' v (cof d x : Nat) /\ Below w.heap.size w w' := by
 obtain ⟨W, s1, a1, n1, c1, s2, a2, n2, c2, rfl, rfl, hW, b, vX, vY, vR, hs, p0, p1, q0, q1, hx', hy'⟩ := boxes3 w hx hy;clear hx hy p0 p1 q0 q1 hx' hy';go_enter Tryz.func39, Tryz.ntmps39
 go_wp2_with fail;rw [<- hW];clear hW;go_loopg [6] x (fun c s6 wr => ∃ k : Nat, s6 = .int .i64 k /\ 1 <= c /\ x = d ^ k * c /\ Below w.heap.size w wr /\ Vx wr w.heap.size c /\ Vx wr (w.heap.size + 1) d /\ Vx wr (w.heap.size + 1 + 1) 0)
 case atStart => exact ⟨0, rfl, h1, by simp, b, vX, vY, vR⟩
 case round =>
  obtain ⟨k, rfl, hc, he, hb, vx, vy, vr⟩ := hrel;clear vX vY vR b hs;have HE := Lib.hid he;have hcx : gk <= x := by rw [he]; exact Nat.le_mul_of_pos_left _ (Nat.pow_pos (by omega))
  have hkb := pow_len (k := k) h2 (by rw [he]; exact Nat.le_mul_of_pos_right _ hc) hsx;have hsc : sz (gk : Int) <= 1099511627776 := Nat.le_trans (sz_mono (by omega)) hsx;clear he;obtain ⟨ax, nx, cx, kx, x0, x1, -, -, ix⟩ := vx.cells;have hc1 : cmpI (gk : Int) 0 = 1 := by unfold cmpI; rw [if_neg (by omega), if_pos (by omega)]
  go_wp2_with fail;refine (rsign_any _ (gk : Int) wr ix).mono ?_;rintro e w1 ⟨rfl, hb1⟩;rw [hc1];clear hc1 x0 x1 ix;replace hb := Bl.up hb hb1;replace vx := vx.up hb1;replace vy := vy.up hb1;replace vr := vr.up hb1;clear hb1;obtain ⟨ax, nx, cx, kx, x0, x1, -, -, ix⟩ := vx.cells;obtain ⟨ay, ny, cy, ky, y0, y1, -, -, iy⟩ := vy.cells;go_wp2_with fail;refine (rmod_any _ _ (gk : Int) (d : Int) _ ix iy (by omega) hsc hsy).mono ?_;rintro e w2 ⟨v, rfl, hv, hb2⟩;obtain ⟨sq, aq, nq, cq, rfl⟩ := hv.shape;replace hb := Bl.up hb hb2;replace vx := vx.up hb2;replace vy := vy.up hb2;replace vr := vr.up hb2;clear hb2 x0 x1 y0 y1 ix iy;go_wp2_with fail;refine (rsign_any _ _ w2 hv).mono ?_;rintro e w3 ⟨rfl, hb3⟩;replace hb := Bl.up hb hb3;replace vx := vx.up hb3;replace vy := vy.up hb3;replace vr := vr.up hb3;clear hb3 hv;have hd0 : (cmpI ((gk : Int) % (d : Int)) 0 == 0) = decide (d ∣ gk) := by rw [<- nat_emod, Bool.eq_iff_iff]; simp [cmpI_zero]
  generalize cmpI ((gk : Int) % (d : Int)) 0 = sg0 at *;obtain ⟨ax, nx, cx, kx, x0, x1, x2, x3, ix⟩ := vx.cells;by_cases hd : d ∣ gk
  ·rw [decide_eq_true hd] at hd0;obtain ⟨ay, ny, cy, ky, y0, y1, -, -, iy⟩ := vy.cells;go_wp2_with fail;refine (rdiv_any _ _ (gk : Int) (d : Int) _ ix iy (by omega) hsc hsy).mono ?_;rintro e w4 ⟨v, rfl, hv, hb4⟩;obtain ⟨sq, aq, nq, cq, rfl⟩ := hv.shape;replace hb := Bl.up hb hb4;replace vx := vx.up hb4;replace vy := vy.up hb4;replace vr := vr.up hb4;clear hb4 x0 x1 x2 x3 y0 y1 ix iy hd0;have t1 := vr.lt;have t2 : w.heap.size < w4.heap.size := vx.lt;obtain ⟨ax, nx, cx, kx, x0, x1, x2, x3, -⟩ := vx.cells;have HV := Lib.hid hv;clear hv;go_wp2_with fail;go_roundg (gk / d)
   ·have e2 : (gk : Int) / (d : Int) = ((gk / d : Nat) : Int) := by omega
    have e3 : d * (gk / d) = gk := Nat.mul_div_cancel' hd;have hv := HV.out;rw [e2] at hv;clear HV;refine ⟨k + 1, rfl, ?_, ?_, ?_, ?_, ?_, ?_⟩
    ·rcases Nat.eq_zero_or_pos (gk / d) with h0 | h0
     ·rw [h0] at e3; omega
     ·exact h0
    ·rw [Nat.pow_succ, Nat.mul_assoc, e3]; exact HE.out
    all_goals exact srch
   ·exact Nat.div_lt_self hc h2
  ·rw [decide_eq_false hd] at hd0;go_upto_region 4 with fail;obtain ⟨b5, b6, b7, b8, r0, r1, r2, r3, -⟩ := vr.cells;refine wp_region_T (by kernel_rfl) [3] (S := fun w' => w'.cell? ⟨w.heap.size, 0, none⟩ = some (.bool ax) /\ w'.cell? ⟨w.heap.size, 1, none⟩ = some (.slice nx cx kx)) ⟨x0, x1⟩ (fun hHeld => ?_);replace vr := vr.drew;replace ix := ix.drew;replace hb := Bl.drew hb;refine pL 0 rfl ?_;refine kL 1 rfl ?_;(refine oL 2 rfl fun K hK => tL ?_; go_simp);(go_wp2_with fail; clear hHeld; refine nxL hK ⟨x0, x1⟩ fun hHeld => tL ?_; clear hK);(refine oL 3 rfl fun K hK => tL ?_; go_simp);(go_wp2_with fail; refine xL hK (tL ?_); clear hK);refine dT ?_;go_wp2_with fail;obtain ⟨e1, e2⟩ := mlt_uniq h2 h1 HE.out hd;rw [e1, e2];exact ret_ivx (B := w.heap.size + 1 + 1) (z := (gk : Int)) rfl rfl rfl rfl (Vx.put vr.va ix) (fun v hv => ⟨v, rfl, hv, Bl.st hb (by omega)⟩)
end Go.Proofs.YtblebpmlkpobnaaGreatDoor
