/-
  algoristlaw05.member.
-/
import Derived.Test.YtblebpmlkpobnaaGreatFS
set_option linter.unusedSimpArgs false
set_option linter.unusedVariables false
set_option maxRecDepth 100000
set_option maxHeartbeats 2000000
namespace Go.Proofs.YtblebpmlkpobnaaGreat
open Go.RowKit
attribute [local go_sem ↓] Go.wp_at_zero Go.wp_at_succ
theorem member_any (va : Value) (s0 : Bool) (a0 : Option Addr) (n0 c0 : Nat) (l : List (Int × Int)) (p : Int × Int) (w : World) (ha : Sr eP w va l) (hp : It w (.agg #[.bool s0, .slice a0 n0 c0]) p.1) (hL : szL l) (hsp : sz p.1 <= 1099511627776) :
  Calls Tryz.prog 25 #[va, .agg #[.bool s0, .slice a0 n0 c0, .int .i64 p.2]] w fun e w' => e = .returned (.bool (decide (p ∈ l))) /\ Below w.heap.size w w' := by
 obtain ⟨a, ca, rfl, hra⟩ := id ha;clear hra;have hN := hL.1;go_enter Tryz.func25, Tryz.ntmps25
 go_wp2_with fail;have hb0 := below_new w (.cells #[.bool s0, .slice a0 n0 c0, .int .i64 p.2] 49);have hD0 := heap_alloc_new w (.cells #[.bool s0, .slice a0 n0 c0, .int .i64 p.2] 49);have hA0 := ha.alloc (.cells #[.bool s0, .slice a0 n0 c0, .int .i64 p.2] 49);have hP0 := hp.alloc (.cells #[.bool s0, .slice a0 n0 c0, .int .i64 p.2] 49);clear ha hp;generalize w.alloc (.cells #[.bool s0, .slice a0 n0 c0, .int .i64 p.2] 49) = W at *
 go_loopw [5] (fun s wr => ∃ (i : Nat), i <= l.length /\ s = .int .i64 i /\ (∀ j, j < i -> l.getD j (0, 0) ≠ p) /\ Below W.heap.size W wr)
  (fun s _ => l.length - (intOf s).toNat)
 case atStart => exact ⟨0, Nat.zero_le _, rfl, fun j hj => absurd hj (Nat.not_lt_zero _), Below.refl _ _⟩
 case round =>
  obtain ⟨i, hi, rfl, hval, hbl⟩ := hrel;have HV := Lib.hid hval;clear hval;by_cases hlt : i < l.length
  ·have hs1 := hL.at hlt;obtain ⟨ba, offa, rfl, hba, hla⟩ := (hA0.up hbl).at hlt;obtain ⟨s1, a1, n1, k1, p0, p1, p2, hx⟩ := hla.pow hlt;have hy := hP0.up hbl;have hD := (hbl.block _ (Array.getElem?_eq_some_iff.1 hD0).1).trans hD0;have q0 : wr.cell? ⟨w.heap.size, 0, none⟩ = some (.bool s0) := by simp [World.cell?, hD]
   have q1 : wr.cell? ⟨w.heap.size, 1, none⟩ = some (.slice a0 n0 c0) := by simp [World.cell?, hD]
   have q2 : wr.cell? ⟨w.heap.size, 2, none⟩ = some (.int .i64 p.2) := by simp [World.cell?, hD]
   clear hla hD hD0 hA0 hP0;have i0 : (0 : Int) <= (i : Int) := by omega
   have i1 : (i : Int) < (l.length : Int) := by omega
   have HM := Lib.hid (show l.getD i (0, 0) ∈ l by rw [List.getD_eq_getElem?_getD, List.getElem?_eq_getElem hlt]; exact List.getElem_mem _);obtain ⟨x, hx0⟩ : ∃ x, l.getD i (0, 0) = x := ⟨_, rfl⟩;rw [hx0] at p2 hx hs1 HM;have HX := Lib.hid hx0;clear hx0;have HB0 := Lib.hid (Bl.up hb0 hbl);have HBW := Lib.hid hbl;clear hbl hb0;by_cases hk : x.2 = p.2
   ·have hk0 : (x.2 == p.2) = true := by rw [hk]; simp
    have HK := Lib.hid hk;clear hk;go_upto_region 4 with fail;refine wp_region_T (by kernel_rfl) [] (S := fun w' => w'.cell? ⟨ba, offa + i * 3, none⟩ = some (.bool s1) /\ w'.cell? ⟨ba, offa + i * 3 + 1, none⟩ = some (.slice a1 n1 k1) /\ w'.cell? ⟨ba, offa + i * 3 + 2, none⟩ = some (.int .i64 x.2) /\ w'.cell? ⟨w.heap.size, 0, none⟩ = some (.bool s0) /\ w'.cell? ⟨w.heap.size, 1, none⟩ = some (.slice a0 n0 c0) /\ w'.cell? ⟨w.heap.size, 2, none⟩ = some (.int .i64 p.2)) ⟨p0, p1, p2, q0, q1, q2⟩ (fun hHeld => ?_);(refine kL 0 rfl ?_; refine kL 1 rfl ?_; refine kL 2 rfl ?_; refine kL 3 rfl ?_; refine kL 4 rfl ?_; refine kL 5 rfl ?_; refine kL 6 rfl ?_; refine kL 7 rfl ?_; refine kL 8 rfl ?_; refine kL 9 rfl ?_; refine kL 10 rfl ?_; refine kL 11 rfl ?_; refine kL 12 rfl ?_; refine kL 13 rfl ?_; refine kL 14 rfl ?_; refine kL 15 rfl ?_)
    (refine oL 16 rfl fun K hK => tL ?_; go_simp);refine (rsame_any _ _ x.1 p.1 _ hx.drew hy.drew (Nat.le_trans hs1 (by decide)) (Nat.le_trans hsp (by decide))).mono ?_;rintro e w2 ⟨rfl, hb2⟩;have HB2 := Lib.hid (Bl.up (Bl.drew HB0.out) hb2);have HBW2 := Lib.hid (Bl.up (Bl.drew HBW.out) hb2);obtain ⟨bs, hbs⟩ : ∃ bs, sameB x.1 p.1 = bs := ⟨_, rfl⟩;rw [hbs];have HS := Lib.hid hbs;clear hbs;(go_wp2_with fail; clear hHeld; refine nxL hK ⟨keepc hb2 p0, keepc hb2 p1, keepc hb2 p2, keepc hb2 q0, keepc hb2 q1, keepc hb2 q2⟩ fun hHeld => tL ?_; clear hK);(refine kL 17 rfl ?_)
    refine dT ?_;clear hHeld p0 p1 p2 q0 q1 q2 hb2 hx hy
    cases bs
    ·go_wp2_with fail;go_roundw
     case rel =>
      refine ⟨i + 1, by omega, by go_num, fun j hj => ?_, HBW2.out⟩;by_cases e : j = i
      ·subst e;rw [HX.out];intro e;have h2 := HS.out;rw [e, sameB_iff.2 rfl] at h2
       cases h2
      ·exact HV.out j (by omega)
     case measure => simp [intOf]; omega
    ·go_wp2_with fail;go_ret
     refine ⟨ret_of (congrArg Value.bool (decide_eq_true ?_).symm), HB2.out⟩;have e : x = p := Prod.ext (sameB_iff.1 HS.out) HK.out;exact e ▸ HM.out
   ·have hk0 : (x.2 == p.2) = false := beq_eq_false_iff_ne.2 hk;have HK := Lib.hid hk;clear hk;go_upto_region 4 with fail;refine wp_region_T (by kernel_rfl) [] (S := fun w' => w'.cell? ⟨ba, offa + i * 3, none⟩ = some (.bool s1) /\ w'.cell? ⟨ba, offa + i * 3 + 1, none⟩ = some (.slice a1 n1 k1) /\ w'.cell? ⟨ba, offa + i * 3 + 2, none⟩ = some (.int .i64 x.2) /\ w'.cell? ⟨w.heap.size, 0, none⟩ = some (.bool s0) /\ w'.cell? ⟨w.heap.size, 1, none⟩ = some (.slice a0 n0 c0) /\ w'.cell? ⟨w.heap.size, 2, none⟩ = some (.int .i64 p.2)) ⟨p0, p1, p2, q0, q1, q2⟩ (fun hHeld => ?_);(refine kL 0 rfl ?_; refine kL 1 rfl ?_; refine kL 2 rfl ?_; refine kL 3 rfl ?_; refine kL 4 rfl ?_; refine kL 5 rfl ?_; refine kL 6 rfl ?_; refine kL 7 rfl ?_; refine kL 8 rfl ?_)
    (refine uL 9 rfl ?_; refine uL 10 rfl ?_; refine uL 11 rfl ?_; refine uL 12 rfl ?_; refine uL 13 rfl ?_; refine uL 14 rfl ?_; refine uL 15 rfl ?_; refine uL 16 rfl ?_)
    (refine kL 17 rfl ?_)
    refine dT ?_;clear hHeld p0 p1 p2 q0 q1 q2 hx hy;go_wp2_with fail;go_roundw
    case rel =>
     refine ⟨i + 1, by omega, by go_num, fun j hj => ?_, Bl.drew HBW.out⟩;by_cases e : j = i
     ·subst e; rw [HX.out]; exact fun e => HK.out (by rw [e])
     ·exact HV.out j (by omega)
    case measure => simp [intOf]; omega
  ·have hin : i = l.length := by omega
   subst hin;go_wp2_with fail;go_ret
   refine ⟨ret_of (congrArg Value.bool (decide_eq_false fun hm => ?_).symm), Bl.up hb0 hbl⟩;obtain ⟨j, hj, e⟩ := List.getElem_of_mem hm;refine HV.out j hj ?_;rw [List.getD_eq_getElem?_getD, List.getElem?_eq_getElem hj, Option.getD_some, e]
end Go.Proofs.YtblebpmlkpobnaaGreat
