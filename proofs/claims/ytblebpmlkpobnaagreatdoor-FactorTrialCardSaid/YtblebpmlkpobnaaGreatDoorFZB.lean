/-
  The reference of factor: power.
-/
import Derived.Test.YtblebpmlkpobnaaGreatDoorFH1
import Derived.Test.YtblebpmlkpobnaaGreatDoorFP1
import Derived.Test.YtblebpmlkpobnaaGreatDoorFZA
import Derived.Test.YtblebpmlkpobnaaGreatDoorFF
import Derived.Test.YtblebpmlkpobnaaGreatDoorFG1
import Derived.Test.YtblebpmlkpobnaaGreatDoorFS
import Derived.Test.YtblebpmlkpobnaaGreatDoorFI1
set_option linter.unusedSimpArgs false
set_option linter.unusedVariables false
set_option maxRecDepth 100000
set_option maxHeartbeats 4000000
namespace Go.Proofs.YtblebpmlkpobnaaGreatDoor
theorem kwnN_nil : kwnN [] = [] := rfl
theorem grpN_nil (a : Nat) : grpN [] a = 1 := by simp [grpN]
theorem limN_nil : limN [] = 65536 := rfl
theorem kwnN_snoc (l : List Tri) (y : Tri) : kwnN (l ++ [y]) = if aN y = 0 then kwnN l ++ [(prN y.1, kN y)] else kwnN l := by
 unfold kwnN;rw [List.filter_append, List.map_append];split
 ·rename_i h; simp [h]
 ·rename_i h; simp [h]
theorem grpN_snoc (l : List Tri) (y : Tri) (a : Nat) : grpN (l ++ [y]) a = if a = aN y then grpN l a * ppN y else grpN l a := by
 unfold grpN;rw [List.filter_append, List.map_append, List.prod_append];split
 ·rename_i h; simp [h.symm]
 ·rename_i h
  have h' : ¬ aN y = a := fun e => h e.symm;simp [h']
theorem limN_snoc (l : List Tri) (y : Tri) : limN (l ++ [y]) = if aN y = 0 then limN l else min (limN l) (prN y.1 - 1) := by
 unfold limN;rw [List.filter_append, List.foldl_append];split
 ·rename_i h; simp [h]
 ·rename_i h; simp [h]
theorem pk_kwn (u : List Tri) : pk (kwnN u) = ((u.filter fun y => decide (aN y = 0)).map ppN).prod := by
 unfold pk kwnN;rw [List.map_map]; rfl
theorem kwn_grp (u : List Tri) : pk (kwnN u) = grpN u 0 := pk_kwn u
theorem limN_le (u : List Tri) : limN u <= 65536 := (foldl_min _ _).1
def rstTo (u : List Tri) (a : Nat) : List (Nat × Nat) := (([1, 2, 3].filter fun b => decide (b < a)).filter fun b => decide (1 < grpN u b)).map fun b => (grpN u b, 1 + b % 2)
theorem rstTo_one (u : List Tri) : rstTo u 1 = [] := rfl
theorem rstTo_four (u : List Tri) : rstTo u 4 = rstN u := rfl
theorem rstTo_step (u : List Tri) {a : Nat} (h1 : 1 <= a) (h4 : a < 4) : rstTo u (a + 1) = if 1 < grpN u a then rstTo u a ++ [(grpN u a, 1 + a % 2)] else rstTo u a := by
 have e : ([1, 2, 3] : List Nat).filter (fun b => decide (b < a + 1)) = ([1, 2, 3] : List Nat).filter (fun b => decide (b < a)) ++ [a] := by
  obtain rfl | rfl | rfl : a = 1 \/ a = 2 \/ a = 3 := by omega
  ·decide
  ·decide
  ·decide
 unfold rstTo;rw [e, List.filter_append, List.map_append];split
 ·rename_i h; simp [h]
 ·rename_i h; simp [h]
theorem filter_len (u : List Tri) (a : Nat) : (u.filter fun y => decide (aN y = a)).length <= u.length := List.length_filter_le _ _
def expG : Nat := 651
theorem grpN_lt (u : List Tri) (hu : u.length <= 7) (a : Nat) : grpN u a <= 2 ^ expG := by
 unfold grpN;refine Nat.le_trans (prod_map_pp _) ?_;rw [<- Nat.pow_mul];refine Nat.pow_le_pow_right (by decide) ?_;have := filter_len u a;unfold expG;omega
theorem Md.ofLe {n k : Nat} (h : n <= 2 ^ k) (hk : k < expA) : Md n := ⟨Nat.lt_of_le_of_lt h (Nat.pow_lt_pow_right (by decide) hk)⟩
theorem grpN_md (u : List Tri) (hu : u.length <= 7) (a : Nat) : Md (grpN u a) := Md.ofLe (grpN_lt u hu a) (by unfold expG expA; omega)
theorem pow7 (E : Nat) : 2 ^ E * (2 ^ E) ^ 6 = 2 ^ (E * 7) := by rw [Nat.pow_mul]; exact Nat.pow_succ'.symm
theorem pkt_of {u : List Tri} {E : Nat} (hE : ∀ a, grpN u a <= 2 ^ E) (a : Nat) : pk (kwnN u ++ rstTo u a) <= 2 ^ (E * 7) := by
 rw [pk_append, kwn_grp]
 have h2 : pk (rstTo u a) <= (2 ^ E) ^ 6 := by
  have key : ∀ l : List Nat, pk (l.map fun b => (grpN u b, 1 + b % 2)) <= (2 ^ E) ^ (2 * l.length) := by
   intro l;induction l with
   | nil => simp [pk]
   | cons b l ih =>
     rw [List.map_cons, pk_cons, List.length_cons, show 2 * (l.length + 1) = 2 + 2 * l.length by omega, Nat.pow_add (2 ^ E) 2 (2 * l.length)];refine Nat.mul_le_mul ?_ ih;show grpN u b ^ (1 + b % 2) <= _
     exact Nat.le_trans (Nat.pow_le_pow_left (hE b) _) (Nat.pow_le_pow_right (Nat.pow_pos (by decide)) (by omega))
  refine Nat.le_trans (key _) (Nat.pow_le_pow_right (Nat.pow_pos (by decide)) ?_);have h1 := List.length_filter_le (fun b => decide (1 < grpN u b)) (([1, 2, 3] : List Nat).filter fun b => decide (b < a));have h2 := List.length_filter_le (fun b => decide (b < a)) ([1, 2, 3] : List Nat);have h3 : ([1, 2, 3] : List Nat).length = 3 := rfl;omega
 rw [<- pow7];exact Nat.mul_le_mul (hE 0) h2
theorem pkt_le (u : List Tri) (hu : u.length <= 7) (a : Nat) : pk (kwnN u ++ rstTo u a) <= 2 ^ (expG * 7) := pkt_of (grpN_lt u hu) a
theorem pkt_md (u : List Tri) (hu : u.length <= 7) (a : Nat) : Md (pk (kwnN u ++ rstTo u a)) := Md.ofLe (pkt_le u hu a) (by unfold expG expA; omega)
theorem made_md {u : List Tri} {b : Nat} {f : Fn} (hu : u.length <= 7) (h : MadeTo u b f) : Md f.N := by
 rw [h.1, <- rstTo_four]; exact pkt_md u hu 4
theorem ppN_md (y : Tri) {i : Nat} (hi : i <= kN y) : Md (prN y.1 ^ i) := by
 refine Md.ofLe (k := 93) ?_ (by unfold expA; omega)
 calc prN y.1 ^ i <= (2 ^ 31) ^ i := Nat.pow_le_pow_left (Nat.le_trans (prN_le _) (by decide)) _
  _ <= (2 ^ 31) ^ 3 := Nat.pow_le_pow_right (by decide) (by unfold kN at hi; omega)
  _ = 2 ^ 93 := by decide
theorem kwn_md (u : List Tri) (hu : u.length <= 7) : Md (pk (kwnN u)) := by
 have := pkt_md u hu 1;rw [rstTo_one, List.append_nil] at this;exact this
theorem kwn_le (u : List Tri) {p : Nat × Nat} (hp : p ∈ kwnN u) : p.1 <= pk (kwnN u) := by
 have key : ∀ l : List (Nat × Nat), (∀ q ∈ l, 1 <= q.1 /\ 1 <= q.2) -> p ∈ l -> p.1 <= pk l := by
  intro l;induction l with
  | nil => intro _ h; simp at h
  | cons x l ih =>
    intro h1 h2;rw [pk_cons];have hx := h1 x (by simp)
    have hl : 1 <= pk l := by
     have k2 : ∀ l : List (Nat × Nat), (∀ q ∈ l, 1 <= q.1) -> 1 <= pk l := by
      intro l;induction l with
      | nil => intro _; simp [pk]
      | cons y l ih => intro h; rw [pk_cons]; exact Nat.mul_pos (Nat.pow_pos (h y (by simp))) (ih (fun q hq => h q (by simp [hq])))
     exact k2 l (fun q hq => (h1 q (by simp [hq])).1)
    rcases List.mem_cons.1 h2 with rfl | h2
    ·calc p.1 = p.1 ^ 1 := (Nat.pow_one _).symm
      _ <= p.1 ^ p.2 := Nat.pow_le_pow_right hx.1 hx.2
      _ <= p.1 ^ p.2 * pk l := Nat.le_mul_of_pos_right _ hl
    ·exact Nat.le_trans (ih (fun q hq => h1 q (by simp [hq])) h2) (Nat.le_mul_of_pos_left _ (Nat.pow_pos hx.1))
 refine key _ (fun q hq => ?_) hp;obtain ⟨y, -, rfl⟩ := List.mem_map.1 hq;exact ⟨by have := (prN_pri y.1).1; show 1 <= prN y.1; omega, by show 1 <= kN y; unfold kN; omega⟩
def grs (u : List Tri) : List Int := [1, (grpN u 1 : Nat), (grpN u 2 : Nat), (grpN u 3 : Nat)]
theorem grs_nil : grs [] = [1, 1, 1, 1] := by unfold grs; rw [grpN_nil, grpN_nil, grpN_nil]; rfl
theorem grs_getD (u : List Tri) {a : Nat} (h1 : 1 <= a) (h4 : a < 4) : (grs u).getD a 0 = ((grpN u a : Nat) : Int) := by
 obtain rfl | rfl | rfl : a = 1 \/ a = 2 \/ a = 3 := by omega
 all_goals rfl
theorem md_step0 (l : List Tri) {y : Tri} (h : aN y = 0) : kwnN (l ++ [y]) = kwnN l ++ [(prN y.1, kN y)] /\ pk (kwnN (l ++ [y])) = pk (kwnN l) * prN y.1 ^ kN y /\ grs (l ++ [y]) = grs l /\ limN (l ++ [y]) = limN l := by
 have e1 : kwnN (l ++ [y]) = kwnN l ++ [(prN y.1, kN y)] := by rw [kwnN_snoc, if_pos h]
 refine ⟨e1, ?_, ?_, by rw [limN_snoc, if_pos h]⟩
 ·rw [e1, pk_append, pk_cons, pk_nil, Nat.mul_one]
 ·unfold grs;rw [grpN_snoc, grpN_snoc, grpN_snoc, if_neg (by omega), if_neg (by omega), if_neg (by omega)]
theorem md_step1 (l : List Tri) {y : Tri} (h : aN y ≠ 0) : kwnN (l ++ [y]) = kwnN l /\ grs (l ++ [y]) = (grs l).set (aN y) ((grpN l (aN y) * prN y.1 ^ kN y : Nat) : Int) /\ limN (l ++ [y]) = min (limN l) (prN y.1 - 1) := by
 refine ⟨by rw [kwnN_snoc, if_neg h], ?_, by rw [limN_snoc, if_neg h]⟩;have ha : aN y < 4 := by unfold aN; omega
 obtain e | e | e : aN y = 1 \/ aN y = 2 \/ aN y = 3 := by omega
 all_goals
  unfold grs;rw [grpN_snoc, grpN_snoc, grpN_snoc, e];rfl
theorem grp_pow_md (u : List Tri) (hu : u.length <= 7) (a : Nat) {i : Nat} (hi : i <= 2) : Md (grpN u a ^ i) := by
 have key : ∀ E : Nat, grpN u a <= 2 ^ E -> grpN u a ^ i <= 2 ^ (E * 2) := fun E h => by
  rw [Nat.pow_mul];exact Nat.le_trans (Nat.pow_le_pow_left h i) (Nat.pow_le_pow_right (Nat.pow_pos (by decide)) hi)
 exact Md.ofLe (key expG (grpN_lt u hu a)) (by unfold expG expA; omega)
theorem pk_snoc (l : List (Nat × Nat)) (p : Nat × Nat) : pk (l ++ [p]) = pk l * p.1 ^ p.2 := by rw [pk_append, pk_cons, pk_nil, Nat.mul_one]
open Go.RowKit
attribute [local go_sem ↓] Go.wp_at_zero Go.wp_at_succ
theorem mod11 (a : Nat) : ((a : Nat) : Int).tmod 11 = (a : Int) % 11 := Int.tmod_eq_emod_of_nonneg (by omega)
theorem all_snoc {α : Type} {l : List α} {i : Nat} (d : α) (hi : i < l.length) (p : α -> Bool) : (l.take (i + 1)).all p = ((l.take i).all p && p (l.getD i d)) := by
 rw [List.take_succ_eq_append_getElem hi, List.all_append, List.getD_eq_getElem?_getD, List.getElem?_eq_getElem hi];simp
theorem rused_any (va : Value) (L : List Tri) (b : Nat) (w : World) (h : Dx w va L b) :
  Calls Tryz.prog 28 #[va] w fun e w' => ∃ v, e = .returned v /\ So e3 w' w.heap.size v (usedN L []) /\ Below w.heap.size w w' := by
 obtain ⟨a, c, rfl, hb16, ha, hLm⟩ := h;go_enter Tryz.func28, Tryz.ntmps28
 go_upto_region 1 with fail;have hbl := below_new w (.cells #[.slice a L.length c, .int .u16 (b : Int)] 25);have hD := heap_alloc_new w (.cells #[.slice a L.length c, .int .u16 (b : Int)] 25);replace ha := ha.alloc (.cells #[.slice a L.length c, .int .u16 (b : Int)] 25);generalize w.alloc (.cells #[.slice a L.length c, .int .u16 (b : Int)] 25) = W at *;have hge : w.heap.size <= W.heap.size := hbl.size;have hlt0 : w.heap.size < W.heap.size := (Array.getElem?_eq_some_iff.1 hD).1;have c0 : W.cell? ⟨w.heap.size, 0, none⟩ = some (.slice a L.length c) := by simp [World.cell?, hD]
 clear hD;have h0 : So e3 (W.alloc (.cells #[] 72)) W.heap.size (.slice (some ⟨W.heap.size, 0, none⟩) 0 0) [] := So.lit0 e3 W (Nat.le_refl _);have hb0 := below_new W (.cells #[] 72);have HA := Lib.hid ha;have HBL := Lib.hid hbl;have HS0 := Lib.hid h0;have HB := Lib.hid hb0;clear ha hbl h0 hb0;go_upto_region 2 with fail;generalize W.alloc (.cells #[] 72) = W1 at *;go_wp2_with fail
 go_loopw [3, 4, 5, 6] (fun s3 s4 s5 s6 wr => ∃ (i : Nat) (out : List Tri), s4 = .int .i64 (i : Int) /\ i <= L.length /\ out.length <= 7 /\ usedN (L.drop i) out = usedN L [] /\ So e3 wr W.heap.size s3 out /\ Below W.heap.size W wr)
  (fun _ s4 _ _ _ => L.length - (intOf s4).toNat)
 case atStart => exact ⟨0, [], rfl, Nat.zero_le _, by simp, rfl, HS0.out, HB.out⟩
 case round =>
  obtain ⟨i, out, rfl, hi, hol, hus, hS, hbr⟩ := hrel;have q0 := keepc hbr c0;by_cases hlt : i < L.length
  ·have i0 : (0 : Int) <= (i : Int) := by omega
   have i1 : (i : Int) < (L.length : Int) := by omega
   by_cases h7 : out.length < 7
   ·obtain ⟨ao, co, rfl, hco⟩ := hS.slice;have i2 : (out.length : Int) < 7 := by omega
    have HUS := Lib.hid hus;have HSO := Lib.hid hS;have HBR := Lib.hid hbr;clear hus hS hbr;obtain ⟨ba, offa, rfl, hba, hla⟩ := (HA.out.up HBR.out).at hlt;obtain ⟨p0, -, -, pb, -⟩ := hla.tri hlt;obtain ⟨y, hy0⟩ : ∃ y, L.getD i (0, 0, 0) = y := ⟨_, rfl⟩;rw [hy0] at p0 pb;have HY := Lib.hid hy0;have ey := mod11 y.1;clear hy0 hla;go_wp2_with fail
    go_loopw [5, 6] (fun s5 s6 wq => ∃ k : Nat, s6 = .int .i64 (k : Int) /\ k <= out.length /\ s5 = .bool ((out.take k).all (fun o => decide (o.1 % 11 ≠ y.1 % 11))) /\ Below wr.heap.size wr wq)
     (fun _ s6 _ => out.length - (intOf s6).toNat)
    case atStart => exact ⟨0, rfl, Nat.zero_le _, rfl, Below.refl _ _⟩
    case round =>
     obtain ⟨k, rfl, hk, rfl, hbq⟩ := hrel;by_cases hkl : k < out.length
     ·have i3 : (k : Int) < (out.length : Int) := by omega
      have i4 : (0 : Int) <= (k : Int) := by omega
      have hal := all_snoc (0, 0, 0) hkl (fun o => decide (o.1 % 11 ≠ y.1 % 11));obtain ⟨bo, offo, rfl, hbo, hlo⟩ := ((HSO.out.sr).up hbq).at hkl;obtain ⟨r0, -, -, rb, -⟩ := hlo.tri hkl;replace p0 := keepc hbq p0;replace q0 := keepc hbq q0;obtain ⟨o, ho0⟩ : ∃ o, out.getD k (0, 0, 0) = o := ⟨_, rfl⟩;rw [ho0] at r0 rb hal;have eo := mod11 o.1;obtain ⟨fr, hfr⟩ : ∃ fr, (out.take k).all (fun o => decide (o.1 % 11 ≠ y.1 % 11)) = fr := ⟨_, rfl⟩;rw [hfr] at hal |-;have HAL := Lib.hid hal;have HBQ := Lib.hid hbq;clear hal hbq ho0 hlo hfr
      cases fr
      ·go_upto_region 9 with fail;refine wp_region_T (by kernel_rfl) [] (S := fun w' => w'.cell? ⟨ba, offa + i * 3, none⟩ = some (.int .u8 (y.1 : Int)) /\ w'.cell? ⟨bo, offo + k * 3, none⟩ = some (.int .u8 (o.1 : Int)) /\ w'.cell? ⟨w.heap.size, 0, none⟩ = some (.slice (some ⟨ba, offa, none⟩) L.length c)) ⟨p0, r0, q0⟩ (fun hHeld => ?_);(refine kL 0 rfl ?_; refine kL 1 rfl ?_)
       (refine uL 2 rfl ?_; refine uL 3 rfl ?_; refine uL 4 rfl ?_; refine uL 5 rfl ?_; refine uL 6 rfl ?_; refine uL 7 rfl ?_; refine uL 8 rfl ?_; refine uL 9 rfl ?_; refine uL 10 rfl ?_; refine uL 11 rfl ?_; refine uL 12 rfl ?_; refine uL 13 rfl ?_; refine uL 14 rfl ?_; refine uL 15 rfl ?_)
       (refine kL 16 rfl ?_; refine kL 17 rfl ?_)
       refine dT ?_;clear hHeld p0 r0 q0;go_wp2_with fail;refine ⟨⟨k + 1, by go_num, by omega, by rw [HAL.out]; rfl, Bl.drew HBQ.out⟩, by simp [intOf]; omega⟩
      ·by_cases hne : o.1 % 11 = y.1 % 11
       ·have hk0 : ((o.1 : Int) % 11 != (y.1 : Int) % 11) = false := by rw [bne_eq_false_iff_eq]; omega
        have HNE := Lib.hid hne;clear hne;go_upto_region 9 with fail;refine wp_region_T (by kernel_rfl) [] (S := fun w' => w'.cell? ⟨ba, offa + i * 3, none⟩ = some (.int .u8 (y.1 : Int)) /\ w'.cell? ⟨bo, offo + k * 3, none⟩ = some (.int .u8 (o.1 : Int)) /\ w'.cell? ⟨w.heap.size, 0, none⟩ = some (.slice (some ⟨ba, offa, none⟩) L.length c)) ⟨p0, r0, q0⟩ (fun hHeld => ?_);(refine kL 0 rfl ?_; refine kL 1 rfl ?_; refine kL 2 rfl ?_; refine kL 3 rfl ?_; refine kL 4 rfl ?_; refine kL 5 rfl ?_; refine kL 6 rfl ?_; refine kL 7 rfl ?_; refine kL 8 rfl ?_; refine kL 9 rfl ?_; refine kL 10 rfl ?_; refine kL 11 rfl ?_; refine kL 12 rfl ?_; refine kL 13 rfl ?_; refine kL 14 rfl ?_; refine kL 15 rfl ?_; refine kL 16 rfl ?_; refine kL 17 rfl ?_)
        refine dT ?_;clear hHeld p0 r0 q0;go_wp2_with fail;refine ⟨⟨k + 1, by go_num, by omega, by rw [HAL.out]; simp [HNE.out], Bl.drew HBQ.out⟩, by simp [intOf]; omega⟩
       ·have hk0 : ((o.1 : Int) % 11 != (y.1 : Int) % 11) = true := by rw [bne_iff_ne]; omega
        have HNE := Lib.hid hne;clear hne;go_upto_region 9 with fail;refine wp_region_T (by kernel_rfl) [] (S := fun w' => w'.cell? ⟨ba, offa + i * 3, none⟩ = some (.int .u8 (y.1 : Int)) /\ w'.cell? ⟨bo, offo + k * 3, none⟩ = some (.int .u8 (o.1 : Int)) /\ w'.cell? ⟨w.heap.size, 0, none⟩ = some (.slice (some ⟨ba, offa, none⟩) L.length c)) ⟨p0, r0, q0⟩ (fun hHeld => ?_);(refine kL 0 rfl ?_; refine kL 1 rfl ?_; refine kL 2 rfl ?_; refine kL 3 rfl ?_; refine kL 4 rfl ?_; refine kL 5 rfl ?_; refine kL 6 rfl ?_; refine kL 7 rfl ?_; refine kL 8 rfl ?_; refine kL 9 rfl ?_; refine kL 10 rfl ?_; refine kL 11 rfl ?_; refine kL 12 rfl ?_; refine kL 13 rfl ?_; refine kL 14 rfl ?_; refine kL 15 rfl ?_; refine kL 16 rfl ?_; refine kL 17 rfl ?_)
        refine dT ?_;clear hHeld p0 r0 q0;go_wp2_with fail;refine ⟨⟨k + 1, by go_num, by omega, by rw [HAL.out]; simp [HNE.out], Bl.drew HBQ.out⟩, by simp [intOf]; omega⟩
     ·obtain rfl : k = out.length := by omega
      rw [List.take_length];have HBQ := Lib.hid hbq;obtain ⟨fr, hfr⟩ : ∃ fr, out.all (fun o => decide (o.1 % 11 ≠ y.1 % 11)) = fr := ⟨_, rfl⟩;rw [hfr];have hst := usedN_drop hlt h7;rw [HY.out, hfr, HUS.out] at hst;have HST := Lib.hid hst;replace p0 := keepc hbq p0;replace q0 := keepc hbq q0;obtain ⟨ba', offa', e, -, hla⟩ := (HA.out.up (Bl.up HBR.out hbq)).at hlt;injection e with e;injection e with e2 e3;subst e2 e3;obtain ⟨-, p1, p2, -, pb1, pb2⟩ := hla.tri hlt;rw [HY.out] at p1 p2 pb1 pb2;clear hst hfr hbq hla
      cases fr
      ·go_wp2_with fail;refine ⟨⟨i + 1, out, by go_num, by omega, by omega, ?_, HSO.out.up HBQ.out, Bl.up HBR.out HBQ.out⟩, by simp [intOf]; omega⟩;rw [HST.out]; rfl
      ·have hS := HSO.out.up HBQ.out;have hbr := Bl.up HBR.out HBQ.out;have HR1 := Lib.hid hbr;have hD := heap_alloc_new wr (.cells #[.int .u8 (y.1 : Int), .int .u8 (y.2.1 : Int), .int .u8 (y.2.2 : Int)] 72);have hsc : Sc e3 (wr.alloc (.cells #[.int .u8 (y.1 : Int), .int .u8 (y.2.1 : Int), .int .u8 (y.2.2 : Int)] 72)) wr.heap.size 0 [y] := Sc.one (E := e3) (cs := [.int .u8 (y.1 : Int), .int .u8 (y.2.1 : Int), .int .u8 (y.2.2 : Int)]) hD ⟨rfl, pb, pb1, pb2⟩;have hS3 := hS.alloc (.cells #[.int .u8 (y.1 : Int), .int .u8 (y.2.1 : Int), .int .u8 (y.2.2 : Int)] 72);have hb3 := Bl.alloc hbr (.cells #[.int .u8 (y.1 : Int), .int .u8 (y.2.1 : Int), .int .u8 (y.2.2 : Int)] 72);have hln : out.length + 1 <= 1099511627776 := by omega
       clear hD hS hbr;go_wp2_with (at_builtin; go_must (refine wpl_apS (E := e3) rfl (.tmp 44) (.tmp 50) _ rfl Tryz.underlying22 W.heap.size _ out [y] rfl hS3 hb3.size _ 0 1 1 rfl rfl hsc (by decide) hln ?_); intro g' cap' w14 hS' hb' hg')
       have hb5 := ButS.below hb3 hb' hb3.size (fun g hg => (hS3.lt g hg).1);have HS5 := Lib.hid hS';have HB5 := Lib.hid hb5;clear hS' hb5 hb' hg' hS3 hb3 hsc p0 p1 p2 q0;go_wp2_with fail;refine ⟨⟨i + 1, out ++ [y], by go_num, by omega, by rw [List.length_append, List.length_singleton]; omega, ?_, HS5.out, HB5.out⟩, by simp [intOf]; omega⟩;rw [HST.out]; rfl
   ·have h7' : out.length = 7 := by omega
    obtain ⟨ao, co, rfl, hco⟩ := hS.slice;rw [h7'] at hS |-;have hun := usedN_stop (L.drop i) out h7;rw [hus] at hun;have HS := Lib.hid hS;have HU := Lib.hid hun;have HBR := Lib.hid hbr;clear hS hun hus hbr h7 h7' hol hco;go_wp2_with fail;go_ret
    rw [HU.out];exact ⟨_, rfl, HS.out.base hge, Bl.up HBL.out HBR.out⟩
  ·have hun : usedN L [] = out := by rw [<- hus, List.drop_eq_nil_of_le (by omega)]; rfl
   have HS := Lib.hid hS;have HU := Lib.hid hun;have HBR := Lib.hid hbr;clear hS hun hus hbr hol;go_wp2_with fail;go_ret
   rw [HU.out];exact ⟨_, rfl, HS.out.base hge, Bl.up HBL.out HBR.out⟩
theorem rprimes_any (w : World) :
  Calls Tryz.prog 30 #[] w fun e w' => ∃ B, e = .returned (.slice (some ⟨B, 0, none⟩) 11 11) /\ (∀ i, i < 11 -> w'.cell? ⟨B, i, none⟩ = some (.int .i64 ((prs.getD i 0 : Nat) : Int))) /\ Below w.heap.size w w' := by
 go_enter Tryz.func30, Tryz.ntmps30
 go_wp2_with fail;go_ret
 refine ⟨_, rfl, fun i hi => ?_, below_new _ _⟩;have hD := heap_alloc_new w (.cells #[.int .i64 2, .int .i64 3, .int .i64 5, .int .i64 7, .int .i64 11, .int .i64 13, .int .i64 101, .int .i64 1009, .int .i64 65537, .int .i64 1000003, .int .i64 2147483647] 2)
 have h2 : ∀ i, i < 11 -> (#[.int .i64 2, .int .i64 3, .int .i64 5, .int .i64 7, .int .i64 11, .int .i64 13, .int .i64 101, .int .i64 1009, .int .i64 65537, .int .i64 1000003, .int .i64 2147483647] : Array Value)[i]? = some (.int .i64 ((prs.getD i 0 : Nat) : Int)) := by
  intro i hi;match i, hi with
  | 0, _ => rfl
  | 1, _ => rfl
  | 2, _ => rfl
  | 3, _ => rfl
  | 4, _ => rfl
  | 5, _ => rfl
  | 6, _ => rfl
  | 7, _ => rfl
  | 8, _ => rfl
  | 9, _ => rfl
  | 10, _ => rfl
 unfold World.cell?;rw [hD];exact h2 i hi
theorem rpower_any (va : Value) (x k : Nat) (w : World) (hx : It w va x) (hk : k <= 1000) (hs : ∀ i, i <= k -> sz ((x ^ i : Nat) : Int) <= 1099511627776) (hsx : sz (x : Int) <= 1099511627776) :
  Calls Tryz.prog 31 #[va, .int .i64 (k : Int)] w fun e w' => ∃ v, e = .returned v /\ It w' v ((x ^ k : Nat) : Int) /\ Below w.heap.size w w' := by
 obtain ⟨s, a, n, c, rfl⟩ := hx.shape;go_enter Tryz.func31, Tryz.ntmps31
 go_upto_region 1 with fail;have hb := Bl.alloc (below_new w (.cells #[.bool s, .slice a n c] 29)) (.cells #[.bool false, .slice none 0 0] 29);have hV2 := (Vx.new (w := w) (T := 29) rfl hx).alloc (.cells #[.bool false, .slice none 0 0] 29);have hV4 := Vx.new0 (w := w.alloc (.cells #[.bool s, .slice a n c] 29)) (T := 29) (B := w.heap.size + 1) (by simp);clear hx;generalize (w.alloc (.cells #[.bool s, .slice a n c] 29)).alloc (.cells #[.bool false, .slice none 0 0] 29) = W at *;go_wp2_with fail;refine (rone_any W).mono ?_;rintro e w1 ⟨v, rfl, hv, hb1⟩;obtain ⟨s1, a1, n1, c1, rfl⟩ := hv.shape;go_upto_region 2 with fail;have hV5 := Vx.new (w := w1) (T := 29) rfl hv;have hV2' := (hV2.up hb1).alloc (.cells #[.bool s1, .slice a1 n1 c1] 29);have hV4' := (hV4.up hb1).alloc (.cells #[.bool s1, .slice a1 n1 c1] 29);have hbl := Bl.alloc (Bl.up hb hb1) (.cells #[.bool s1, .slice a1 n1 c1] 29);have h45 : w.heap.size + 1 < w1.heap.size := (hV4.up hb1).lt;clear hV2 hV4 hv hb hb1;generalize w1.heap.size = B5 at *;generalize w1.alloc (.cells #[.bool s1, .slice a1 n1 c1] 29) = w2 at *;go_wp2_with fail
 go_loopw [6] (fun s6 wr => ∃ i : Nat, s6 = .int .i64 i /\ i <= k /\ Below w.heap.size w wr /\ Vx wr w.heap.size x /\ Vx wr (w.heap.size + 1) 0 /\ Vx wr B5 ((x ^ i : Nat) : Int))
  (fun s6 _ => k - (intOf s6).toNat)
 case atStart => exact ⟨0, rfl, Nat.zero_le _, hbl, hV2', hV4', by rw [Nat.pow_zero]; exact hV5⟩
 case round =>
  clear hbl hV2' hV4' hV5;obtain ⟨i, rfl, hi, hbl, h2, h4, h5⟩ := hrel;by_cases hlt : i < k
  ·have hsi := hs i hi;obtain ⟨r1, r2, r3, r4, x0, x1, -, -, ix⟩ := h2.cells;obtain ⟨y1, y2, y3, y4, z0, z1, -, -, iy⟩ := h5.cells;have i1 : (i : Int) < (k : Int) := by omega
   go_wp2_with fail;refine (rmul_any _ _ ((x ^ i : Nat) : Int) (x : Int) wr iy ix hsi hsx).mono ?_;rintro e w3 ⟨v, rfl, hv, hb⟩;obtain ⟨s3, a3, n3, c3, rfl⟩ := hv.shape;rw [show ((x ^ i : Nat) : Int) * (x : Int) = ((x ^ (i + 1) : Nat) : Int) by rw [Nat.pow_succ]; simp] at hv;replace h2 := h2.up hb;replace h4 := h4.up hb;replace h5 := h5.up hb;replace hbl := Bl.up hbl hb;clear hb x0 x1 z0 z1 ix iy;obtain ⟨y1, y2, y3, y4, z0, z1, z2, z3, -⟩ := h5.cells;have H2 := Lib.hid h2;have H4 := Lib.hid h4;have H5 := Lib.hid h5;have HV := Lib.hid hv;have HB := Lib.hid hbl;clear h2 h4 h5 hv hbl;go_wp2_with fail;refine ⟨⟨i + 1, by go_num, by omega, Bl.st HB.out (by omega), Vx.other H2.out H5.out.va (by omega), Vx.other H4.out H5.out.va (by omega), Vx.put H5.out.va HV.out⟩, by simp [intOf]; omega⟩
  ·obtain rfl : i = k := by omega
   obtain ⟨y1, y2, y3, y4, z0, z1, -, -, iy⟩ := h5.cells;obtain ⟨r1, r2, r3, r4, x0, x1, x2, x3, -⟩ := h4.cells;go_wp2_with fail;exact ret_vx (B := w.heap.size + 1) rfl rfl rfl (Vx.put h4.va iy) (fun v hv => ⟨v, rfl, hv, Bl.st hbl (by omega)⟩)
end Go.Proofs.YtblebpmlkpobnaaGreatDoor
