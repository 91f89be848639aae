/-
  The reference of factor: step, Base.
-/
import Derived.Test.YtblebpmlkpobnaaGreatFH1
import Derived.Test.YtblebpmlkpobnaaGreatFS
import Derived.Test.YtblebpmlkpobnaaGreatFO1
import Derived.Test.YtblebpmlkpobnaaGreatFG1
import Derived.Test.YtblebpmlkpobnaaGreatFM
import Derived.Test.YtblebpmlkpobnaaGreatFN
import Derived.Test.YtblebpmlkpobnaaGreatFZF
import Derived.Test.YtblebpmlkpobnaaGreatFZC
set_option linter.unusedSimpArgs false
set_option linter.unusedVariables false
set_option maxRecDepth 100000
set_option maxHeartbeats 8000000
namespace Go.Proofs.YtblebpmlkpobnaaGreat
def oth (l : List Nat) (i k : Nat) (n : Nat) : List Nat := ((List.range n).filter fun j => decide (j ≠ i) && decide (j ≠ k)).map (l.getD · 0)
theorem oth_snoc (l : List Nat) (i k n : Nat) : oth l i k (n + 1) = if n ≠ i /\ n ≠ k then oth l i k n ++ [l.getD n 0] else oth l i k n := by
 unfold oth;rw [List.range_succ, List.filter_append, List.map_append];split
 ·rename_i h; simp [h]
 ·rename_i h
  have : (decide (n ≠ i) && decide (n ≠ k)) = false := by
   rw [Bool.and_eq_false_iff];rcases Classical.not_and_iff_not_or_not.1 h with h | h
   ·exact .inl (decide_eq_false h)
   ·exact .inr (decide_eq_false h)
  rw [show ([n].filter fun j => decide (j ≠ i) && decide (j ≠ k)) = [] from by rw [List.filter_cons, this]; rfl];simp
theorem oth_perm {l : List Nat} {i k : Nat} (hi : i < l.length) (hk : k < i) : l.Perm (l.getD i 0 :: l.getD k 0 :: oth l i k l.length) := by
 have h1 : l = (List.range l.length).map (l.getD · 0) := by
  apply List.ext_getElem
  ·simp
  ·intro j h1 h2;simp [List.getD_eq_getElem?_getD, List.getElem?_eq_getElem h1]
 have h2 : (List.range l.length).Perm (i :: k :: (List.range l.length).filter fun j => decide (j ≠ i) && decide (j ≠ k)) := by
  refine (List.perm_ext_iff_of_nodup List.nodup_range ?_).2 (fun x => ?_)
  ·refine List.nodup_cons.2 ⟨?_, List.nodup_cons.2 ⟨?_, List.nodup_range.sublist List.filter_sublist⟩⟩
   ·intro h;rcases List.mem_cons.1 h with h | h
    ·omega
    ·simp at h
   ·intro h; simp at h
  ·simp only [List.mem_range, List.mem_cons, List.mem_filter, Bool.and_eq_true, decide_eq_true_eq];constructor
   ·intro h;by_cases e1 : x = i
    ·exact .inl e1
    ·by_cases e2 : x = k
     ·exact .inr (.inl e2)
     ·exact .inr (.inr ⟨h, e1, e2⟩)
   ·rintro (h | h | h)
    ·omega
    ·omega
    ·exact h.1
 have h3 := h2.map (l.getD · 0);rw [<- h1] at h3;exact h3
def big (m : List Nat) : List Nat := m.filter fun x => decide (1 < x)
def wth (l : List Nat) (i k : Nat) (m : List Nat) : List Nat := oth l i k l.length ++ big m
theorem big_snoc (m : List Nat) {j : Nat} (hj : j < m.length) : big (m.take (j + 1)) = if 1 < m.getD j 0 then big (m.take j) ++ [m.getD j 0] else big (m.take j) := by
 unfold big;rw [List.take_succ_eq_append_getElem hj, List.filter_append, List.getD_eq_getElem?_getD, List.getElem?_eq_getElem hj];split
 ·rename_i h; simp [show 1 < m[j] from h]
 ·rename_i h; simp [show ¬ 1 < m[j] from h]
theorem big_prod {m : List Nat} (h : ∀ x ∈ m, 1 <= x) : (big m).prod = m.prod := by
 induction m with
 | nil => rfl
 | cons x m ih =>
   have hx := h x (by simp);have := ih (fun y hy => h y (by simp [hy]));unfold big at this |-;by_cases h1 : 1 < x
   ·simp [h1, this]
   ·have : x = 1 := by omega
    subst this;simpa using this
def Stp (l l' : List Nat) : Prop := ∃ i k, k < i /\ i < l.length /\ 1 < Nat.gcd (l.getD i 0) (l.getD k 0) /\ l' = wth l i k [Nat.gcd (l.getD i 0) (l.getD k 0), l.getD i 0 / Nat.gcd (l.getD i 0) (l.getD k 0), l.getD k 0 / Nat.gcd (l.getD i 0) (l.getD k 0)]
structure BsI (l c : List Nat) : Prop where
 two : ∀ x ∈ c, 2 <= x
 le : c.prod <= l.prod
 onto : ∀ x ∈ l, Cls c x
 of : ∀ x ∈ c, Cls l x
theorem BsI.start {l : List Nat} (h : ∀ x ∈ l, 2 <= x) : BsI l l := ⟨h, Nat.le_refl _, fun _ hx => .mem hx, fun _ hx => .mem hx⟩
theorem Stp.facts {c c' : List Nat} (h2 : ∀ x ∈ c, 2 <= x) (h : Stp c c') : (∀ x ∈ c', 2 <= x) /\ c'.prod < c.prod /\ (∀ x ∈ c, Cls c' x) /\ ∀ x ∈ c', Cls c x := by
 obtain ⟨i, k, hk, hi, hg, rfl⟩ := h;have hp := oth_perm hi hk;obtain ⟨a, ha⟩ : ∃ a, c.getD i 0 = a := ⟨_, rfl⟩;obtain ⟨b, hb⟩ : ∃ b, c.getD k 0 = b := ⟨_, rfl⟩;rw [ha, hb] at hp hg |-;obtain ⟨o, ho⟩ : ∃ o, oth c i k c.length = o := ⟨_, rfl⟩;unfold wth;rw [ho] at hp |-;obtain ⟨g, hge⟩ : ∃ g, Nat.gcd a b = g := ⟨_, rfl⟩;have hga : g ∣ a := hge ▸ Nat.gcd_dvd_left a b;have hgb : g ∣ b := hge ▸ Nat.gcd_dvd_right a b;have hma : a ∈ c := hp.mem_iff.2 (by simp);have hmb : b ∈ c := hp.mem_iff.2 (by simp);have hmo : ∀ x ∈ o, x ∈ c := fun x hx => hp.mem_iff.2 (by simp [hx]);have ha2 := h2 a hma;have hb2 := h2 b hmb;rw [hge] at hg |-;have hq1 : 1 <= a / g := (Nat.le_div_iff_mul_le (by omega)).2 (by have := Nat.le_of_dvd (by omega) hga; omega);have hq2 : 1 <= b / g := (Nat.le_div_iff_mul_le (by omega)).2 (by have := Nat.le_of_dvd (by omega) hgb; omega);have hab : g * (a / g) = a := Nat.mul_div_cancel' hga;have hbb : g * (b / g) = b := Nat.mul_div_cancel' hgb
 have hbig : (big [g, a / g, b / g]).prod = g * (a / g) * (b / g) := by
  rw [big_prod (fun x hx => by
   simp only [List.mem_cons, List.not_mem_nil, or_false] at hx;rcases hx with rfl | rfl | rfl <;> omega)]
  simp [Nat.mul_assoc]
 have hin : ∀ x, x ∈ big [g, a / g, b / g] ↔ 1 < x /\ (x = g \/ x = a / g \/ x = b / g) := by
  intro x;unfold big;simp only [List.mem_filter, List.mem_cons, List.not_mem_nil, or_false, decide_eq_true_eq];exact And.comm
 have hmem : ∀ x, 1 <= x -> (x = g \/ x = a / g \/ x = b / g) -> Cls (o ++ big [g, a / g, b / g]) x := by
  intro x h1 h2;by_cases hx : x = 1
  ·subst hx; exact .one
  ·exact .mem (List.mem_append_right _ ((hin x).2 ⟨by omega, h2⟩))
 refine ⟨fun x hx => ?_, ?_, fun x hx => ?_, fun x hx => ?_⟩
 ·rcases List.mem_append.1 hx with hx | hx
  ·exact h2 x (hmo x hx)
  ·have := ((hin x).1 hx).1; omega
 ·rw [hp.prod_nat, List.prod_append_nat, hbig, List.prod_cons, List.prod_cons, hab];have ho1 : 1 <= o.prod := prod_pos fun x hx => by have := h2 x (hmo x hx); omega
  have hlt : b / g < b := Nat.div_lt_self (by omega) hg;have h3 : a * (b / g) < a * b := Nat.mul_lt_mul_of_pos_left hlt (by omega);have h4 : o.prod * (a * (b / g)) < o.prod * (a * b) := Nat.mul_lt_mul_of_pos_left h3 (by omega);rw [<- Nat.mul_assoc a b o.prod, Nat.mul_comm (a * b)];exact h4
 ·rcases List.mem_cons.1 (hp.mem_iff.1 hx) with rfl | hx
  ·have hh := Cls.mul (hmem g (by omega) (.inl rfl)) (hmem _ hq1 (.inr (.inl rfl)));rw [hab] at hh; exact hh
  ·rcases List.mem_cons.1 hx with rfl | hx
   ·have hh := Cls.mul (hmem g (by omega) (.inl rfl)) (hmem _ hq2 (.inr (.inr rfl)));rw [hbb] at hh; exact hh
   ·exact .mem (List.mem_append_left _ hx)
 ·have hgc : Cls c g := by rw [<- hge]; exact .gcd (.mem hma) (.mem hmb)
  rcases List.mem_append.1 hx with hx | hx
  ·exact .mem (hmo x hx)
  ·rcases ((hin x).1 hx).2 with rfl | rfl | rfl
   ·exact hgc
   ·exact .div (.mem hma) hgc (by omega) hga
   ·exact .div (.mem hmb) hgc (by omega) hgb
theorem BsI.step {l c c' : List Nat} (h : BsI l c) (hs : Stp c c') : BsI l c' /\ c'.prod < c.prod := by
 obtain ⟨h1, h2, h3, h4⟩ := hs.facts h.two;exact ⟨⟨h1, Nat.le_trans (Nat.le_of_lt h2) h.le, fun x hx => (h.onto x hx).mono h3, fun x hx => (h4 x hx).mono h.of⟩, h2⟩
theorem BsI.done {l c : List Nat} (h : BsI l c) (hc : c.Pairwise Nat.Coprime) : CB l c := (CB.self ⟨h.two, hc⟩).same h.of h.onto
theorem BsI.len {l c : List Nat} (h : BsI l c) : 2 ^ c.length <= l.prod := by
 refine Nat.le_trans ?_ h.le
 have key : ∀ m : List Nat, (∀ x ∈ m, 2 <= x) -> 2 ^ m.length <= m.prod := by
  intro m;induction m with
  | nil => intro _; simp
  | cons x m ih =>
    intro h;rw [List.length_cons, Nat.pow_succ, List.prod_cons, Nat.mul_comm];exact Nat.mul_le_mul (h x (by simp)) (ih (fun y hy => h y (by simp [hy])))
 exact key c h.two
theorem BsI.el {l c : List Nat} (h : BsI l c) {x : Nat} (hx : x ∈ c) : x <= l.prod := by
 refine Nat.le_trans ?_ h.le;obtain ⟨a, b, rfl⟩ := List.append_of_mem hx;rw [(List.perm_middle (l₁ := a) (l₂ := b)).prod_nat, List.prod_cons]
 exact Nat.le_mul_of_pos_right _ (prod_pos fun y hy => by
  have := h.two y (by rcases List.mem_append.1 hy with hy | hy <;> simp [hy]); omega)
open Go.RowKit
attribute [local go_sem ↓] Go.wp_at_zero Go.wp_at_succ
theorem rhas_any (va vb : Value) (l : List Int) (x : Int) (w : World) (ha : Sr eI w va l) (hx : It w vb x) (hs : ∀ y ∈ l, sz y <= 1099511627776) (hsx : sz x <= 1099511627776) (hN : l.length <= 1099511627776) :
  Calls Tryz.prog 92 #[va, vb] w fun e w' => e = .returned (.bool (decide (x ∈ l))) /\ Below w.heap.size w w' := by
 obtain ⟨a, ca, rfl, hra⟩ := id ha;clear hra;obtain ⟨s0, a0, n0, c0, rfl⟩ := hx.shape;go_enter Tryz.func92, Tryz.ntmps92
 go_wp2_with fail;have hb0 := below_new w (.cells #[.bool s0, .slice a0 n0 c0] 33);have hD0 := heap_alloc_new w (.cells #[.bool s0, .slice a0 n0 c0] 33);have hA0 := ha.alloc (.cells #[.bool s0, .slice a0 n0 c0] 33);have hP0 := hx.alloc (.cells #[.bool s0, .slice a0 n0 c0] 33);clear ha hx;generalize w.alloc (.cells #[.bool s0, .slice a0 n0 c0] 33) = W at *
 go_loopw [5] (fun s wr => ∃ (i : Nat), i <= l.length /\ s = .int .i64 i /\ (∀ j, j < i -> l.getD j 0 ≠ x) /\ Below W.heap.size W wr)
  (fun s _ => l.length - (intOf s).toNat)
 case atStart => exact ⟨0, Nat.zero_le _, rfl, fun j hj => absurd hj (Nat.not_lt_zero _), Below.refl _ _⟩
 case round =>
  obtain ⟨i, hi, rfl, hval, hbl⟩ := hrel;have HV := Lib.hid hval;clear hval;by_cases hlt : i < l.length
  ·obtain ⟨ba, offa, rfl, hba, hla⟩ := (hA0.up hbl).at hlt;obtain ⟨s1, a1, n1, k1, p0, p1, hy⟩ := hla.int hlt;have hx := hP0.up hbl;have hD := (hbl.block _ (Array.getElem?_eq_some_iff.1 hD0).1).trans hD0;have q0 : wr.cell? ⟨w.heap.size, 0, none⟩ = some (.bool s0) := by simp [World.cell?, hD]
   have q1 : wr.cell? ⟨w.heap.size, 1, none⟩ = some (.slice a0 n0 c0) := by simp [World.cell?, hD]
   clear hla hD hD0 hA0 hP0;have i0 : (0 : Int) <= (i : Int) := by omega
   have i1 : (i : Int) < (l.length : Int) := by omega
   have hm : l.getD i 0 ∈ l := by rw [List.getD_eq_getElem?_getD, List.getElem?_eq_getElem hlt]; exact List.getElem_mem _
   have hs1 := hs _ hm;have HM := Lib.hid hm;obtain ⟨y, hy0⟩ : ∃ y, l.getD i 0 = y := ⟨_, rfl⟩;rw [hy0] at hy hs1 HM;have HX := Lib.hid hy0;have HB0 := Lib.hid (Bl.up hb0 hbl);have HBW := Lib.hid hbl;clear hy0 hbl hb0 hm hs;go_upto_region 4 with fail;refine wp_region_T (by kernel_rfl) [] (S := fun w' => w'.cell? ⟨ba, offa + i * 2, none⟩ = some (.bool s1) /\ w'.cell? ⟨ba, offa + i * 2 + 1, none⟩ = some (.slice a1 n1 k1) /\ w'.cell? ⟨w.heap.size, 0, none⟩ = some (.bool s0) /\ w'.cell? ⟨w.heap.size, 1, none⟩ = some (.slice a0 n0 c0)) ⟨p0, p1, q0, q1⟩ (fun hHeld => ?_);(refine kL 0 rfl ?_; refine kL 1 rfl ?_; refine kL 2 rfl ?_; refine kL 3 rfl ?_; refine kL 4 rfl ?_)
   (refine oL 5 rfl fun K hK => tL ?_; go_simp);refine (rcmp_any _ _ y x _ hy.drew hx.drew (Nat.le_trans hs1 (by decide)) (Nat.le_trans hsx (by decide))).mono ?_;rintro e w2 ⟨rfl, hb2⟩;have HB2 := Lib.hid (Bl.up (Bl.drew HB0.out) hb2);have HBW2 := Lib.hid (Bl.up (Bl.drew HBW.out) hb2);obtain ⟨bs, hbs⟩ : ∃ bs, cmpI y x = bs := ⟨_, rfl⟩;rw [hbs];have HS := Lib.hid (show (bs = 0) ↔ y = x by rw [<- hbs]; exact cmpI_zero);clear hbs;(go_wp2_with fail; clear hHeld; refine nxL hK ⟨keepc hb2 (cellD p0), keepc hb2 (cellD p1), keepc hb2 (cellD q0), keepc hb2 (cellD q1)⟩ fun hHeld => tL ?_; clear hK);(refine kL 6 rfl ?_)
   refine dT ?_;clear hHeld p0 p1 q0 q1 hb2 hx hy;by_cases h0 : bs = 0
   ·have hbe : (bs == 0) = true := by rw [h0]; rfl
    have HE := Lib.hid (HS.out.1 h0);clear h0;go_wp2_with fail;go_ret
    refine ⟨ret_of (congrArg Value.bool (decide_eq_true ?_).symm), HB2.out⟩;exact HE.out ▸ HM.out
   ·have hbe : (bs == 0) = false := beq_eq_false_iff_ne.2 h0;have HE := Lib.hid (fun e => h0 (HS.out.2 e));clear h0;go_wp2_with fail;go_roundw
    case rel =>
     refine ⟨i + 1, by omega, by go_num, fun j hj => ?_, HBW2.out⟩;by_cases e : j = i
     ·subst e;rw [HX.out];exact HE.out
     ·exact HV.out j (by omega)
    case measure => simp [intOf]; omega
  ·have hin : i = l.length := by omega
   subst hin;go_wp2_with fail;go_ret
   refine ⟨ret_of (congrArg Value.bool (decide_eq_false fun hm => ?_).symm), Bl.up hb0 hbl⟩;obtain ⟨j, hj, e⟩ := List.getElem_of_mem hm;refine HV.out j hj ?_;rw [List.getD_eq_getElem?_getD, List.getElem?_eq_getElem hj, Option.getD_some, e]
theorem rnumbers_any (va : Value) (l : List (Int × Int)) (w : World) (h : Sr eP w va l) (hl : l.length <= 549755813888) :
  Calls Tryz.prog 90 #[va] w fun e w' => ∃ v, e = .returned v /\ So eI w' w.heap.size v (l.map Prod.fst) /\ Below w.heap.size w w' := by
 obtain ⟨a, c, rfl, hra⟩ := id h;clear hra;go_enter Tryz.func90, Tryz.ntmps90
 go_upto_region 2 with fail;have hS0 : So eI (w.alloc (.cells #[] 33)) w.heap.size (.slice (some ⟨w.heap.size, 0, none⟩) 0 0) [] := So.lit0 eI w (Nat.le_refl _);have hb0 := below_new w (.cells #[] 33);have HS0 := Lib.hid hS0;have HB0 := Lib.hid hb0;have HA := Lib.hid h;clear h hS0 hb0;generalize w.alloc (.cells #[] 33) = W at *;go_wp2_with fail
 go_loopw [3, 4] (fun s3 s4 wr => ∃ i : Nat, s4 = .int .i64 (i : Int) /\ i <= l.length /\ So eI wr w.heap.size s3 ((l.map Prod.fst).take i) /\ Below w.heap.size w wr)
  (fun _ s4 _ => l.length - (intOf s4).toNat)
 case atStart => exact ⟨0, rfl, Nat.zero_le _, HS0.out, HB0.out⟩
 case round =>
  obtain ⟨i, rfl, hi, hS, hbr⟩ := hrel;obtain ⟨ao, co, rfl, hco⟩ := hS.slice;by_cases hlt : i < l.length
  ·obtain ⟨ba, offa, rfl, hba, hla⟩ := (HA.out.up hbr).at hlt;obtain ⟨s1, a1, n1, k1, p0, p1, -, hx⟩ := hla.pow hlt
   have hsn : (l.map Prod.fst).take (i + 1) = (l.map Prod.fst).take i ++ [(l.getD i (0, 0)).1] := by
    rw [List.take_succ_eq_append_getElem (by rw [List.length_map]; exact hlt), List.getD_eq_getElem?_getD, List.getElem?_eq_getElem hlt];simp
   have i0 : (0 : Int) <= (i : Int) := by omega
   have i1 : (i : Int) < (l.length : Int) := by omega
   have hb3 := below_new wr (.cells #[.bool s1, .slice a1 n1 k1] 33);have hD3 := heap_alloc_new wr (.cells #[.bool s1, .slice a1 n1 k1] 33);have hS3 := hS.up hb3;have hsc : Sc eI (wr.alloc (.cells #[.bool s1, .slice a1 n1 k1] 33)) wr.heap.size 0 [(l.getD i (0, 0)).1] := Sc.one (E := eI) (cs := [.bool s1, .slice a1 n1 k1]) hD3 ⟨s1, a1, n1, k1, rfl, hx.up hb3⟩;have hlz : w.heap.size <= (wr.alloc (.cells #[.bool s1, .slice a1 n1 k1] 33)).heap.size := (Bl.up hbr hb3).size;have hl0 : ((l.map Prod.fst).take i).length = i := by rw [List.length_take, List.length_map]; omega
   have hln : ((l.map Prod.fst).take i).length + 1 <= 1099511627776 := by rw [hl0]; omega
   have HL0 := Lib.hid hl0;have HSN := Lib.hid hsn;have HB3 := Lib.hid (Bl.up hbr hb3);clear hla hx hsn hb3 hD3 hS hbr hco hl0;go_wp2_with (at_builtin; go_must (refine wpl_apS (E := eI) rfl (.tmp 12) (.tmp 18) _ rfl Tryz.underlying63 w.heap.size _ ((l.map Prod.fst).take i) [(l.getD i (0, 0)).1] rfl hS3 hlz _ 0 1 1 rfl rfl hsc (by decide) hln ?_); intro g' cap' w4 hS' hb' hg')
   have hb5 := ButS.below HB3.out hb' HB3.out.size (fun g hg => (hS3.lt g hg).1);have hS5 : So eI w4 w.heap.size (.slice (some ⟨g', 0, none⟩) (i + 1) cap') ((l.map Prod.fst).take (i + 1)) := by rw [HSN.out]; rw [HL0.out] at hS'; exact hS'
   have HS5 := Lib.hid hS5;have HB5 := Lib.hid hb5;clear hS' hS5 hb5 hb' hg' hS3 hsc p0 p1;go_wp2_with fail;refine ⟨⟨i + 1, by go_num, by omega, HS5.out, HB5.out⟩, by simp [intOf]; omega⟩
  ·have hil : i = l.length := by omega
   subst hil;have e : (l.map Prod.fst).take l.length = l.map Prod.fst := List.take_of_length_le (by simp);have HS := Lib.hid (e ▸ hS);have HBR := Lib.hid hbr;rw [e];clear hS hbr hco e;go_wp2_with fail;go_ret
   exact ⟨_, rfl, HS.out, HBR.out⟩
theorem oth_len (l : List Nat) (i k n : Nat) : (oth l i k n).length <= n := by
 unfold oth;rw [List.length_map];exact Nat.le_trans (List.length_filter_le _ _) (by simp)
theorem big_len (m : List Nat) : (big m).length <= m.length := List.length_filter_le _ _
theorem cmp_pos {x : Nat} : cmpI (x : Int) 1 > 0 ↔ 1 < x := by
 unfold cmpI;split
 ·constructor <;> intro <;> omega
 ·split
  ·constructor <;> intro <;> omega
  ·constructor <;> intro <;> omega
theorem rwithout_any (va vm : Value) (l m : List Nat) (i k : Nat) (w : World) (ha : Sr eI w va (zI l)) (hm : Sr eI w vm (zI m)) (hs : ∀ x ∈ m, sz (x : Int) <= 1099511627776) (hl : l.length <= 549755813888) (hml : m.length <= 1000) :
  Calls Tryz.prog 146 #[va, .int .i64 (i : Int), .int .i64 (k : Int), vm] w fun e w' => ∃ v, e = .returned v /\ So eI w' w.heap.size v (zI (wth l i k m)) /\ Below w.heap.size w w' := by
 obtain ⟨a, c, rfl, hra⟩ := id ha;obtain ⟨am, cm, rfl, hrm⟩ := id hm;clear hra hrm;go_enter Tryz.func146, Tryz.ntmps146
 go_upto_region 2 with fail;have hS0 : So eI (w.alloc (.cells #[] 33)) w.heap.size (.slice (some ⟨w.heap.size, 0, none⟩) 0 0) [] := So.lit0 eI w (Nat.le_refl _);have hb0 := below_new w (.cells #[] 33);have HS0 := Lib.hid hS0;have HB0 := Lib.hid hb0;have HA := Lib.hid ha;have HM := Lib.hid hm;have HSM := Lib.hid hs;clear ha hm hS0 hb0 hs;generalize w.alloc (.cells #[] 33) = W at *;obtain ⟨L, hL⟩ : ∃ L, (zI l).length = L := ⟨_, rfl⟩;obtain ⟨M, hM⟩ : ∃ M, (zI m).length = M := ⟨_, rfl⟩;have hLl : l.length = L := by rw [<- zI_len]; exact hL
 have hMl : m.length = M := by rw [<- zI_len]; exact hM
 rw [hL] at HA |-;rw [hM] at HM |-;have HLL := Lib.hid hLl;have HML := Lib.hid hMl;rw [hLl] at hl;rw [hMl] at hml;have HLZ := Lib.hid hL;have HMZ := Lib.hid hM;clear hL hM hLl hMl;go_wp2_with fail
 go_loopw [9, 10] (fun s9 s10 wr => ∃ j : Nat, s10 = .int .i64 (j : Int) /\ j <= L /\ So eI wr w.heap.size s9 (zI (oth l i k j)) /\ Below w.heap.size w wr)
  (fun _ s10 _ => L - (intOf s10).toNat)
 case atStart => exact ⟨0, rfl, Nat.zero_le _, HS0.out, HB0.out⟩
 case round =>
  obtain ⟨j, rfl, hj, hS, hbr⟩ := hrel;obtain ⟨ao, co, rfl, hco⟩ := hS.slice;have HS := Lib.hid hS;have HBR := Lib.hid hbr;by_cases hlt : j < L
  ·have j0 : (0 : Int) <= (j : Int) := by omega
   have j1 : (j : Int) < (L : Int) := by omega
   have hsn := oth_snoc l i k j;have HSN := Lib.hid hsn;clear hsn;by_cases h1 : j = i
   ·have e1 : ((j : Int) != (i : Int)) = false := by rw [bne_eq_false_iff_eq, h1]
    have HE := Lib.hid (show oth l i k (j + 1) = oth l i k j by rw [HSN.out, if_neg (fun h => h.1 h1)]);clear hS hbr h1 hco;go_wp2_with fail;refine ⟨⟨j + 1, by go_num, by omega, by rw [HE.out]; exact HS.out, HBR.out⟩, by simp [intOf]; omega⟩
   ·have e1 : ((j : Int) != (i : Int)) = true := by rw [bne_iff_ne]; omega
    by_cases h2 : j = k
    ·have e2 : ((j : Int) != (k : Int)) = false := by rw [bne_eq_false_iff_eq, h2]
     have HE := Lib.hid (show oth l i k (j + 1) = oth l i k j by rw [HSN.out, if_neg (fun h => h.2 h2)]);clear hS hbr h1 h2 hco;go_wp2_with fail;refine ⟨⟨j + 1, by go_num, by omega, by rw [HE.out]; exact HS.out, HBR.out⟩, by simp [intOf]; omega⟩
    ·have e2 : ((j : Int) != (k : Int)) = true := by rw [bne_iff_ne]; omega
     obtain ⟨x, hx⟩ : ∃ x, l.getD j 0 = x := ⟨_, rfl⟩;have HE := Lib.hid (show oth l i k (j + 1) = oth l i k j ++ [x] by rw [HSN.out, if_pos ⟨h1, h2⟩, hx]);have hjz : j < (zI l).length := by rw [HLZ.out]; exact hlt
     obtain ⟨ba, offa, rfl, hba, hla⟩ := (HA.out.up hbr).at hjz;obtain ⟨s1, a1, n1, k1, p0, p1, hx1⟩ := hla.int hjz;rw [zI_getD, hx] at hx1;have hb3 := below_new wr (.cells #[.bool s1, .slice a1 n1 k1] 33);have hD3 := heap_alloc_new wr (.cells #[.bool s1, .slice a1 n1 k1] 33);have hS3 := hS.up hb3;have hsc : Sc eI (wr.alloc (.cells #[.bool s1, .slice a1 n1 k1] 33)) wr.heap.size 0 [((x : Nat) : Int)] := Sc.one (E := eI) (cs := [.bool s1, .slice a1 n1 k1]) hD3 ⟨s1, a1, n1, k1, rfl, hx1.up hb3⟩;have hlz : w.heap.size <= (wr.alloc (.cells #[.bool s1, .slice a1 n1 k1] 33)).heap.size := (Bl.up hbr hb3).size;have hln : (zI (oth l i k j)).length + 1 <= 1099511627776 := by have := oth_len l i k j; rw [zI_len]; omega
     have HB3 := Lib.hid (Bl.up hbr hb3);clear hla hx1 hb3 hD3 hS hbr hco HS HBR h1 h2 hx;go_wp2_with (at_builtin; go_must (refine wpl_apS (E := eI) rfl (.tmp 27) (.tmp 32) _ rfl Tryz.underlying63 w.heap.size _ (zI (oth l i k j)) [((x : Nat) : Int)] rfl hS3 hlz _ 0 1 1 rfl rfl hsc (by decide) hln ?_); intro g' cap' w4 hS' hb' hg')
     have hb5 := ButS.below HB3.out hb' HB3.out.size (fun g hg => (hS3.lt g hg).1);have hS5 : So eI w4 w.heap.size (.slice (some ⟨g', 0, none⟩) ((zI (oth l i k j)).length + 1) cap') (zI (oth l i k (j + 1))) := by rw [HE.out, zI_append]; exact hS'
     have HS5 := Lib.hid hS5;have HB5 := Lib.hid hb5;clear hS' hS5 hb5 hb' hg' hS3 hsc p0 p1;go_wp2_with fail;refine ⟨⟨j + 1, by go_num, by omega, HS5.out, HB5.out⟩, by simp [intOf]; omega⟩
  ·have hjl : j = L := by omega
   subst hjl;have j1 : ¬ (j : Int) < (j : Int) := by omega
   have HO := Lib.hid (show oth l i k j ++ big (m.take 0) = oth l i k j by simp [big]);clear hS hbr hco hlt hj;go_wp2_with fail
   go_loopw [9, 11] (fun s9 s11 wy => ∃ t : Nat, s11 = .int .i64 (t : Int) /\ t <= M /\ So eI wy w.heap.size s9 (zI (oth l i k j ++ big (m.take t))) /\ Below w.heap.size w wy)
    (fun _ s11 _ => M - (intOf s11).toNat)
   case atStart => exact ⟨0, rfl, Nat.zero_le _, by rw [HO.out]; exact HS.out, HBR.out⟩
   case round =>
    obtain ⟨t, rfl, ht, hS, hbr⟩ := hrel;obtain ⟨ao, co, rfl, hco⟩ := hS.slice;by_cases hlt : t < M
    ·have t0 : (0 : Int) <= (t : Int) := by omega
     have t1 : (t : Int) < (M : Int) := by omega
     have htm : t < m.length := by rw [HML.out]; exact hlt
     have htz : t < (zI m).length := by rw [HMZ.out]; exact hlt
     obtain ⟨ba, offa, rfl, hba, hla⟩ := (HM.out.up hbr).at htz;obtain ⟨s1, a1, n1, k1, p0, p1, hx1⟩ := hla.int htz;rw [zI_getD] at hx1;have hmem : m.getD t 0 ∈ m := by rw [List.getD_eq_getElem?_getD, List.getElem?_eq_getElem htm]; exact List.getElem_mem _
     have hsx := HSM.out _ hmem;have hsn := big_snoc m htm;obtain ⟨x, hx⟩ : ∃ x, m.getD t 0 = x := ⟨_, rfl⟩;rw [hx] at hx1 hsx hsn;have HSN := Lib.hid hsn;have HS2 := Lib.hid hS;have HBR2 := Lib.hid hbr;have HX1 := Lib.hid hx1;have HSX := Lib.hid hsx;clear hla hmem hx hsn hS hbr hx1 hsx htm htz hco HS HBR;go_upto_region 10 with fail;refine wp_region_T (by kernel_rfl) [] (S := fun w' => w'.cell? ⟨ba, offa + t * 2, none⟩ = some (.bool s1) /\ w'.cell? ⟨ba, offa + t * 2 + 1, none⟩ = some (.slice a1 n1 k1)) ⟨p0, p1⟩ (fun hHeld => ?_);(refine pL 0 rfl ?_; refine pL 1 rfl ?_; refine pL 2 rfl ?_)
     refine kL 3 rfl ?_;(refine oL 4 rfl fun K hK => tL ?_; go_simp);refine (rone_any _).mono ?_;rintro e w2 ⟨v, rfl, hv, hb2⟩;replace HX1 := Lib.hid (HX1.out.drew.up hb2);replace p0 := keepc hb2 (cellD p0);replace p1 := keepc hb2 (cellD p1);replace HS2 := Lib.hid (HS2.out.drew.up hb2);replace HBR2 := Lib.hid (Bl.up (Bl.drew HBR2.out) hb2);have HV := Lib.hid hv;clear hv hb2;(go_wp2_with fail; clear hHeld; refine nxL hK ⟨p0, p1⟩ fun hHeld => tL ?_; clear hK);(refine oL 5 rfl fun K hK => tL ?_; go_simp);refine (rcmp_any _ _ ((x : Nat) : Int) 1 _ HX1.out HV.out (Nat.le_trans HSX.out (by decide)) (by decide)).mono ?_;rintro e w3 ⟨rfl, hb2⟩;replace HX1 := Lib.hid (HX1.out.up hb2);replace p0 := keepc hb2 p0;replace p1 := keepc hb2 p1;replace HS2 := Lib.hid (HS2.out.up hb2);replace HBR2 := Lib.hid (Bl.up HBR2.out hb2);obtain ⟨bs, hbs⟩ : ∃ bs, cmpI ((x : Nat) : Int) 1 = bs := ⟨_, rfl⟩;have hcp : bs > 0 ↔ 1 < x := by rw [<- hbs]; exact cmp_pos
     rw [hbs];have HC := Lib.hid hcp;clear hbs hb2 hcp HV;(go_wp2_with fail; clear hHeld; refine nxL hK ⟨p0, p1⟩ fun hHeld => tL ?_; clear hK);(refine kL 6 rfl ?_)
     refine dT ?_;clear hHeld;by_cases h1 : 1 < x
     ·have hb0 : bs > 0 := HC.out.2 h1;have HE := Lib.hid (show oth l i k j ++ big (m.take (t + 1)) = (oth l i k j ++ big (m.take t)) ++ [x] by rw [HSN.out, if_pos h1, List.append_assoc]);have hb3 := below_new w3 (.cells #[.bool s1, .slice a1 n1 k1] 33);have hD3 := heap_alloc_new w3 (.cells #[.bool s1, .slice a1 n1 k1] 33);have hS3 := HS2.out.up hb3;have hsc : Sc eI (w3.alloc (.cells #[.bool s1, .slice a1 n1 k1] 33)) w3.heap.size 0 [((x : Nat) : Int)] := Sc.one (E := eI) (cs := [.bool s1, .slice a1 n1 k1]) hD3 ⟨s1, a1, n1, k1, rfl, HX1.out.up hb3⟩;have hlz : w.heap.size <= (w3.alloc (.cells #[.bool s1, .slice a1 n1 k1] 33)).heap.size := (Bl.up HBR2.out hb3).size
      have hln : (zI (oth l i k j ++ big (m.take t))).length + 1 <= 1099511627776 := by
       have h1 := oth_len l i k j;have h2 := big_len (m.take t);rw [List.length_take] at h2;rw [zI_len, List.length_append]; omega
      have HB3 := Lib.hid (Bl.up HBR2.out hb3);clear hb3 hD3 h1 HC HS2 HBR2;go_wp2_with (at_builtin; go_must (refine wpl_apS (E := eI) rfl (.tmp 47) (.tmp 52) _ rfl Tryz.underlying63 w.heap.size _ (zI (oth l i k j ++ big (m.take t))) [((x : Nat) : Int)] rfl hS3 hlz _ 0 1 1 rfl rfl hsc (by decide) hln ?_); intro g' cap' w4 hS' hb' hg')
      have hb5 := ButS.below HB3.out hb' HB3.out.size (fun g hg => (hS3.lt g hg).1);have hS5 : So eI w4 w.heap.size (.slice (some ⟨g', 0, none⟩) ((zI (oth l i k j ++ big (m.take t))).length + 1) cap') (zI (oth l i k j ++ big (m.take (t + 1)))) := by rw [HE.out, zI_append _ [x]]; exact hS'
      have HS5 := Lib.hid hS5;have HB5 := Lib.hid hb5;clear hS' hS5 hb5 hb' hg' hS3 hsc p0 p1;go_wp2_with fail;refine ⟨⟨t + 1, by go_num, by omega, HS5.out, HB5.out⟩, by simp [intOf]; omega⟩
     ·have hb0 : ¬ bs > 0 := fun h => h1 (HC.out.1 h);have HE := Lib.hid (show oth l i k j ++ big (m.take (t + 1)) = oth l i k j ++ big (m.take t) by rw [HSN.out, if_neg h1]);clear h1 p0 p1;go_wp2_with fail;refine ⟨⟨t + 1, by go_num, by omega, by rw [HE.out]; exact HS2.out, HBR2.out⟩, by simp [intOf]; omega⟩
    ·have htl : t = M := by omega
     subst htl;have t1 : ¬ (t : Int) < (t : Int) := by omega
     have e : oth l i k j ++ big (m.take t) = wth l i k m := by unfold wth; rw [HLL.out, <- HML.out, List.take_length]
     rw [e] at hS |-;have HS2 := Lib.hid hS;have HBR2 := Lib.hid hbr;clear hS hbr hco e hlt;go_wp2_with fail;go_ret
     exact ⟨_, rfl, HS2.out, HBR2.out⟩
theorem gcd_nat (a b : Nat) : ((Int.gcd (a : Int) (b : Int) : Nat) : Int) = ((Nat.gcd a b : Nat) : Int) := rfl
theorem So.ints3 {w : World} {base g : Nat} {s0 s1 s2 : Bool} {a0 a1 a2 : Option Addr} {n0 n1 n2 c0 c1 c2 : Nat} {x0 x1 x2 : Int} (hg : w.heap[g]? = some (.cells #[.bool s0, .slice a0 n0 c0, .bool s1, .slice a1 n1 c1, .bool s2, .slice a2 n2 c2] 33 (0, 0))) (hb : base <= g)
  (h0 : It w (.agg #[.bool s0, .slice a0 n0 c0]) x0) (h1 : It w (.agg #[.bool s1, .slice a1 n1 c1]) x1) (h2 : It w (.agg #[.bool s2, .slice a2 n2 c2]) x2) :
  So eI w base (.slice (some ⟨g, 0, none⟩) 3 3) [x0, x1, x2] := by
 refine So.ofCells (E := eI) (l := [x0, x1, x2]) hg hb (show 3 <= maxLen by decide) rfl (fun i hi => ?_) (fun u hu => ?_)
 ·have hi : i < 3 := hi;obtain rfl | rfl | rfl : i = 0 \/ i = 1 \/ i = 2 := by omega
  ·exact ⟨_, ⟨s0, a0, n0, c0, rfl, h0⟩, fun j u e => by
    match j, e with
    | 0, e => exact e
    | 1, e => exact e
    | j + 2, e => simp at e⟩
  ·exact ⟨_, ⟨s1, a1, n1, c1, rfl, h1⟩, fun j u e => by
    match j, e with
    | 0, e => exact e
    | 1, e => exact e
    | j + 2, e => simp at e⟩
  ·exact ⟨_, ⟨s2, a2, n2, c2, rfl, h2⟩, fun j u e => by
    match j, e with
    | 0, e => exact e
    | 1, e => exact e
    | j + 2, e => simp at e⟩
 ·simp only [List.mem_cons, List.not_mem_nil, or_false] at hu;rcases hu with rfl | rfl | rfl | rfl | rfl | rfl <;> rfl
def Cpt (l : List Nat) (i : Nat) : Prop := ∀ a, a < i -> ∀ b, b < a -> Nat.Coprime (l.getD a 0) (l.getD b 0)
theorem Cpt.all {l : List Nat} (h : Cpt l l.length) : l.Pairwise Nat.Coprime := List.pairwise_iff_getElem.2 fun i j hi hj hij => by
 have := h j hj i hij;simp only [List.getD_eq_getElem?_getD, List.getElem?_eq_getElem hi, List.getElem?_eq_getElem hj, Option.getD_some] at this;exact Nat.Coprime.symm this
theorem rstep_any (va : Value) (l : List Nat) (w : World) (ha : Sr eI w va (zI l)) (h2 : ∀ x ∈ l, 2 <= x) (hs : ∀ x ∈ l, sz (x : Int) <= 1099511627776) (hg : ∀ a ∈ l, ∀ b ∈ l, sz ((Nat.gcd a b : Nat) : Int) <= 1099511627776 /\ sz ((a / Nat.gcd a b : Nat) : Int) <= 1099511627776) (hl : l.length <= 549755813888) :
  Calls Tryz.prog 122 #[va] w fun e w' => Below w.heap.size w w' /\ ((∃ v l', e = .returned (.tuple #[v, .bool true]) /\ Sr eI w' v (zI l') /\ Stp l l') \/ (e = .returned (.tuple #[va, .bool false]) /\ l.Pairwise Nat.Coprime)) := by
 obtain ⟨a, c, rfl, hra⟩ := id ha;clear hra;go_enter Tryz.func122, Tryz.ntmps122
 have HA := Lib.hid ha;have H2 := Lib.hid h2;have HSZ := Lib.hid hs;have HG := Lib.hid hg;clear ha h2 hs hg;obtain ⟨L, hL⟩ : ∃ L, (zI l).length = L := ⟨_, rfl⟩;have hLl : l.length = L := by rw [<- zI_len]; exact hL
 rw [hL] at HA |-;rw [hLl] at hl;have HLL := Lib.hid hLl;have HLZ := Lib.hid hL;clear hL hLl;go_upto_region 1 with fail;go_wp2_with fail
 go_loopw [4, 5, 6] (fun s4 s5 s6 wr => ∃ i : Nat, s4 = .int .i64 (i : Int) /\ i <= L /\ Cpt l i /\ Below w.heap.size w wr)
  (fun s4 _ _ _ => L - (intOf s4).toNat)
 case atStart => exact ⟨0, rfl, Nat.zero_le _, fun a ha => absurd ha (Nat.not_lt_zero _), Below.refl _ _⟩
 case round =>
  obtain ⟨i, rfl, hi, hcp, hbr⟩ := hrel;have HCP := Lib.hid hcp;have HBR := Lib.hid hbr;by_cases hlt : i < L
  ·have i0 : (0 : Int) <= (i : Int) := by omega
   have i1 : (i : Int) < (L : Int) := by omega
   have hil : i < l.length := by rw [HLL.out]; exact hlt
   have hma : l.getD i 0 ∈ l := by rw [List.getD_eq_getElem?_getD, List.getElem?_eq_getElem hil]; exact List.getElem_mem _
   have HMA := Lib.hid hma;clear hcp hbr hma;go_wp2_with fail
   go_loopw [5, 6] (fun s5 s6 wq => ∃ k : Nat, s5 = .int .i64 (k : Int) /\ k <= i /\ (∀ b, b < k -> Nat.Coprime (l.getD i 0) (l.getD b 0)) /\ Below w.heap.size w wq)
    (fun s5 _ _ => i - (intOf s5).toNat)
   case atStart => exact ⟨0, rfl, Nat.zero_le _, fun b hb => absurd hb (Nat.not_lt_zero _), HBR.out⟩
   case round =>
    obtain ⟨k, rfl, hk, hck, hbq⟩ := hrel;have HCK := Lib.hid hck;have HBQ := Lib.hid hbq;clear hck hbq;by_cases hkl : k < i
    ·have k0 : (0 : Int) <= (k : Int) := by omega
     have k1 : (k : Int) < (i : Int) := by omega
     have k2 : (k : Int) < (L : Int) := by omega
     have hkl' : k < l.length := by omega
     obtain ⟨ba, offa, rfl, hba, hla⟩ := (HA.out.up HBQ.out).at (i := i) (by rw [HLZ.out]; exact hlt);obtain ⟨s1, a1, n1, c1, p0, p1, hx1⟩ := hla.int (i := i) (by rw [HLZ.out]; exact hlt);obtain ⟨s2, a2, n2, c2, q0, q1, hx2⟩ := hla.int (i := k) (by rw [HLZ.out]; omega);rw [zI_getD] at hx1 hx2;have hmb : l.getD k 0 ∈ l := by rw [List.getD_eq_getElem?_getD, List.getElem?_eq_getElem hkl']; exact List.getElem_mem _
     have hsa := HSZ.out _ HMA.out;have hsb := HSZ.out _ hmb;have hgg := HG.out _ HMA.out _ hmb;have hgh := (HG.out _ hmb _ HMA.out).2;have ha2 := H2.out _ HMA.out;have hb2 := H2.out _ hmb;obtain ⟨x, hx⟩ : ∃ x, l.getD i 0 = x := ⟨_, rfl⟩;obtain ⟨y, hy⟩ : ∃ y, l.getD k 0 = y := ⟨_, rfl⟩;rw [hx] at hx1 hsa hgg hgh ha2;rw [hy] at hx2 hsb hgg hgh hb2;rw [Nat.gcd_comm y x] at hgh;have HXE := Lib.hid hx;have HYE := Lib.hid hy;have HX := Lib.hid hx1;have HY := Lib.hid hx2;have HSA := Lib.hid hsa;have HSB := Lib.hid hsb;have hgp : 1 <= Nat.gcd x y := Nat.gcd_pos_of_pos_left _ (by omega);obtain ⟨g, hge⟩ : ∃ g, Nat.gcd x y = g := ⟨_, rfl⟩;rw [hge] at hgg hgh hgp;have HGE := Lib.hid hge;have HGG := Lib.hid hgg;have HGH := Lib.hid hgh;clear hla hmb hsa hsb hgg hgh hx hy hx1 hx2 hba hge ha2 hb2 hkl';go_upto_region 7 with fail;refine wp_region_T (by kernel_rfl) [10] (S := fun w' => w'.cell? ⟨ba, offa + i * 2, none⟩ = some (.bool s1) /\ w'.cell? ⟨ba, offa + i * 2 + 1, none⟩ = some (.slice a1 n1 c1) /\ w'.cell? ⟨ba, offa + k * 2, none⟩ = some (.bool s2) /\ w'.cell? ⟨ba, offa + k * 2 + 1, none⟩ = some (.slice a2 n2 c2)) ⟨p0, p1, q0, q1⟩ (fun hHeld => ?_);(refine pL 0 rfl ?_; refine pL 1 rfl ?_; refine pL 2 rfl ?_)
     refine kL 3 rfl ?_;(refine pL 4 rfl ?_; refine pL 5 rfl ?_; refine pL 6 rfl ?_)
     refine kL 7 rfl ?_;clear hHeld
     refine wpAnyT_all [(8, some 26), (9, some 6)] 1 (Fl (knZ 8 (g : Int)) 9 wr) rfl (by kernel_rfl) (by decide) (by kernel_rfl) (by kernel_rfl) (by kernel_rfl)
      (fun bb x wz h => ⟨keepc h.bl p0, keepc h.bl p1, keepc h.bl q0, keepc h.bl q1⟩) (fun x => Fl.start _ _ _ _) ?_ ?_
     ·intro i' hi';have hi'' : i' = 8 \/ i' = 9 := by simpa using hi'
      clear hi';rcases hi'' with rfl | rfl
      ·refine ⟨_, rfl, fun bb xx wz hJ hbf hw K hK => ?_⟩;clear hbf hw;simp only [actA] at hK |-;go_simp;refine (rgcd_any _ _ (x : Int) (y : Int) wz (HX.out.up hJ.bl) (HY.out.up hJ.bl) HSA.out HSB.out).mono ?_;rintro e w2 ⟨v, rfl, hv, hb⟩;rw [gcd_nat, HGE.out] at hv;exact hK.out _ _ (hJ.call (i := 8) (by decide) (Z := fun _ => False) (fun _ => hv) (fun k hk => hk.elim) hb)
      ·refine ⟨_, rfl, fun bb xx wz hJ hbf hw K hK => ?_⟩;clear hbf hw;simp only [actA] at hK |-;go_simp;exact hK.out _ _ (hJ.var (W' := wz.alloc (.cells #[.bool false, .slice none 0 0] 33)) (Vx.new0 (w := wz) rfl) (below_new _ _))
     intro bz xx wz hbb hJ;obtain ⟨Z, hRR, -, -⟩ := hJ.pr 8 (by decide) (hbb 8 (by decide));obtain ⟨B6, hx9, hB6, hV6⟩ := hJ.pj (hbb 9 (by decide));have hbz := hJ.bl;have hv := hRR rfl;clear hbb hJ hRR;obtain ⟨s3, a3, n3, c3, hx8⟩ := hv.shape;rw [hx8] at hv;simp only [actM, hx9, hx8];clear hx9 hx8;have hHeld : (fun w' : World => w'.cell? ⟨ba, offa + i * 2, none⟩ = some (.bool s1) /\ w'.cell? ⟨ba, offa + i * 2 + 1, none⟩ = some (.slice a1 n1 c1) /\ w'.cell? ⟨ba, offa + k * 2, none⟩ = some (.bool s2) /\ w'.cell? ⟨ba, offa + k * 2 + 1, none⟩ = some (.slice a2 n2 c2)) wz := ⟨keepc hbz p0, keepc hbz p1, keepc hbz q0, keepc hbz q1⟩;obtain ⟨y1, y2, y3, y4, z0, z1, z2, z3, -⟩ := hV6.cells;(refine oL 10 rfl fun K hK => tL ?_; go_simp);(go_wp2_with fail; refine xL hK (tL ?_); clear hK);refine dT ?_;clear z0 z1 z2 z3 hHeld;have hbu := (ButS.set wz B6 0 (.bool s3)).trans (ButS.set _ B6 1 (.slice a3 n3 c3));have hV := Vx.put hV6.va hv;have hb6 : Below wr.heap.size wr ((wz.setCell ⟨B6, 0, none⟩ (.bool s3)).setCell ⟨B6, 1, none⟩ (.slice a3 n3 c3)) := ButS.below hbz hbu hbz.size (fun g e => by omega);replace p0 := keepc hb6 p0;replace p1 := keepc hb6 p1;replace q0 := keepc hb6 q0;replace q1 := keepc hb6 q1;replace HX := Lib.hid (HX.out.up hb6);replace HY := Lib.hid (HY.out.up hb6);replace HBQ := Lib.hid (Bl.up HBQ.out hb6);clear hbz hbu hb6 hV6 hv;generalize (wz.setCell ⟨B6, 0, none⟩ (.bool s3)).setCell ⟨B6, 1, none⟩ (.slice a3 n3 c3) = w6 at *;obtain ⟨s3, a3, n3, c3, z0, z1, -, -, hg6⟩ := hV.cells;have HV6 := Lib.hid hg6;clear hV hg6;go_upto_region 8 with fail;refine wp_region_T (by kernel_rfl) [] (S := fun w' => w'.cell? ⟨B6, 0, none⟩ = some (.bool s3) /\ w'.cell? ⟨B6, 1, none⟩ = some (.slice a3 n3 c3)) ⟨z0, z1⟩ (fun hHeld => ?_);refine kL 0 rfl ?_;(refine oL 1 rfl fun K hK => tL ?_; go_simp);refine (rone_any _).mono ?_;rintro e w7 ⟨v, rfl, hv, hb2⟩;replace p0 := keepc hb2 (cellD p0);replace p1 := keepc hb2 (cellD p1);replace q0 := keepc hb2 (cellD q0);replace q1 := keepc hb2 (cellD q1);replace z0 := keepc hb2 (cellD z0);replace z1 := keepc hb2 (cellD z1);replace HX := Lib.hid (HX.out.drew.up hb2);replace HY := Lib.hid (HY.out.drew.up hb2);replace HV6 := Lib.hid (HV6.out.drew.up hb2);replace HBQ := Lib.hid (Bl.up (Bl.drew HBQ.out) hb2);have HV := Lib.hid hv;clear hv hb2;(go_wp2_with fail; clear hHeld; refine nxL hK ⟨z0, z1⟩ fun hHeld => tL ?_; clear hK);(refine oL 2 rfl fun K hK => tL ?_; go_simp);refine (rcmp_any _ _ ((g : Nat) : Int) 1 _ HV6.out HV.out (Nat.le_trans HGG.out.1 (by decide)) (by decide)).mono ?_;rintro e w8 ⟨rfl, hb2⟩;replace p0 := keepc hb2 p0;replace p1 := keepc hb2 p1;replace q0 := keepc hb2 q0;replace q1 := keepc hb2 q1;replace z0 := keepc hb2 z0;replace z1 := keepc hb2 z1;replace HX := Lib.hid (HX.out.up hb2);replace HY := Lib.hid (HY.out.up hb2);replace HV6 := Lib.hid (HV6.out.up hb2);replace HBQ := Lib.hid (Bl.up HBQ.out hb2);obtain ⟨bs, hbs⟩ : ∃ bs, cmpI ((g : Nat) : Int) 1 = bs := ⟨_, rfl⟩;have hcp : bs > 0 ↔ 1 < g := by rw [<- hbs]; exact cmp_pos
     rw [hbs];have HC := Lib.hid hcp;clear hbs hb2 hcp HV;(go_wp2_with fail; clear hHeld; refine nxL hK ⟨z0, z1⟩ fun hHeld => tL ?_; clear hK);(refine kL 3 rfl ?_)
     refine dT ?_;clear hHeld;by_cases h1 : 1 < g
     ·have hb0 : bs > 0 := HC.out.2 h1;have hg0 : ((g : Nat) : Int) ≠ 0 := by omega
      have HG0 := Lib.hid hg0;have HH1 := Lib.hid h1;clear HC h1 hg0;go_upto_region 9 with fail;refine wp_region_T (by kernel_rfl) [] (S := fun w' => w'.cell? ⟨B6, 0, none⟩ = some (.bool s3) /\ w'.cell? ⟨B6, 1, none⟩ = some (.slice a3 n3 c3) /\ w'.cell? ⟨ba, offa + i * 2, none⟩ = some (.bool s1) /\ w'.cell? ⟨ba, offa + i * 2 + 1, none⟩ = some (.slice a1 n1 c1) /\ w'.cell? ⟨ba, offa + k * 2, none⟩ = some (.bool s2) /\ w'.cell? ⟨ba, offa + k * 2 + 1, none⟩ = some (.slice a2 n2 c2)) ⟨z0, z1, p0, p1, q0, q1⟩ (fun hHeld => ?_);(refine pL 0 rfl ?_; refine pL 1 rfl ?_; refine pL 2 rfl ?_)
      refine kL 3 rfl ?_;(refine pL 4 rfl ?_; refine pL 5 rfl ?_; refine pL 6 rfl ?_)
      (refine kL 7 rfl ?_; refine kL 8 rfl ?_)
      (refine pL 10 rfl ?_; refine pL 11 rfl ?_; refine pL 12 rfl ?_)
      (refine kL 13 rfl ?_; refine kL 14 rfl ?_)
      (refine oL 9 rfl fun K hK => tL ?_; go_simp);refine (rdiv_any _ _ ((x : Nat) : Int) ((g : Nat) : Int) _ HX.out.drew HV6.out.drew HG0.out HSA.out HGG.out.1).mono ?_;rintro e w9 ⟨v1, rfl, hv1, hb2⟩;obtain ⟨t1, b1, m1, d1, rfl⟩ := hv1.shape;replace p0 := keepc hb2 (cellD p0);replace p1 := keepc hb2 (cellD p1);replace q0 := keepc hb2 (cellD q0);replace q1 := keepc hb2 (cellD q1);replace z0 := keepc hb2 (cellD z0);replace z1 := keepc hb2 (cellD z1);replace HX := Lib.hid (HX.out.drew.up hb2);replace HY := Lib.hid (HY.out.drew.up hb2);replace HV6 := Lib.hid (HV6.out.drew.up hb2);replace HBQ := Lib.hid (Bl.up (Bl.drew HBQ.out) hb2);have HV1 := Lib.hid hv1;clear hv1 hb2;(go_wp2_with fail; clear hHeld; refine nxL hK ⟨z0, z1, p0, p1, q0, q1⟩ fun hHeld => tL ?_; clear hK);(refine oL 15 rfl fun K hK => tL ?_; go_simp);refine (rdiv_any _ _ ((y : Nat) : Int) ((g : Nat) : Int) _ HY.out HV6.out HG0.out HSB.out HGG.out.1).mono ?_;rintro e w10 ⟨v2, rfl, hv2, hb2⟩;obtain ⟨t2, b2, m2, d2, rfl⟩ := hv2.shape;replace p0 := keepc hb2 p0;replace p1 := keepc hb2 p1;replace q0 := keepc hb2 q0;replace q1 := keepc hb2 q1;replace z0 := keepc hb2 z0;replace z1 := keepc hb2 z1;replace HV6 := Lib.hid (HV6.out.up hb2);replace HV1 := Lib.hid (HV1.out.up hb2);replace HBQ := Lib.hid (Bl.up HBQ.out hb2);have HV2 := Lib.hid hv2;clear hv2 hb2 HX HY;(go_wp2_with fail; clear hHeld; refine nxL hK ⟨z0, z1, p0, p1, q0, q1⟩ fun hHeld => tL ?_; clear hK);have hb3 := below_new w10 (.cells #[.bool s3, .slice a3 n3 c3, .bool t1, .slice b1 m1 d1, .bool t2, .slice b2 m2 d2] 33);have hD3 := heap_alloc_new w10 (.cells #[.bool s3, .slice a3 n3 c3, .bool t1, .slice b1 m1 d1, .bool t2, .slice b2 m2 d2] 33);have hM3 := (So.ints3 hD3 (Nat.zero_le _) (HV6.out.up hb3) (HV1.out.up hb3) (HV2.out.up hb3)).sr;have HM3 := Lib.hid (show Sr eI (w10.alloc (.cells #[.bool s3, .slice a3 n3 c3, .bool t1, .slice b1 m1 d1, .bool t2, .slice b2 m2 d2] 33)) (.slice (some ⟨w10.heap.size, 0, none⟩) 3 3) (zI [g, x / g, y / g]) from hM3);have HA3 := Lib.hid (HA.out.up (Bl.up HBQ.out hb3));have HB3 := Lib.hid (Bl.up HBQ.out hb3);replace p0 := keepc hb3 p0;replace p1 := keepc hb3 p1;replace q0 := keepc hb3 q0;replace q1 := keepc hb3 q1;replace z0 := keepc hb3 z0;replace z1 := keepc hb3 z1;clear hb3 hD3 hM3 HBQ HV6 HV1 HV2;(refine oL 16 rfl fun K hK => tL ?_; go_simp);generalize w10.alloc (.cells #[.bool s3, .slice a3 n3 c3, .bool t1, .slice b1 m1 d1, .bool t2, .slice b2 m2 d2] 33) = w11 at *;generalize w10.heap.size = B10 at *;(go_wp2_with fail; clear hHeld; refine nxL hK ⟨z0, z1, p0, p1, q0, q1⟩ fun hHeld => tL ?_; clear hK);(refine oL 17 rfl fun K hK => tL ?_; go_simp)
      have hsm : ∀ t ∈ [g, x / g, y / g], sz ((t : Nat) : Int) <= 1099511627776 := fun t ht => by
       simp only [List.mem_cons, List.not_mem_nil, or_false] at ht;rcases ht with rfl | rfl | rfl
       ·exact HGG.out.1
       ·exact HGG.out.2
       ·exact HGH.out
      refine (rwithout_any _ _ l [g, x / g, y / g] i k w11 HA3.out HM3.out hsm (by rw [HLL.out]; exact hl) (show 3 <= 1000 by decide)).mono ?_;rintro e w12 ⟨v3, rfl, hv3, hb4⟩;have hst : Stp l (wth l i k [g, x / g, y / g]) := ⟨i, k, hkl, by rw [HLL.out]; exact hlt, by rw [HXE.out, HYE.out, HGE.out]; exact HH1.out, by rw [HXE.out, HYE.out, HGE.out]⟩;have HST := Lib.hid hst;have HV3 := Lib.hid hv3.sr;have HB4 := Lib.hid (Bl.up HB3.out hb4);(go_wp2_with fail; clear hHeld; refine nxL hK ⟨keepc hb4 z0, keepc hb4 z1, keepc hb4 p0, keepc hb4 p1, keepc hb4 q0, keepc hb4 q1⟩ fun hHeld => tL ?_; clear hK);(refine pL 18 rfl ?_; refine pL 19 rfl ?_)
      refine dT ?_;clear hHeld p0 p1 q0 q1 z0 z1 hv3 hb4 hst hsm;go_wp2_with fail;refine bodyPost_ret (results_tmp2 rfl _ _ _) rfl ?_;exact ⟨HB4.out, .inl ⟨_, _, rfl, HV3.out, HST.out⟩⟩
     ·have hb0 : ¬ bs > 0 := fun h => h1 (HC.out.1 h);have hc1 : Nat.Coprime x y := by show Nat.gcd x y = 1; rw [HGE.out]; omega
      have HC1 := Lib.hid hc1;clear HC h1 hc1 p0 p1 q0 q1 z0 z1;go_wp2_with fail;refine ⟨⟨k + 1, by go_num, by omega, fun b hb => ?_, HBQ.out⟩, by simp [intOf]; omega⟩;by_cases e : b = k
      ·rw [e, HXE.out, HYE.out]; exact HC1.out
      ·exact HCK.out b (by omega)
    ·obtain rfl : k = i := by omega
     have k1 : ¬ (k : Int) < (k : Int) := by omega
     clear hkl hk;go_wp2_with fail;refine ⟨⟨k + 1, by go_num, by omega, fun a ha b hb => ?_, HBQ.out⟩, by simp [intOf]; omega⟩;by_cases e : a = k
     ·rw [e] at hb |-; exact HCK.out b hb
     ·exact HCP.out a (by omega) b hb
  ·obtain rfl : i = L := by omega
   have i1 : ¬ (i : Int) < (i : Int) := by omega
   clear hcp hbr hlt hi;go_wp2_with fail;refine bodyPost_ret (results_tmp2 rfl _ _ _) rfl ?_;exact ⟨HBR.out, .inr ⟨rfl, Cpt.all (by rw [HLL.out]; exact HCP.out)⟩⟩
theorem BsI.size {l c : List Nat} (h : BsI l c) (hp : Mdst l.prod) : (∀ x ∈ c, sz (x : Int) <= 1099511627776) /\ (∀ a ∈ c, ∀ b ∈ c, sz ((Nat.gcd a b : Nat) : Int) <= 1099511627776 /\ sz ((a / Nat.gcd a b : Nat) : Int) <= 1099511627776) /\ c.length <= 1048576 := by
 refine ⟨fun x hx => sz_prod (h.el hx) hp, fun a ha b hb => ⟨sz_prod (Nat.le_trans ?_ (h.el ha)) hp, sz_prod (Nat.le_trans (Nat.div_le_self _ _) (h.el ha)) hp⟩, ?_⟩
 ·exact Nat.gcd_le_left _ (by have := h.two a ha; omega)
 ·have := exp_le (d := 2) hp.lt (Nat.le_refl _) h.len;unfold expB at this;exact this
theorem rstep_bs (va : Value) (l c : List Nat) (w : World) (ha : Sr eI w va (zI c)) (h : BsI l c) (hp : Mdst l.prod) :
  Calls Tryz.prog 122 #[va] w fun e w' => Below w.heap.size w w' /\ ∃ v c' b, e = .returned (.tuple #[v, .bool b]) /\ Sr eI w' v (zI c') /\ BsI l c' /\ (b = false -> c'.Pairwise Nat.Coprime) /\ c'.prod + b.toNat <= c.prod := by
 obtain ⟨h1, h2, h3⟩ := h.size hp;refine (rstep_any va c w ha h.two h1 h2 (Nat.le_trans h3 (by decide))).mono ?_;rintro e w' ⟨hb, h⟩;refine ⟨hb, ?_⟩;rcases h with ⟨v, c', rfl, hs, hst⟩ | ⟨rfl, hc⟩
 ·obtain ⟨k1, k2⟩ := BsI.step (by assumption) hst;exact ⟨v, c', true, rfl, hs, k1, (fun h => nomatch h), k2⟩
 ·exact ⟨va, c, false, rfl, ha.up hb, (by assumption), fun _ => hc, Nat.le_refl _⟩
theorem rbase_any (va : Value) (l : List Nat) (w : World) (ha : Sr eI w va (zI l)) (h2 : ∀ x ∈ l, 2 <= x) (hp : Mdst l.prod) :
  Calls Tryz.prog 91 #[va] w fun e w' => ∃ v o, e = .returned v /\ Sr eI w' v (zI o) /\ CB l o /\ o.length <= 1048576 /\ (∀ p ∈ o, p <= l.prod) /\ Below w.heap.size w w' := by
 have HP := Lib.hid hp;have HI0 := Lib.hid (BsI.start h2);clear hp h2;go_enter Tryz.func91, Tryz.ntmps91
 go_wp2_with fail;refine (rstep_bs va l l w ha HI0.out HP.out).mono ?_;rintro e w1 ⟨hb1, v, c, b, rfl, hS, hI, hc, hm⟩;clear ha;go_wp2_with fail;go_loopg [3, 4] (c.prod + b.toNat) (fun M s3 s4 wr => ∃ c b, s4 = .bool b /\ Sr eI wr s3 (zI c) /\ BsI l c /\ (b = false -> c.Pairwise Nat.Coprime) /\ M = c.prod + b.toNat /\ Below w.heap.size w wr)
 case atStart => exact ⟨c, b, rfl, hS, hI, hc, rfl, hb1⟩
 case round =>
  clear hS hI hc hm hb1;obtain ⟨c, b, rfl, hS, hI, hc, rfl, hb1⟩ := hrel;have HS := Lib.hid hS;have HI := Lib.hid hI;have HB := Lib.hid hb1
  cases b
  ·have HC := Lib.hid (hc rfl);clear hS hI hc hb1;go_wp2_with fail;go_ret
   exact ⟨_, c, rfl, HS.out, HI.out.done HC.out, (HI.out.size HP.out).2.2, fun p hp => HI.out.el hp, HB.out⟩
  ·clear hc hS hI hb1;go_wp2_with fail;refine (rstep_bs _ l c _ HS.out HI.out HP.out).mono ?_;rintro e w2 ⟨hb2, v, c', b', rfl, hS, hI, hc, hm⟩;have HS2 := Lib.hid hS;have HI2 := Lib.hid hI;have HC2 := Lib.hid hc;have HM2 := Lib.hid hm;have HB2 := Lib.hid (Bl.up HB.out hb2);clear hS hI hc hm hb2;go_wp2_with fail;go_roundg (c'.prod + b'.toNat)
   ·exact ⟨c', b', rfl, HS2.out, HI2.out, HC2.out, rfl, HB2.out⟩
   ·have := HM2.out; show _ < c.prod + 1; omega
end Go.Proofs.YtblebpmlkpobnaaGreat
