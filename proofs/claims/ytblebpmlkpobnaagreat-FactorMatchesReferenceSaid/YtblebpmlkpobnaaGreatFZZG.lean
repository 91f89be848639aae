/-
  What FactorMatchesReference needs: both sides of each comparison answer the same.
-/
import Derived.Test.YtblebpmlkpobnaaGreatFS
import Derived.Test.YtblebpmlkpobnaaGreatFZZB
import Derived.Test.YtblebpmlkpobnaaGreatFZZD
import Derived.Test.YtblebpmlkpobnaaGreatFZZC
import Derived.Test.YtblebpmlkpobnaaGreatFZZF
import Derived.Test.YtblebpmlkpobnaaGreatFV
import Derived.Test.YtblebpmlkpobnaaGreatFZD2
import Derived.Test.YtblebpmlkpobnaaGreatFZI
set_option linter.unusedSimpArgs false
set_option linter.unusedVariables false
set_option maxRecDepth 100000
set_option maxHeartbeats 2000000
namespace Go.Proofs.YtblebpmlkpobnaaGreat
open Go.RowKit
attribute [local go_sem ↓] Go.wp_at_zero Go.wp_at_succ
theorem lsame_any (va vb : Value) (l m : List Int) (w : World) (ha : Sr eI w va l) (hb : Sr eI w vb m) (hN : l.length <= 1099511627776) (hN2 : m.length <= 1099511627776) (hsl : ∀ x ∈ l, sz x <= 1099511627776) (hsm : ∀ x ∈ m, sz x <= 1099511627776) :
  Calls Tryz.prog 49 #[va, vb] w fun e w' => e = .returned (.bool (decide (l = m))) /\ Below w.heap.size w w' := by
 obtain ⟨a, ca, rfl, hra⟩ := id ha;obtain ⟨b, cb, rfl, hrb⟩ := id hb;clear hra hrb;by_cases hlen : l.length = m.length
 ·have hb0 : ((l.length : Int) != (m.length : Int)) = false := by rw [hlen]; simp
  have HL := Lib.hid hlen;clear hlen;go_enter Tryz.func49, Tryz.ntmps49
  go_wp2_with fail
  go_loopw [5] (fun s wr => ∃ (i : Nat), i <= l.length /\ s = .int .i64 i /\ (∀ j, j < i -> l.getD j 0 = m.getD j 0) /\ Below w.heap.size w wr)
   (fun s _ => l.length - (intOf s).toNat)
  case atStart => exact ⟨0, Nat.zero_le _, rfl, fun j hj => absurd hj (Nat.not_lt_zero _), Below.refl _ _⟩
  case round =>
   obtain ⟨i, hi, rfl, hval, hbl⟩ := hrel;have HV := Lib.hid hval;clear hval;by_cases hlt : i < l.length
   ·have hlm : i < m.length := by rw [<- HL.out]; exact hlt
    have hs1 := hsl (l.getD i 0) (by rw [List.getD_eq_getElem?_getD, List.getElem?_eq_getElem hlt]; exact List.getElem_mem _);have hs2 := hsm (m.getD i 0) (by rw [List.getD_eq_getElem?_getD, List.getElem?_eq_getElem hlm]; exact List.getElem_mem _);obtain ⟨ba, offa, rfl, hba, hla⟩ := (ha.up hbl).at hlt;obtain ⟨bb, offb, rfl, hbb, hlb⟩ := (hb.up hbl).at hlm;obtain ⟨s1, a1, n1, k1, p0, p1, hx⟩ := hla.int hlt;obtain ⟨s2, a2, n2, k2, q0, q1, hy⟩ := hlb.int hlm;clear hla hlb ha hb;have i0 : (0 : Int) <= (i : Int) := by omega
    have i1 : (i : Int) < (l.length : Int) := by omega
    have i2 : (i : Int) < (m.length : Int) := by omega
    obtain ⟨x, hx0⟩ : ∃ x, l.getD i 0 = x := ⟨_, rfl⟩;obtain ⟨y, hy0⟩ : ∃ y, m.getD i 0 = y := ⟨_, rfl⟩;rw [hx0] at hx hs1;rw [hy0] at hy hs2;have HX := Lib.hid hx0;have HY := Lib.hid hy0;clear hx0 hy0 hsl hsm;go_upto_region 6 with fail;refine wp_region_T (by kernel_rfl) [] (S := fun w' => w'.cell? ⟨ba, offa + i * 2, none⟩ = some (.bool s1) /\ w'.cell? ⟨ba, offa + i * 2 + 1, none⟩ = some (.slice a1 n1 k1) /\ w'.cell? ⟨bb, offb + i * 2, none⟩ = some (.bool s2) /\ w'.cell? ⟨bb, offb + i * 2 + 1, none⟩ = some (.slice a2 n2 k2)) ⟨p0, p1, q0, q1⟩ (fun hHeld => ?_);(refine kL 0 rfl ?_; refine kL 1 rfl ?_; refine kL 2 rfl ?_; refine kL 3 rfl ?_; refine kL 4 rfl ?_; refine kL 5 rfl ?_; refine kL 6 rfl ?_; refine kL 7 rfl ?_)
    (refine oL 8 rfl fun K hK => tL ?_; go_simp);refine (rsame_any _ _ x y _ hx.drew hy.drew (Nat.le_trans hs1 (by decide)) (Nat.le_trans hs2 (by decide))).mono ?_;rintro e w2 ⟨rfl, hb2⟩;have hbl2 := Bl.up (Bl.drew hbl) hb2;obtain ⟨bs, hbs⟩ : ∃ bs, sameB x y = bs := ⟨_, rfl⟩;rw [hbs];have HS := Lib.hid hbs;clear hbs;(go_wp2_with fail; clear hHeld; refine nxL hK ⟨keepc hb2 p0, keepc hb2 p1, keepc hb2 q0, keepc hb2 q1⟩ fun hHeld => tL ?_; clear hK);(refine kL 9 rfl ?_)
    refine dT ?_;clear hHeld p0 p1 q0 q1 hb2 hx hy
    cases bs
    ·go_wp2_with fail;go_ret
     refine ⟨ret_of (congrArg Value.bool (decide_eq_false fun e => ?_).symm), hbl2⟩;have := HX.out.symm.trans ((congrArg (fun t => List.getD t i 0) e).trans HY.out);have h2 := HS.out;rw [this, sameB_iff.2 rfl] at h2
     cases h2
    ·go_wp2_with fail;go_roundw
     case rel =>
      refine ⟨i + 1, by omega, by go_num, fun j hj => ?_, hbl2⟩;by_cases e : j = i
      ·subst e; rw [HX.out, HY.out]; exact sameB_iff.1 HS.out
      ·exact HV.out j (by omega)
     case measure => simp [intOf]; omega
   ·have hin : i = l.length := by omega
    subst hin;go_wp2_with fail;go_ret
    exact ⟨ret_of (congrArg Value.bool (decide_eq_true (getD_ext HL.out HV.out)).symm), hbl⟩
 ·have hb0 : ((l.length : Int) != (m.length : Int)) = true := by rw [bne_iff_ne]; omega
  have HL := Lib.hid hlen;clear hlen;go_enter Tryz.func49, Tryz.ntmps49
  go_wp2_with fail;go_ret
  exact ⟨ret_of (congrArg Value.bool (decide_eq_false fun e => HL.out (by rw [e])).symm), Below.refl _ _⟩
theorem szf0 : szF f0 := ⟨by decide, ⟨by decide, fun x hx => by simp [f0] at hx⟩, ⟨by decide, fun x hx => by simp [f0] at hx⟩⟩
def TrZ (n : Nat) (q : Int) (z : Fz) (k : Int) : Prop := ((q < 0 \/ 65536 < q) /\ z = f0 /\ k = 1) \/ ∃ (b : Nat) (t : Fn), q = b /\ b <= 65536 /\ z = zF t /\ k = 0 /\ TrialTo n b t
theorem TrZ.uniq {n : Nat} {q : Int} {z z' : Fz} {k k' : Int} (hn : 1 <= n) (h : TrZ n q z k) (h' : TrZ n q z' k') : z' = z /\ k' = k := by
 rcases h with ⟨a, rfl, rfl⟩ | ⟨b, t, rfl, hb, rfl, rfl, ht⟩ <;> rcases h' with ⟨a', rfl, rfl⟩ | ⟨b', t', e, hb', rfl, rfl, ht'⟩
 ·exact ⟨rfl, rfl⟩
 ·omega
 ·omega
 ·obtain rfl : b = b' := by omega
  exact ⟨by rw [TrialTo.uniq hn ht ht'], rfl⟩
theorem TrZ.szf {n : Nat} {q : Int} {z : Fz} {k : Int} (hn : 1 <= n) (hm : Md n) (h : TrZ n q z k) : szF z := by
 rcases h with ⟨a, rfl, rfl⟩ | ⟨b, t, rfl, hb, rfl, rfl, ht⟩
 ·exact szf0
 ·exact (ht.right hn hb).1.szf (ht.1 ▸ hm)
def RzF (T : Fz -> Int -> Prop) (w : World) (e : Ending) (w' : World) : Prop := ∃ v z k, e = .returned (.tuple #[v, .int .i64 k]) /\ Fx w' v z /\ T z k /\ Below w.heap.size w w'
theorem ltrial_any (va : Value) (n : Nat) (q : Int) (w : World) (hn : It w va n) (h1 : 1 <= n) (hm : Md n) : Calls Tryz.prog 31 #[va, .int .i64 q] w (RzF (TrZ n q) w) := by
 by_cases hq : q < 0 \/ 65536 < q
 ·refine (trial_bad va n q w hn (.inr hq)).mono ?_;rintro e w' ⟨v, rfl, hv, hb⟩;exact ⟨v, f0, 1, rfl, hv, .inl ⟨hq, rfl, rfl⟩, hb⟩
 ·obtain ⟨b, rfl⟩ : ∃ b : Nat, q = b := ⟨q.toNat, by omega⟩;refine (trial_ok va n b w hn h1 (by omega) (Nat.le_trans (hm.sz (Nat.le_refl _)) (by decide))).mono ?_;rintro e w' ⟨v, t, rfl, hv, ht, hb⟩;exact ⟨v, _, 0, rfl, hv, .inr ⟨b, t, rfl, by omega, rfl, rfl, ht⟩, hb⟩
theorem rltrial_any (va : Value) (n : Nat) (q : Int) (w : World) (hn : It w va n) (h1 : 1 <= n) (hm : Md n) : Calls Tryz.prog 44 #[va, .int .i64 q] w (RzF (TrZ n q) w) := by
 by_cases hq : q < 0 \/ 65536 < q
 ·refine (rtrial_bad va n q w hn (.inr hq)).mono ?_;rintro e w' ⟨v, rfl, hv, hb⟩;exact ⟨v, f0, 1, rfl, hv, .inl ⟨hq, rfl, rfl⟩, hb⟩
 ·obtain ⟨b, rfl⟩ : ∃ b : Nat, q = b := ⟨q.toNat, by omega⟩;refine (rtrial_ok va n b w hn h1 (by omega) (Nat.le_trans (hm.sz (Nat.le_refl _)) (by decide))).mono ?_;rintro e w' ⟨v, t, rfl, hv, ht, hb⟩;exact ⟨v, _, 0, rfl, hv, .inr ⟨b, t, rfl, by omega, rfl, rfl, ht⟩, hb⟩
def SpZ (f : Fn) (d : Int) (z : Fz) (k : Int) : Prop := (d < 1 /\ z = f0 /\ k = 1) \/ ∃ e : Nat, d = e /\ 1 <= e /\ SpT f e z k
theorem SpT.uniq {f : Fn} {d : Nat} {z z' : Fz} {k k' : Int} (hf : RightN f) (h : SpT f d z k) (h' : SpT f d z' k') : z' = z /\ k' = k := by
 rcases h with ⟨g, o, rfl, rfl, c, fr, s⟩ | ⟨o, rfl, rfl, c, fr⟩ <;> rcases h' with ⟨g', o', rfl, rfl, c', fr', s'⟩ | ⟨o', rfl, rfl, c', fr'⟩
 ·exact ⟨by rw [SplitTo.uniq hf c c' s s'], rfl⟩
 ·exact absurd ((fresh_perm (c.perm c')).1 fr) fr'
 ·exact absurd ((fresh_perm (c'.perm c)).1 fr') fr
 ·exact ⟨rfl, rfl⟩
theorem SpZ.uniq {f : Fn} {d : Int} {z z' : Fz} {k k' : Int} (hf : RightN f) (h : SpZ f d z k) (h' : SpZ f d z' k') : z' = z /\ k' = k := by
 rcases h with ⟨a, rfl, rfl⟩ | ⟨e, rfl, h1, h⟩ <;> rcases h' with ⟨a', rfl, rfl⟩ | ⟨e', h2, h1', h'⟩
 ·exact ⟨rfl, rfl⟩
 ·omega
 ·omega
 ·obtain rfl : e = e' := by omega
  exact h.uniq hf h'
theorem SpZ.szf {f : Fn} {d : Int} {z : Fz} {k : Int} (hf : RightN f) (hm : Md f.N) (h : SpZ f d z k) : szF z := by
 rcases h with ⟨a, rfl, rfl⟩ | ⟨e, rfl, h1, ⟨g, o, rfl, rfl, c, fr, s⟩ | ⟨o, rfl, rfl, c, fr⟩⟩
 ·exact szf0
 ·exact (s.right hf c).szf (s.1 ▸ hm)
 ·exact szf0
theorem lsplit_any (va vd : Value) (f : Fn) (d : Int) (w : World) (ha : Fx w va (zF f)) (hd : It w vd d) (hf : RightN f) (hm : Md f.N) (hs : Md d.toNat) : Calls Tryz.prog 18 #[va, vd] w (RzF (SpZ f d) w) := by
 by_cases hq : d < 1
 ·refine (split_bad va vd (zF f) d w ha hd hq).mono ?_;rintro e w' ⟨v, rfl, hv, hb⟩;exact ⟨v, f0, 1, rfl, hv, .inl ⟨hq, rfl, rfl⟩, hb⟩
 ·obtain ⟨b, rfl⟩ : ∃ b : Nat, d = b := ⟨d.toNat, by omega⟩;refine (split_ok va vd f b w ha hd hf hm (by omega) hs).mono ?_;rintro e w' ⟨o, hc, hb, ⟨hfr, v, g, rfl, hv, hg⟩ | ⟨hfr, v, rfl, hv⟩⟩
  ·exact ⟨v, _, 0, rfl, hv, .inr ⟨b, rfl, by omega, .inl ⟨g, o, rfl, rfl, hc, hfr, hg⟩⟩, hb⟩
  ·exact ⟨v, f0, 6, rfl, hv, .inr ⟨b, rfl, by omega, .inr ⟨o, rfl, rfl, hc, hfr⟩⟩, hb⟩
theorem rlsplit_any (va vd : Value) (f : Fn) (d : Int) (w : World) (ha : Fx w va (zF f)) (hd : It w vd d) (hf : RightN f) (hm : Md f.N) (hs : Md d.toNat) : Calls Tryz.prog 45 #[va, vd] w (RzF (SpZ f d) w) := by
 by_cases hq : d < 1
 ·refine (rsplit_bad va vd (zF f) d w ha hd hq).mono ?_;rintro e w' ⟨v, rfl, hv, hb⟩;exact ⟨v, f0, 1, rfl, hv, .inl ⟨hq, rfl, rfl⟩, hb⟩
 ·obtain ⟨b, rfl⟩ : ∃ b : Nat, d = b := ⟨d.toNat, by omega⟩;refine (rsplit_ok va vd f b w ha hd hf hm (by omega) hs).mono ?_;rintro e w' ⟨o, hc, hb, ⟨hfr, v, g, rfl, hv, hg⟩ | ⟨hfr, v, rfl, hv⟩⟩
  ·exact ⟨v, _, 0, rfl, hv, .inr ⟨b, rfl, by omega, .inl ⟨g, o, rfl, rfl, hc, hfr, hg⟩⟩, hb⟩
  ·exact ⟨v, f0, 6, rfl, hv, .inr ⟨b, rfl, by omega, .inr ⟨o, rfl, rfl, hc, hfr⟩⟩, hb⟩
def StZ (f : Fn) (i : Int) (z : Fz) (k : Int) : Prop := ((i < 0 \/ (f.R.length : Int) <= i) /\ z = f0 /\ k = 1) \/ ∃ (j : Nat) (g : Fn), i = j /\ j < f.R.length /\ z = zF g /\ k = 0 /\ SettleTo f j g
theorem StZ.uniq {f : Fn} {i : Int} {z z' : Fz} {k k' : Int} (hf : RightN f) (h : StZ f i z k) (h' : StZ f i z' k') : z' = z /\ k' = k := by
 rcases h with ⟨a, rfl, rfl⟩ | ⟨b, t, rfl, hb, rfl, rfl, ht⟩ <;> rcases h' with ⟨a', rfl, rfl⟩ | ⟨b', t', e, hb', rfl, rfl, ht'⟩
 ·exact ⟨rfl, rfl⟩
 ·omega
 ·omega
 ·obtain rfl : b = b' := by omega
  exact ⟨by rw [SettleTo.uniq hf hb ht ht'], rfl⟩
theorem StZ.szf {f : Fn} {i : Int} {z : Fz} {k : Int} (hf : RightN f) (hm : Md f.N) (h : StZ f i z k) : szF z := by
 rcases h with ⟨a, rfl, rfl⟩ | ⟨b, t, rfl, hb, rfl, rfl, ht⟩
 ·exact szf0
 ·exact (ht.right hf hb).1.szf (ht.1 ▸ hm)
theorem lsettle_any (va : Value) (f : Fn) (i : Int) (w : World) (ha : Fx w va (zF f)) (hf : RightN f) (hm : Md f.N) : Calls Tryz.prog 42 #[va, .int .i64 i] w (RzF (StZ f i) w) := by
 by_cases hq : i < 0 \/ (f.R.length : Int) <= i
 ·refine (settle_bad va (zF f) i w ha (by rw [show (zF f).R.length = f.R.length from zP_len _]; exact hq)).mono ?_;rintro e w' ⟨v, rfl, hv, hb⟩;exact ⟨v, f0, 1, rfl, hv, .inl ⟨hq, rfl, rfl⟩, hb⟩
 ·obtain ⟨j, rfl⟩ : ∃ j : Nat, i = j := ⟨i.toNat, by omega⟩;refine (settle_ok va f j w ha hf hm (by omega)).mono ?_;rintro e w' ⟨v, g, rfl, hv, hg, hb⟩;exact ⟨v, _, 0, rfl, hv, .inr ⟨j, g, rfl, by omega, rfl, rfl, hg⟩, hb⟩
theorem rlsettle_any (va : Value) (f : Fn) (i : Int) (w : World) (ha : Fx w va (zF f)) (hf : RightN f) (hm : Md f.N) : Calls Tryz.prog 46 #[va, .int .i64 i] w (RzF (StZ f i) w) := by
 by_cases hq : i < 0 \/ (f.R.length : Int) <= i
 ·refine (rsettle_bad va (zF f) i w ha (by rw [show (zF f).R.length = f.R.length from zP_len _]; exact hq)).mono ?_;rintro e w' ⟨v, rfl, hv, hb⟩;exact ⟨v, f0, 1, rfl, hv, .inl ⟨hq, rfl, rfl⟩, hb⟩
 ·obtain ⟨j, rfl⟩ : ∃ j : Nat, i = j := ⟨i.toNat, by omega⟩;refine (rsettle_ok va f j w ha hf hm (by omega)).mono ?_;rintro e w' ⟨v, g, rfl, hv, hg, hb⟩;exact ⟨v, _, 0, rfl, hv, .inr ⟨j, g, rfl, by omega, rfl, rfl, hg⟩, hb⟩
def DvZ (f : Fn) (l : List Int) (k : Int) : Prop := (f.R ≠ [] /\ l = [] /\ k = 6) \/ (f.R = [] /\ 4000 < cntN f.P /\ l = [] /\ k = 2) \/ (f.R = [] /\ cntN f.P <= 4000 /\ k = 0 /\ ∃ m, l = zI m /\ m.Perm (dvL f.P [1]) /\ m.Pairwise (· <= ·))
theorem DvZ.uniq {f : Fn} {l l' : List Int} {k k' : Int} (h : DvZ f l k) (h' : DvZ f l' k') : l' = l /\ k' = k := by
 rcases h with ⟨a, rfl, rfl⟩ | ⟨a, b, rfl, rfl⟩ | ⟨a, b, rfl, m, rfl, hm, hs⟩ <;> rcases h' with ⟨a', rfl, rfl⟩ | ⟨a', b', rfl, rfl⟩ | ⟨a', b', rfl, m', rfl, hm', hs'⟩ <;>
  first
   | exact ⟨rfl, rfl⟩
   | exact absurd a' a
   | exact absurd a a'
   | omega
   | exact ⟨by rw [Go.Proofs.YtblebpmlkpobnaaGreat.sorted_uniq hm hm' hs hs'], rfl⟩
theorem DvZ.szl {f : Fn} {l : List Int} {k : Int} (hf : RightN f) (hm : Md f.N) (h : DvZ f l k) : l.length <= 1099511627776 /\ ∀ x ∈ l, sz x <= 1099511627776 := by
 rcases h with ⟨a, rfl, rfl⟩ | ⟨a, b, rfl, rfl⟩ | ⟨a, b, rfl, m, rfl, hp, hs⟩
 ·exact ⟨by decide, fun x hx => by cases hx⟩
 ·exact ⟨by decide, fun x hx => by cases hx⟩
 ·refine ⟨by rw [zI_len, hp.length_eq, dvL_len]; simp; omega, fun x hx => ?_⟩;unfold zI at hx;obtain ⟨y, hy, rfl⟩ := List.mem_map.1 hx;refine Nat.le_trans ((DvI.of hf hm a).szy (i := f.P.length) ?_) (by decide);rw [List.take_length];exact hp.mem_iff.1 hy
def RzL (f : Fn) (w : World) (e : Ending) (w' : World) : Prop := ∃ v l k, e = .returned (.tuple #[v, .int .i64 k]) /\ Sr eI w' v l /\ DvZ f l k /\ Below w.heap.size w w'
theorem ldivisors_any (va : Value) (f : Fn) (w : World) (ha : Fx w va (zF f)) (hf : RightN f) (hm : Md f.N) : Calls Tryz.prog 33 #[va] w (RzL f w) := by
 by_cases hR : f.R = []
 ·refine (divisors_any va f w ha hf hm hR).mono ?_;rintro e w' ⟨hb, ⟨h, rfl⟩ | ⟨h, v, m, rfl, hv, hp, hs⟩⟩
  ·exact ⟨_, [], 2, rfl, Sr.nil eI w', .inr (.inl ⟨hR, h, rfl, rfl⟩), hb⟩
  ·exact ⟨v, _, 0, rfl, hv, .inr (.inr ⟨hR, h, rfl, m, rfl, hp, hs⟩), hb⟩
 ·refine (divisors_none va (zF f) w ha (by rw [show (zF f).R.length = f.R.length from zP_len _]; exact List.length_pos_iff.2 hR)).mono ?_;rintro e w' ⟨rfl, hb⟩;exact ⟨_, [], 6, rfl, Sr.nil eI w', .inl ⟨hR, rfl, rfl⟩, hb⟩
theorem rldivisors_any (va : Value) (f : Fn) (w : World) (ha : Fx w va (zF f)) (hf : RightN f) (hm : Md f.N) : Calls Tryz.prog 48 #[va] w (RzL f w) := by
 by_cases hR : f.R = []
 ·refine (rdivisors_any va f w ha hf hm hR).mono ?_;rintro e w' ⟨hb, ⟨h, rfl⟩ | ⟨h, v, m, rfl, hv, hp, hs⟩⟩
  ·exact ⟨_, [], 2, rfl, Sr.nil eI w', .inr (.inl ⟨hR, h, rfl, rfl⟩), hb⟩
  ·exact ⟨v, _, 0, rfl, hv, .inr (.inr ⟨hR, h, rfl, m, rfl, hp, hs⟩), hb⟩
 ·refine (rdivisors_none va (zF f) w ha (by rw [show (zF f).R.length = f.R.length from zP_len _]; exact List.length_pos_iff.2 hR)).mono ?_;rintro e w' ⟨rfl, hb⟩;exact ⟨_, [], 6, rfl, Sr.nil eI w', .inl ⟨hR, rfl, rfl⟩, hb⟩
end Go.Proofs.YtblebpmlkpobnaaGreat
