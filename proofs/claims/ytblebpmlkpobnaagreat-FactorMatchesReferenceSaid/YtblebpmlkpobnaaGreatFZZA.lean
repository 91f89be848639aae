/-
  The reference of factor: Increasing.
-/
import Derived.Test.YtblebpmlkpobnaaGreatFH1
import Derived.Test.YtblebpmlkpobnaaGreatFZT
import Derived.Test.YtblebpmlkpobnaaGreatFF
import Derived.Test.YtblebpmlkpobnaaGreatFZV
set_option linter.unusedSimpArgs false
set_option linter.unusedVariables false
set_option maxRecDepth 100000
set_option maxHeartbeats 4000000
namespace Go.Proofs.YtblebpmlkpobnaaGreat
theorem tidy_trial {N B : Nat} {t : Fn} (hm : 1 <= (trL (upto B) N).2)
  (h : TidyTo ⟨N, (trL (upto B) N).1, if 1 < (trL (upto B) N).2 then [((trL (upto B) N).2, 1)] else [], B⟩ t) : TrialTo N B t := by
 obtain ⟨h1, h2, h3, h4⟩ := h;dsimp only at h1 h2 h3 h4;unfold TrialTo;dsimp only;generalize trL (upto B) N = r at *;refine ⟨h1, h2, ?_, ?_⟩
 ·by_cases e : 1 < r.2
  ·rw [if_pos e] at h3;have e' : r.2 ≠ 1 := by omega
   by_cases s : sml B r.2 = true
   ·rw [if_pos ⟨e', s⟩];simpa [s] using h3
   ·rw [if_neg (fun h => s h.2)];simpa [s] using h3
  ·rw [if_neg e] at h3;rw [if_neg (fun h => e (by omega))];simpa using h3
 ·by_cases e : 1 < r.2
  ·rw [if_pos e] at h4;have e' : r.2 ≠ 1 := by omega
   by_cases s : sml B r.2 = true
   ·rw [if_neg (fun h => h.2 s)];simpa [s] using h4
   ·rw [if_pos ⟨e', s⟩];simpa [s] using h4
  ·rw [if_neg e] at h4;rw [if_neg (fun h => e (by omega))];simpa using h4
theorem tidy_split {f : Fn} {o : List Nat} {t : Fn} (h : TidyTo ⟨f.N, f.P, pows f.N (keep f o), f.B⟩ t) : SplitTo f o t := by
 obtain ⟨h1, h2, h3, h4⟩ := h;dsimp only at h1 h2 h3 h4
 have hf : ∀ (l : List Nat) (p : Nat -> Bool), (pows f.N l).filter (fun q => p q.1) = pows f.N (l.filter p) := fun l p => by
  unfold pows;rw [List.filter_map]; rfl
 rw [hf _ (fun x => sml f.B x)] at h3;rw [hf _ (fun x => !sml f.B x)] at h4;exact ⟨h1, h2, h3, h4⟩
theorem CB.ones {l o : List Nat} (h : CB l o) : CB (l ++ [1]) o :=
 h.same (fun _ hx => .mem (List.mem_append_left _ hx)) (fun x hx => by
  rcases List.mem_append.1 hx with hx | hx
  ·exact .mem hx
  ·rw [List.mem_singleton.1 hx]; exact .one)
structure Mgd (l out a b : List Nat) : Prop where
 perm : (out ++ a ++ b).Perm l
 so : (out ++ a).Pairwise (· <= ·)
 sb : (out ++ b).Pairwise (· <= ·)
theorem Mgd.start {l a b : List Nat} (h : (a ++ b).Perm l) (ha : a.Pairwise (· <= ·)) (hb : b.Pairwise (· <= ·)) : Mgd l [] a b := ⟨by simpa using h, by simpa using ha, by simpa using hb⟩
theorem Mgd.left {l out a b : List Nat} {x y : Nat} (h : Mgd l out (x :: a) (y :: b)) (hxy : x <= y) : Mgd l (out ++ [x]) a (y :: b) := by
 obtain ⟨h1, h2, h3⟩ := h;refine ⟨by simpa using h1, by simpa using h2, ?_⟩;rw [List.append_assoc, List.pairwise_append];obtain ⟨s1, s2, s3⟩ := List.pairwise_append.1 h3;obtain ⟨t1, t2, t3⟩ := List.pairwise_append.1 h2;refine ⟨s1, ?_, ?_⟩
 ·simp only [List.singleton_append, List.pairwise_cons] at s2 |-;refine ⟨fun z hz => ?_, s2⟩;rcases List.mem_cons.1 hz with rfl | hz
  ·exact hxy
  ·exact Nat.le_trans hxy (s2.1 z hz)
 ·intro u hu v hv;rcases List.mem_cons.1 hv with rfl | hv
  ·exact t3 u hu _ List.mem_cons_self
  ·exact s3 u hu v hv
theorem Mgd.swap {l out a b : List Nat} (h : Mgd l out a b) : Mgd l out b a := ⟨List.Perm.trans (by
 rw [List.append_assoc, List.append_assoc];exact List.Perm.append_left _ List.perm_append_comm) h.perm, h.sb, h.so⟩
theorem Mgd.right {l out a b : List Nat} {x y : Nat} (h : Mgd l out (x :: a) (y :: b)) (hxy : y <= x) : Mgd l (out ++ [y]) (x :: a) b := (h.swap.left hxy).swap
theorem Mgd.done {l out a b : List Nat} (h : Mgd l out a b) (he : a = [] \/ b = []) : (out ++ a ++ b).Perm l /\ (out ++ a ++ b).Pairwise (· <= ·) := by
 refine ⟨h.perm, ?_⟩;rcases he with rfl | rfl
 ·simpa using h.sb
 ·simpa using h.so
open Go.RowKit
attribute [local go_sem ↓] Go.wp_at_zero Go.wp_at_succ
theorem Sr.takeE {α : Type} {E : Elt α} {w : World} {b off n cap i : Nat} {l : List α} (h : Sr E w (.slice (some ⟨b, off, none⟩) n cap) l) (hi : i <= n) : Sr E w (.slice (some ⟨b, off, none⟩) i cap) (l.take i) := by
 obtain ⟨a, c, e, hc, hl⟩ := h;injection e with e1 e2 e3;subst e1 e2 e3;refine ⟨_, _, by rw [List.length_take, Nat.min_eq_left hi], by rw [List.length_take]; omega, ?_⟩;rcases hl with rfl | ⟨b', off', e, h1, h2⟩
 ·exact .inl (by simp)
 ·injection e with e;injection e with e1 e2;subst e1 e2;refine .inr ⟨_, _, rfl, h1, fun j hj => ?_⟩;have hj' : j < l.length := by rw [List.length_take] at hj; omega
  obtain ⟨cs, k1, k2⟩ := h2 j hj';exact ⟨cs, by rw [List.getElem_take]; exact k1, k2⟩
theorem Sr.dropE {α : Type} {E : Elt α} {w : World} {b off n cap i : Nat} {l : List α} (h : Sr E w (.slice (some ⟨b, off, none⟩) n cap) l) (hi : i <= n) : Sr E w (.slice (if cap = i then some ⟨b, off, none⟩ else some ⟨b, off + i * E.k, none⟩) (n - i) (cap - i)) (l.drop i) := by
 obtain ⟨a, c, e, hc, hl⟩ := h;injection e with e1 e2 e3;subst e1 e2 e3;refine ⟨_, _, by rw [List.length_drop], by rw [List.length_drop]; omega, ?_⟩;rcases hl with rfl | ⟨b', off', e, h1, h2⟩
 ·exact .inl (by simp)
 ·injection e with e;injection e with e1 e2;subst e1 e2;by_cases hci : cap = i
  ·exact .inl (by rw [List.drop_eq_nil_iff]; omega)
  ·rw [if_neg hci];refine .inr ⟨_, _, rfl, h1, fun j hj => ?_⟩;have hj' : i + j < l.length := by rw [List.length_drop] at hj; omega
   obtain ⟨cs, k1, k2⟩ := h2 (i + j) hj';refine ⟨cs, by rw [List.getElem_drop]; exact k1, fun m u e => ?_⟩;have := k2 m u e;have e2 : off + (i + j) * E.k + m = off + i * E.k + j * E.k + m := by rw [Nat.add_mul]; omega
   rw [<- e2]; exact this
theorem cmp_le {x y : Nat} : cmpI (x : Int) (y : Int) <= 0 ↔ x <= y := by
 unfold cmpI;split
 ·constructor <;> intro <;> omega
 ·split
  ·constructor <;> intro <;> omega
  ·constructor <;> intro <;> omega
theorem zI_drop (l : List Nat) (i : Nat) : (zI l).drop i = zI (l.drop i) := by unfold zI; rw [List.map_drop]
structure InJ (l1 l2 : List Nat) (W0 : World) (b : Nat -> Bool) (x : Nat -> Value) (W : World) : Prop where
 bl : Below W0.heap.size W0 W
 c5 : b 5 = true -> ∃ m, Sr eI W (x 5) (zI m) /\ m.Perm l1 /\ m.Pairwise (· <= ·)
 c11 : b 11 = true -> ∃ m, Sr eI W (x 11) (zI m) /\ m.Perm l2 /\ m.Pairwise (· <= ·)
 v12 : b 12 = true -> ∃ D, x 12 = .slice (some ⟨D, 0, none⟩) 0 0 /\ W0.heap.size <= D /\ So eI W W0.heap.size (x 12) [] /\ W.heap[D]? = some (.cells #[] 33 (0, 0))
 a13 : b 13 = true -> b 5 = true /\ x 13 = x 5
 a14 : b 14 = true -> b 11 = true /\ x 14 = x 11
 a15 : b 15 = true -> b 12 = true /\ x 15 = x 12
section
variable {l1 l2 : List Nat} {W0 W W' : World} {b : Nat -> Bool} {x : Nat -> Value}
theorem InJ.start (l1 l2 : List Nat) (W0 : World) (x : Nat -> Value) : InJ l1 l2 W0 (fun _ => false) x W0.drew :=
 ⟨(Below.refl _ _).drew, (fun h => nomatch h), (fun h => nomatch h), (fun h => nomatch h), (fun h => nomatch h), (fun h => nomatch h), fun h => nomatch h⟩
theorem InJ.set (h : InJ l1 l2 W0 b x W) {i : Nat} (hi : i = 5 \/ i = 11 \/ i = 12 \/ i = 13 \/ i = 14 \/ i = 15) (hb : b i = false) {v : Value} (hbl : Below W.heap.size W W')
  (h5 : i = 5 -> ∃ m, Sr eI W' v (zI m) /\ m.Perm l1 /\ m.Pairwise (· <= ·)) (h11 : i = 11 -> ∃ m, Sr eI W' v (zI m) /\ m.Perm l2 /\ m.Pairwise (· <= ·))
  (h12 : i = 12 -> ∃ D, v = .slice (some ⟨D, 0, none⟩) 0 0 /\ W0.heap.size <= D /\ So eI W' W0.heap.size v [] /\ W'.heap[D]? = some (.cells #[] 33 (0, 0)))
  (h13 : i = 13 -> b 5 = true /\ v = x 5) (h14 : i = 14 -> b 11 = true /\ v = x 11) (h15 : i = 15 -> b 12 = true /\ v = x 12) : InJ l1 l2 W0 (fset b i true) (fset x i v) W' := by
 have ne : ∀ {α : Type} (f : Nat -> α) (u : α) {j : Nat}, j ≠ i -> fset f i u j = f j := fun f u _ e => fset_ne _ _ e;refine ⟨Bl.up h.bl hbl, fun p => ?_, fun p => ?_, fun p => ?_, fun p => ?_, fun p => ?_, fun p => ?_⟩
 ·by_cases e : 5 = i
  ·rw [<- e, fset_same]; exact h5 e.symm
  ·rw [ne _ _ e] at p |-;obtain ⟨m, k1, k2⟩ := h.c5 p;exact ⟨m, k1.up hbl, k2⟩
 ·by_cases e : 11 = i
  ·rw [<- e, fset_same]; exact h11 e.symm
  ·rw [ne _ _ e] at p |-;obtain ⟨m, k1, k2⟩ := h.c11 p;exact ⟨m, k1.up hbl, k2⟩
 ·by_cases e : 12 = i
  ·rw [<- e, fset_same]; exact h12 e.symm
  ·rw [ne _ _ e] at p |-;obtain ⟨D, k1, k2, k3, k4⟩ := h.v12 p;exact ⟨D, k1, k2, k3.up hbl, (hbl.block _ (Array.getElem?_eq_some_iff.1 k4).1).trans k4⟩
 ·by_cases e : 13 = i
  ·subst e;obtain ⟨k1, k2⟩ := h13 rfl;rw [ne b true (show 5 ≠ 13 by decide), fset_same, ne x v (show 5 ≠ 13 by decide)];exact ⟨k1, k2⟩
  ·rw [ne _ _ e] at p |-;obtain ⟨k1, k2⟩ := h.a13 p;have e5 : 5 ≠ i := fun e => by rw [<- e, k1] at hb; cases hb
   rw [ne _ _ e5, ne _ _ e5]; exact ⟨k1, k2⟩
 ·by_cases e : 14 = i
  ·subst e;obtain ⟨k1, k2⟩ := h14 rfl;rw [ne b true (show 11 ≠ 14 by decide), fset_same, ne x v (show 11 ≠ 14 by decide)];exact ⟨k1, k2⟩
  ·rw [ne _ _ e] at p |-;obtain ⟨k1, k2⟩ := h.a14 p;have e5 : 11 ≠ i := fun e => by rw [<- e, k1] at hb; cases hb
   rw [ne _ _ e5, ne _ _ e5]; exact ⟨k1, k2⟩
 ·by_cases e : 15 = i
  ·subst e;obtain ⟨k1, k2⟩ := h15 rfl;rw [ne b true (show 12 ≠ 15 by decide), fset_same, ne x v (show 12 ≠ 15 by decide)];exact ⟨k1, k2⟩
  ·rw [ne _ _ e] at p |-;obtain ⟨k1, k2⟩ := h.a15 p;have e5 : 12 ≠ i := fun e => by rw [<- e, k1] at hb; cases hb
   rw [ne _ _ e5, ne _ _ e5]; exact ⟨k1, k2⟩
end
theorem Sr.not_lit {α : Type} {E : Elt α} {w : World} {v : Value} {l : List α} {D T : Nat} {fr : Nat × Nat} (h : Sr E w v l) (hD : w.heap[D]? = some (.cells #[] T fr)) (hl : l ≠ []) : v.ownBlock ≠ some D := by
 obtain ⟨a, c, rfl, -, hl'⟩ := h;rcases hl' with e | ⟨b, off, rfl, -, hs⟩
 ·exact absurd e hl
 ·intro e;have e : b = D := by simpa [Value.ownBlock] using e
  subst e;have h0 : 0 < l.length := List.length_pos_iff.2 hl;obtain ⟨cs, k1, k2⟩ := hs 0 h0;have hk := E.hk;have hc := E.len k1;have := k2 0 (cs[0]'(by omega)) (List.getElem?_eq_getElem (by omega));simp [World.cell?, hD] at this
theorem inc_own {c b o : Nat} {aD : Option Addr} (h : (if c = 1 then some ⟨b, o, none⟩ else some ⟨b, o + 2, none⟩ : Option Addr) = aD) (n k : Nat) : (Value.slice aD n k).ownBlock = some b := by
 subst h;split <;> rfl
def slLen : Value -> Nat
 | .slice _ n _ => n
 | _ => 0
theorem rinc_any : ∀ (N : Nat) (va : Value) (l : List Nat) (w : World) (_ : l.length = N) (_ : Sr eI w va (zI l)) (_ : ∀ x ∈ l, sz (x : Int) <= 1099511627776) (_ : N <= 1099511627776),
  Calls Tryz.prog 107 #[va] w fun e w' => ∃ v m, e = .returned v /\ Sr eI w' v (zI m) /\ m.Perm l /\ m.Pairwise (· <= ·) /\ Below w.heap.size w w' := by
 intro N;induction N using Nat.strongRecOn with
 | ind N ih =>
 intro va l w hlN ha hs hN;obtain ⟨a, c, rfl, hra⟩ := id ha;have hzl : (zI l).length = N := by rw [zI_len]; exact hlN
 rw [hzl] at ha |-;have hca := ha.len.2;clear hra;have HIH := Lib.hid ih;have HS := Lib.hid hs;have HA := Lib.hid ha;have HLN := Lib.hid hlN;clear ih hs ha hzl hlN;go_enter Tryz.func107, Tryz.ntmps107
 by_cases h2 : N < 2
 ·have e1 : (N : Int) < 2 := by omega
  go_wp2_with fail;go_ret
  refine ⟨_, l, rfl, HA.out, List.Perm.refl _, ?_, Below.refl _ _⟩;match l, HLN.out with
  | [], _ => exact List.Pairwise.nil
  | [x], _ => simp
  | x :: y :: l, h => simp at h; omega
 ·have e1 : ¬ (N : Int) < 2 := by omega
  obtain ⟨bo, off, rfl, hbo, hsc⟩ := HA.out.at (i := 0) (by rw [zI_len, HLN.out]; omega);have e2 : (N : Int).tdiv 2 = ((N / 2 : Nat) : Int) := by rw [Int.tdiv_eq_ediv_of_nonneg (by omega)]; omega
  obtain ⟨H, hH⟩ : ∃ H, N / 2 = H := ⟨_, rfl⟩;have hcH : ¬ c = H := by omega
  have hHN : H < N := by omega
  have hH0 : 1 <= H := by omega
  have hHn : H <= N := by omega
  have hHc : H <= c := by omega
  rw [hH] at e2;have e3 : IntKind.i64.wrap (H : Int) = (H : Int) := by rw [IntKind.wrap_i64]; omega
  have HT := Lib.hid (HA.out.takeE (i := H) (by omega));have HD := Lib.hid (HA.out.dropE (i := H) (by omega));rw [zI_take] at HT;rw [zI_drop, if_neg hcH] at HD;go_upto_region 3 with fail;clear hH hsc;refine wp_region_T (by kernel_rfl) [] (S := fun w' => True) trivial (fun hHeld => ?_);(refine pL 0 rfl ?_; refine pL 1 rfl ?_; refine pL 2 rfl ?_; refine pL 3 rfl ?_; refine pL 4 rfl ?_)
  (refine pL 6 rfl ?_; refine pL 7 rfl ?_; refine pL 8 rfl ?_; refine pL 9 rfl ?_; refine pL 10 rfl ?_)
  clear hHeld
  refine wpAnyT_all [(5, some 15), (11, some 21), (12, some 22), (13, some 3), (14, some 4)] 1 (InJ (l.take H) (l.drop H) w) rfl (by kernel_rfl) (by decide) (by kernel_rfl) (by kernel_rfl) (by kernel_rfl)
   (fun _ _ _ _ => trivial) (fun x => InJ.start _ _ _ _) ?_ ?_
  ·intro i hi;have hi' : i = 5 \/ i = 11 \/ i = 12 \/ i = 13 \/ i = 14 := by simpa using hi
   clear hi;rcases hi' with rfl | rfl | rfl | rfl | rfl
   ·refine ⟨_, rfl, fun bb xx wz hJ hbf hw K hK => ?_⟩;clear hw;simp only [actA] at hK |-;go_simp;refine (HIH.out H hHN _ (l.take H) wz (by rw [List.length_take, HLN.out]; omega) (HT.out.up hJ.bl) (fun x hx => HS.out x (List.mem_of_mem_take hx)) (by omega)).mono ?_;rintro e w2 ⟨v, m, rfl, hv, hp, hso, hb⟩;exact hK.out _ _ (hJ.set (i := 5) (by decide) hbf hb (fun _ => ⟨m, hv, hp, hso⟩) nzz nzz nzz nzz nzz)
   ·refine ⟨_, rfl, fun bb xx wz hJ hbf hw K hK => ?_⟩;clear hw;simp only [actA] at hK |-;go_simp;refine (HIH.out (N - H) (by omega) _ (l.drop H) wz (by rw [List.length_drop, HLN.out]) (HD.out.up hJ.bl) (fun x hx => HS.out x (List.mem_of_mem_drop hx)) (by omega)).mono ?_;rintro e w2 ⟨v, m, rfl, hv, hp, hso, hb⟩;exact hK.out _ _ (hJ.set (i := 11) (by decide) hbf hb nzz (fun _ => ⟨m, hv, hp, hso⟩) nzz nzz nzz nzz)
   ·refine ⟨_, rfl, fun bb xx wz hJ hbf hw K hK => ?_⟩;clear hw;simp only [actA] at hK |-;go_simp;exact hK.out _ _ (hJ.set (W' := wz.alloc (.cells #[] 33)) (i := 12) (by decide) hbf (below_new _ _) nzz nzz (fun _ => ⟨_, rfl, hJ.bl.size, So.lit0 eI wz hJ.bl.size, heap_alloc_new wz _⟩) nzz nzz nzz)
   ·refine ⟨_, rfl, fun bb xx wz hJ hbf hw K hK => ?_⟩;have h1 := hw 5 (by kernel_rfl);clear hw;simp only [actA] at hK |-;go_simp;exact hK.out _ _ (hJ.set (i := 13) (by decide) hbf (Below.refl _ _) nzz nzz nzz (fun _ => ⟨h1, rfl⟩) nzz nzz)
   ·refine ⟨_, rfl, fun bb xx wz hJ hbf hw K hK => ?_⟩;have h1 := hw 11 (by kernel_rfl);clear hw;simp only [actA] at hK |-;go_simp;exact hK.out _ _ (hJ.set (i := 14) (by decide) hbf (Below.refl _ _) nzz nzz nzz nzz (fun _ => ⟨h1, rfl⟩) nzz)
  intro bz xx wz hbb hJ;obtain ⟨ma, hA5, hpa, hsa⟩ := hJ.c5 (hbb 5 (by decide));obtain ⟨mb, hA11, hpb, hsb⟩ := hJ.c11 (hbb 11 (by decide));obtain ⟨D, hx12, hDw, hSo, hDc⟩ := hJ.v12 (hbb 12 (by decide));have hx13 := (hJ.a13 (hbb 13 (by decide))).2;have hx14 := (hJ.a14 (hbb 14 (by decide))).2;have hbz := hJ.bl;clear hbb hJ;obtain ⟨va, hva⟩ : ∃ va, xx 5 = va := ⟨_, rfl⟩;obtain ⟨vb, hvb⟩ : ∃ vb, xx 11 = vb := ⟨_, rfl⟩;rw [hva] at hA5 hx13;rw [hvb] at hA11 hx14;rw [hx12] at hSo;simp only [actM, hx12, hx13, hx14, hva, hvb];clear hx12 hx13 hx14 hva hvb;have hHeld : (fun w' : World => True) wz := trivial;refine pL 15 rfl ?_;refine dT ?_;have hM := Mgd.start (l := l) (hpa.append hpb |>.trans (by rw [List.take_append_drop])) hsa hsb
  have hnl : ∀ g, (Value.slice (some ⟨D, 0, none⟩) 0 0).ownBlock = some g -> (ma ≠ [] -> va.ownBlock ≠ some g) /\ (mb ≠ [] -> vb.ownBlock ≠ some g) := fun g hg => by
   have e : D = g := by simpa [Value.ownBlock] using hg
   subst e;exact ⟨fun h => hA5.not_lit hDc (fun e => h (by simpa [zI] using e)), fun h => hA11.not_lit hDc (fun e => h (by simpa [zI] using e))⟩
  have hll : ma.length + mb.length = N := by rw [hpa.length_eq, hpb.length_eq, List.length_take, List.length_drop, HLN.out]; omega
  have HA5 := Lib.hid hA5;have HA11 := Lib.hid hA11;have HM := Lib.hid hM;have HNL := Lib.hid hnl;have HSO := Lib.hid hSo;have HBZ := Lib.hid hbz;clear hA5 hA11 hM hnl hSo hbz hpa hpb hsa hsb hDc hDw hll hHeld HT HD HIH e1 e2 e3 hcH hHN hH0 hHn hHc;go_wp2_with fail
  go_loopw [3, 4, 5] (fun s3 s4 s5 wr => ∃ la lb lo, Sr eI wr s3 (zI la) /\ Sr eI wr s4 (zI lb) /\ So eI wr w.heap.size s5 (zI lo) /\ Mgd l lo la lb /\ (∀ g, s5.ownBlock = some g -> (la ≠ [] -> s3.ownBlock ≠ some g) /\ (lb ≠ [] -> s4.ownBlock ≠ some g)) /\ Below w.heap.size w wr)
   (fun s3 s4 _ _ => slLen s3 + slLen s4)
  case atStart => exact ⟨ma, mb, [], HA5.out, HA11.out, HSO.out, HM.out, HNL.out, HBZ.out⟩
  case round =>
   clear HA5 HA11 HM HNL HSO HBZ;obtain ⟨la, lb, lo, h3, h4, h5, hM, hnl, hbr⟩ := hrel;obtain ⟨a3, c3, rfl, hc3, -⟩ := id h3;obtain ⟨a4, c4, rfl, hc4, -⟩ := id h4;obtain ⟨a5, c5, rfl, hc5⟩ := h5.slice;have hlen := hM.perm.length_eq;rw [List.length_append, List.length_append, HLN.out] at hlen;have k5 : (zI lo).length + 1 <= 1099511627777 := by rw [zI_len]; omega
   have k35 : (zI lo).length + (zI la).length + (zI lb).length <= 1099511627776 := by rw [zI_len, zI_len, zI_len]; omega
   obtain ⟨n3, hn3⟩ : ∃ n3, (zI la).length = n3 := ⟨_, rfl⟩;obtain ⟨n4, hn4⟩ : ∃ n4, (zI lb).length = n4 := ⟨_, rfl⟩;obtain ⟨n5, hn5⟩ : ∃ n5, (zI lo).length = n5 := ⟨_, rfl⟩;rw [hn3] at h3 hc3 k35 hnl |-;rw [hn4] at h4 hc4 k35 hnl |-;rw [hn5] at h5 hc5 k35 k5 hnl |-;have HM := Lib.hid hM;have H3 := Lib.hid h3;have H4 := Lib.hid h4;have H5 := Lib.hid h5;have HN3 := Lib.hid hn3;have HN4 := Lib.hid hn4;have HN5 := Lib.hid hn5;have HNL := Lib.hid hnl;have HBR := Lib.hid hbr;clear hM h3 h4 h5 hn3 hn4 hn5 hnl hbr hlen;by_cases g34 : 0 < n3 /\ 0 < n4
   ·obtain ⟨g3, g4⟩ := g34;have i3 : (n3 : Int) > 0 := by omega
    have i4 : (n4 : Int) > 0 := by omega
    have j3 : (0 : Int) < (n3 : Int) := by omega
    have j4 : (0 : Int) < (n4 : Int) := by omega
    have k3 : (1 : Int) <= (n3 : Int) := by omega
    have k4 : (1 : Int) <= (n4 : Int) := by omega
    obtain ⟨b3, o3, rfl, hb3, hs3⟩ := H3.out.at (i := 0) (by rw [HN3.out]; exact g3);obtain ⟨b4, o4, rfl, hb4, hs4⟩ := H4.out.at (i := 0) (by rw [HN4.out]; exact g4);obtain ⟨t3, u3, m3, d3, x0, x1, hx⟩ := hs3.int (i := 0) (by rw [HN3.out]; exact g3);obtain ⟨t4, u4, m4, d4, y0, y1, hy⟩ := hs4.int (i := 0) (by rw [HN4.out]; exact g4)
    obtain ⟨x, la', rfl⟩ : ∃ x l', la = x :: l' := by
     cases la with
     | nil => have := HN3.out; simp [zI] at this; omega
     | cons x l' => exact ⟨x, l', rfl⟩
    obtain ⟨y, lb', rfl⟩ : ∃ x l', lb = x :: l' := by
     cases lb with
     | nil => have := HN4.out; simp [zI] at this; omega
     | cons x l' => exact ⟨x, l', rfl⟩
    rw [Nat.zero_mul, Nat.add_zero] at x0 x1 y0 y1;have hx : It wr (.agg #[.bool t3, .slice u3 m3 d3]) (x : Int) := hx;have hy : It wr (.agg #[.bool t4, .slice u4 m4 d4]) (y : Int) := hy;have hsx := HS.out x (HM.out.perm.mem_iff.1 (by simp));have hsy := HS.out y (HM.out.perm.mem_iff.1 (by simp));have HX := Lib.hid hx;have HY := Lib.hid hy;have HSX := Lib.hid hsx;have HSY := Lib.hid hsy;clear hs3 hs4 hx hy hsx hsy;go_upto_region 5 with fail;refine wp_region_T (by kernel_rfl) [] (S := fun w' => w'.cell? ⟨b3, o3, none⟩ = some (.bool t3) /\ w'.cell? ⟨b3, o3 + 1, none⟩ = some (.slice u3 m3 d3) /\ w'.cell? ⟨b4, o4, none⟩ = some (.bool t4) /\ w'.cell? ⟨b4, o4 + 1, none⟩ = some (.slice u4 m4 d4)) ⟨x0, x1, y0, y1⟩ (fun hHeld => ?_);(refine pL 0 rfl ?_; refine pL 1 rfl ?_)
    refine kL 2 rfl ?_;(refine pL 3 rfl ?_; refine pL 4 rfl ?_)
    refine kL 5 rfl ?_;(refine oL 6 rfl fun K hK => tL ?_; go_simp);refine (rcmp_any _ _ (x : Int) (y : Int) _ HX.out.drew HY.out.drew (Nat.le_trans HSX.out (by decide)) (Nat.le_trans HSY.out (by decide))).mono ?_;rintro e w2 ⟨rfl, hb2⟩;have hb2' := Bl.up (Bl.drew (Below.refl wr.heap.size wr)) hb2;replace x0 := keepc hb2 (cellD x0);replace x1 := keepc hb2 (cellD x1);replace y0 := keepc hb2 (cellD y0);replace y1 := keepc hb2 (cellD y1);replace H3 := Lib.hid (H3.out.up hb2');replace H4 := Lib.hid (H4.out.up hb2');replace H5 := Lib.hid (H5.out.up hb2');replace HX := Lib.hid (HX.out.up hb2');replace HY := Lib.hid (HY.out.up hb2');replace HBR := Lib.hid (Bl.up HBR.out hb2');have hl2 := hb2'.size;clear hb2 hb2';(go_wp2_with fail; clear hHeld; refine nxL hK ⟨x0, x1, y0, y1⟩ fun hHeld => tL ?_; clear hK);refine pL 7 rfl ?_;refine dT ?_;clear hHeld;by_cases hxy : x <= y
    ·have hcc : cmpI (x : Int) (y : Int) <= 0 := cmp_le.2 hxy;have HXY := Lib.hid hxy;generalize cmpI (x : Int) (y : Int) = cc at *;clear hxy;go_upto_region 6 with fail;refine wp_region_T (by kernel_rfl) [5] (S := fun w' => w'.cell? ⟨b3, o3, none⟩ = some (.bool t3) /\ w'.cell? ⟨b3, o3 + 1, none⟩ = some (.slice u3 m3 d3)) ⟨x0, x1⟩ (fun hHeld => ?_);(refine pL 0 rfl ?_; refine pL 1 rfl ?_; refine pL 2 rfl ?_)
     refine kL 3 rfl ?_;(refine pL 6 rfl ?_; refine pL 7 rfl ?_)
     have hdr : Sr eI w2 (.slice (if c3 = 1 then some ⟨b3, o3, none⟩ else some ⟨b3, o3 + 2, none⟩) (n3 - 1) (c3 - 1)) (zI la') := H3.out.dropE (i := 1) (by omega);obtain ⟨aD, haD⟩ : ∃ aD, (if c3 = 1 then some ⟨b3, o3, none⟩ else some ⟨b3, o3 + 2, none⟩ : Option Addr) = aD := ⟨_, rfl⟩;have HO := Lib.hid (inc_own haD);simp only [haD] at hdr |-;have hb6 := (below_new w2 (.cells #[.bool t3, .slice u3 m3 d3] 33)).drew;have HD := Lib.hid (hdr.up hb6);clear haD hdr;(refine oL 4 rfl fun K hK => tL ?_; go_simp);have hsc : Sc eI (w2.alloc (.cells #[.bool t3, .slice u3 m3 d3] 33)).drew w2.heap.size 0 [(x : Int)] := Sc.one (E := eI) (cs := [.bool t3, .slice u3 m3 d3]) (heap_alloc_new w2 _) ⟨_, _, _, _, rfl, HX.out.up hb6⟩;have hS5 := H5.out.up hb6;have hB5 := Bl.up HBR.out hb6;have hO4 := H4.out.up hb6;have hl6 := hb6.size;(go_wp2_with fail; clear hHeld; refine nxL hK ⟨keepc hb6 x0, keepc hb6 x1⟩ fun hHeld => tL ?_; clear hK);refine wpAnyT_one (i := 5) (by as_aux_lemma => kernel_rfl) rfl (fun K hK => ?_);refine step_apS (E := eI) (by rfl) (.tmp 39) (.tmp 43) _ (by rfl) Tryz.underlying63 w.heap.size _ (zI lo) [(x : Int)] (by rfl) hS5 hB5.size w2.heap.size 0 1 1 (by rfl) rfl hsc (by decide) (by rw [HN5.out]; omega) ?_;intro g8 cap8 w8 h8 hb8 hg8;have hnw := hS5.nw;have h3' := HD.out.fr hb8 hnw (fun _ g e h => (HNL.out g h).1 (by simp) ((HO.out _ _).symm.trans e));have h4' := hO4.fr hb8 hnw (fun _ g e h => (HNL.out g h).2 (by simp) e);have hB8 := ButS.below hB5 hb8 hB5.size (fun g hg => (hS5.lt g hg).1);have h8' : So eI w8 w.heap.size (.slice (some ⟨g8, 0, none⟩) (n5 + 1) cap8) (zI (lo ++ [x])) := by rw [zI_append, <- HN5.out]; exact h8
     have hn8 : ∀ g, (Value.slice (some ⟨g8, 0, none⟩) (n5 + 1) cap8).ownBlock = some g -> b3 ≠ g /\ b4 ≠ g := fun g hg => by
      have e : g8 = g := by simpa [Value.ownBlock] using hg
      subst e;rcases hg8 with h | h
      ·exact ⟨fun e => (HNL.out _ h).1 (by simp) (by rw [<- e]; rfl), fun e => (HNL.out _ h).2 (by simp) (by rw [<- e]; rfl)⟩
      ·omega
     have H3' := Lib.hid h3';have H4' := Lib.hid h4';have H8 := Lib.hid h8';have HB8 := Lib.hid hB8;have HN8 := Lib.hid hn8;clear hS5 hB5 hO4 h8 hb8 hg8 hnw h3' h4' hB8 h8' hn8 hsc hb6 HD H3 H4 H5 HBR x0 x1 y0 y1 hl6;rw [HN5.out];refine hK.out _ _ nzz ?_;clear hK hHeld;refine tL ?_;(refine pL 8 rfl ?_; refine pL 9 rfl ?_)
     refine dT ?_;go_wp2_with fail;refine ⟨⟨la', y :: lb', lo ++ [x], H3'.out, H4'.out, H8.out, HM.out.left HXY.out, fun g hg => ⟨fun _ e => (HN8.out g hg).1 ((Option.some.inj ((HO.out _ _).symm.trans e))), fun _ e => (HN8.out g hg).2 ((by simpa [Value.ownBlock] using e))⟩, HB8.out⟩, ?_⟩;simp only [slLen]; omega
    ·have hcc : ¬ cmpI (x : Int) (y : Int) <= 0 := fun h => hxy (cmp_le.1 h);have HXY := Lib.hid hxy;generalize cmpI (x : Int) (y : Int) = cc at *;clear hxy;go_upto_region 7 with fail;refine wp_region_T (by kernel_rfl) [5] (S := fun w' => w'.cell? ⟨b4, o4, none⟩ = some (.bool t4) /\ w'.cell? ⟨b4, o4 + 1, none⟩ = some (.slice u4 m4 d4)) ⟨y0, y1⟩ (fun hHeld => ?_);(refine pL 0 rfl ?_; refine pL 1 rfl ?_; refine pL 2 rfl ?_)
     refine kL 3 rfl ?_;(refine pL 6 rfl ?_; refine pL 7 rfl ?_)
     have hdr : Sr eI w2 (.slice (if c4 = 1 then some ⟨b4, o4, none⟩ else some ⟨b4, o4 + 2, none⟩) (n4 - 1) (c4 - 1)) (zI lb') := H4.out.dropE (i := 1) (by omega);obtain ⟨aD, haD⟩ : ∃ aD, (if c4 = 1 then some ⟨b4, o4, none⟩ else some ⟨b4, o4 + 2, none⟩ : Option Addr) = aD := ⟨_, rfl⟩;have HO := Lib.hid (inc_own haD);simp only [haD] at hdr |-;have hb6 := (below_new w2 (.cells #[.bool t4, .slice u4 m4 d4] 33)).drew;have HD := Lib.hid (hdr.up hb6);clear haD hdr;(refine oL 4 rfl fun K hK => tL ?_; go_simp);have hsc : Sc eI (w2.alloc (.cells #[.bool t4, .slice u4 m4 d4] 33)).drew w2.heap.size 0 [(y : Int)] := Sc.one (E := eI) (cs := [.bool t4, .slice u4 m4 d4]) (heap_alloc_new w2 _) ⟨_, _, _, _, rfl, HY.out.up hb6⟩;have hS5 := H5.out.up hb6;have hB5 := Bl.up HBR.out hb6;have hO4 := H3.out.up hb6;have hl6 := hb6.size;(go_wp2_with fail; clear hHeld; refine nxL hK ⟨keepc hb6 y0, keepc hb6 y1⟩ fun hHeld => tL ?_; clear hK);refine wpAnyT_one (i := 5) (by as_aux_lemma => kernel_rfl) rfl (fun K hK => ?_);refine step_apS (E := eI) (by rfl) (.tmp 47) (.tmp 51) _ (by rfl) Tryz.underlying63 w.heap.size _ (zI lo) [(y : Int)] (by rfl) hS5 hB5.size w2.heap.size 0 1 1 (by rfl) rfl hsc (by decide) (by rw [HN5.out]; omega) ?_;intro g8 cap8 w8 h8 hb8 hg8;have hnw := hS5.nw;have h3' := HD.out.fr hb8 hnw (fun _ g e h => (HNL.out g h).2 (by simp) ((HO.out _ _).symm.trans e));have h4' := hO4.fr hb8 hnw (fun _ g e h => (HNL.out g h).1 (by simp) e);have hB8 := ButS.below hB5 hb8 hB5.size (fun g hg => (hS5.lt g hg).1);have h8' : So eI w8 w.heap.size (.slice (some ⟨g8, 0, none⟩) (n5 + 1) cap8) (zI (lo ++ [y])) := by rw [zI_append, <- HN5.out]; exact h8
     have hn8 : ∀ g, (Value.slice (some ⟨g8, 0, none⟩) (n5 + 1) cap8).ownBlock = some g -> b3 ≠ g /\ b4 ≠ g := fun g hg => by
      have e : g8 = g := by simpa [Value.ownBlock] using hg
      subst e;rcases hg8 with h | h
      ·exact ⟨fun e => (HNL.out _ h).1 (by simp) (by rw [<- e]; rfl), fun e => (HNL.out _ h).2 (by simp) (by rw [<- e]; rfl)⟩
      ·omega
     have H3' := Lib.hid h3';have H4' := Lib.hid h4';have H8 := Lib.hid h8';have HB8 := Lib.hid hB8;have HN8 := Lib.hid hn8;clear hS5 hB5 hO4 h8 hb8 hg8 hnw h3' h4' hB8 h8' hn8 hsc hb6 HD H3 H4 H5 HBR x0 x1 y0 y1 hl6;rw [HN5.out];refine hK.out _ _ nzz ?_;clear hK hHeld;refine tL ?_;(refine pL 8 rfl ?_; refine pL 9 rfl ?_)
     refine dT ?_;go_wp2_with fail;refine ⟨⟨x :: la', lb', lo ++ [y], H4'.out, H3'.out, H8.out, HM.out.right (by have := HXY.out; omega), fun g hg => ⟨fun _ e => (HN8.out g hg).1 ((by simpa [Value.ownBlock] using e)), fun _ e => (HN8.out g hg).2 ((Option.some.inj ((HO.out _ _).symm.trans e)))⟩, HB8.out⟩, ?_⟩;simp only [slLen]; omega
   ·have hd := HM.out.done (by
     by_cases g3 : 0 < n3
     ·have e : n4 = 0 := by omega
      exact .inr (List.length_eq_zero_iff.1 (by rw [<- zI_len, HN4.out, e]))
     ·have e : n3 = 0 := by omega
      exact .inl (List.length_eq_zero_iff.1 (by rw [<- zI_len, HN3.out, e])))
    have HD := Lib.hid hd;have hL2 : (zI lo).length + (zI la).length <= 1099511627776 := by rw [HN5.out, HN3.out]; omega
    have hL3 : (zI lo ++ zI la).length + (zI lb).length <= 1099511627776 := by rw [List.length_append, HN5.out, HN3.out, HN4.out]; omega
    have hE : zI lo ++ zI la ++ zI lb = zI (lo ++ la ++ lb) := by rw [zI_append, zI_append]
    clear hd k35 k5 hc3 hc4 hc5 HM;have hS5 := H5.out;have hB5 := HBR.out;have hnb : ∀ g, (Value.slice a5 n5 c5).ownBlock = some g -> zI lb ≠ [] -> (Value.slice a4 n4 c4).ownBlock ≠ some g := fun g hg h => (HNL.out g hg).2 (fun e => h (by rw [e]; rfl));have HNB := Lib.hid hnb;clear hnb H5 HBR HNL;by_cases g3 : 0 < n3
    case' pos => have i3 : (n3 : Int) > 0 := by omega
    case' pos => have i4 : ¬ (n4 : Int) > 0 := by omega
    case' neg => have i3 : ¬ (n3 : Int) > 0 := by omega
    all_goals
     clear g34 g3;go_upto_region 8 with fail
     go_wp2_with (first
      | (at_builtin; (refine wpl_apSr (E := eI) rfl (.tmp 55) (.tmp 56) _ rfl Tryz.underlying63 w.heap.size (.slice a5 n5 c5) (.slice a3 n3 c3) (zI lo) (zI la) rfl hS5 hB5.size rfl H3.out hL2 ?_); intro vK w4 hK hbK hgK _)
      | (at_builtin; have hB6 := ButS.below hB5 hbK hB5.size (fun g hg => (hS5.lt g hg).1); have hR6 := H4.out.fr hbK hS5.nw (fun h g e hg => HNB.out g hg h e);
         (refine wpl_apSr (E := eI) rfl (.tmp 57) (.tmp 58) _ rfl Tryz.underlying63 w.heap.size vK (.slice a4 n4 c4) (zI lo ++ zI la) (zI lb) rfl hK hB6.size rfl hR6 hL3 ?_); intro vL w5 hL hbL hgL _))
     have hB7 := ButS.below hB6 hbL hB6.size (fun g hg => (hK.lt g hg).1);rw [hE] at hL;have HL := Lib.hid hL;have HB7 := Lib.hid hB7;clear hS5 hB5 hK hbK hgK hB6 hR6 hL hbL hgL hB7;go_wp2_with fail;go_ret
     exact ⟨_, rfl, _, HL.out.sr, HD.out.1, HD.out.2, HB7.out⟩
end Go.Proofs.YtblebpmlkpobnaaGreat
