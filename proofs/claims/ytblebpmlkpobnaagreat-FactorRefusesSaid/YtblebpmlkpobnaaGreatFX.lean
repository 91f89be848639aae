/-
  algoristlaw05.whole, FactorRefuses: the walk.
-/
import Derived.Test.YtblebpmlkpobnaaGreatFW
set_option linter.unusedSimpArgs false
set_option linter.unusedVariables false

namespace Go.Proofs.YtblebpmlkpobnaaGreat
open Go.RowKit
attribute [local go_sem ↓] Go.wp_at_zero Go.wp_at_succ

set_option maxRecDepth 100000 in
set_option maxHeartbeats 2000000 in
theorem whole_any (va : Value) (n : Int) (w : World) (hn : It w va n) (h1 : n ≠ 1) (hs : sz n ≤ 1099511627776) :
    Calls Tryz.prog 32 #[va] w fun e w' => ∃ B, e = .returned (.slice (some ⟨B, 0, none⟩) 1 1) ∧ Sr eP w' (.slice (some ⟨B, 0, none⟩) 1 1) [(n, 1)] ∧ Below w.heap.size w w' := by
  obtain ⟨W, s1, a1, n1, c1, rfl, hW, bl, vX, hs1, p0, p1, hx'⟩ := box1 w hn
  clear hn
  go_enter Tryz.func32, Tryz.ntmps32
  go_upto_region 1 with fail
  rw [← hW]
  clear hW p0 p1 hx'
  obtain ⟨r1, r2, r3, r4, q0, q1, -, -, hxl⟩ := vX.cells
  refine wp_region_T (by kernel_rfl) [] (S := fun w' => w'.cell? ⟨w.heap.size, 0, none⟩ = some (.bool r1) ∧ w'.cell? ⟨w.heap.size, 1, none⟩ = some (.slice r2 r3 r4)) ⟨q0, q1⟩ (fun hHeld => ?_)
  replace hxl := hxl.drew
  (refine tK 0 rfl ?_; (try simp only [lay, List.getElem_toArray, List.getElem_cons_succ, List.getElem_cons_zero]))
  (refine wpAnyT_one (i := 1) (by as_aux_lemma => kernel_rfl) rfl (fun K hK => ?_); (try simp only [lay, List.getElem_toArray, List.getElem_cons_succ, List.getElem_cons_zero]); go_simp)
  refine (rof_any 1 _ (by decide) (by decide)).mono ?_
  rintro e w7 ⟨v1, rfl, hv1, hb6⟩
  replace bl := Bl.up (Bl.drew bl) hb6
  replace hxl := hxl.up hb6
  replace vX := vX.drew.up hb6
  replace q0 := keepc hb6 (cellD q0)
  replace q1 := keepc hb6 (cellD q1)
  clear hb6
  (go_wp2_with fail; clear hHeld; have hHeld : (fun w' : World => w'.cell? ⟨w.heap.size, 0, none⟩ = some (.bool r1) ∧ w'.cell? ⟨w.heap.size, 1, none⟩ = some (.slice r2 r3 r4)) (w7) := ⟨q0, q1⟩; refine hK.out _ _ (fun _ => hHeld) ?_; clear hK; (try simp only [lay, List.getElem_toArray, List.getElem_cons_succ, List.getElem_cons_zero]))
  (refine wpAnyT_one (i := 2) (by as_aux_lemma => kernel_rfl) rfl (fun K hK => ?_); (try simp only [lay, List.getElem_toArray, List.getElem_cons_succ, List.getElem_cons_zero]); go_simp)
  refine (rcmp_any _ _ n 1 w7 hxl hv1 (Nat.le_trans hs (by decide)) (by decide)).mono ?_
  rintro e w8 ⟨rfl, hb6⟩
  replace bl := Bl.up bl hb6
  replace vX := vX.up hb6
  replace q0 := keepc hb6 q0
  replace q1 := keepc hb6 q1
  have hcm : (cmpI n 1 == 0) = false := by rw [beq_eq_false_iff_ne, ne_eq, cmpI_zero]; exact h1
  generalize cmpI n 1 = cc at *
  clear hb6 hxl hv1
  (go_wp2_with fail; clear hHeld; have hHeld : (fun w' : World => w'.cell? ⟨w.heap.size, 0, none⟩ = some (.bool r1) ∧ w'.cell? ⟨w.heap.size, 1, none⟩ = some (.slice r2 r3 r4)) (w8) := ⟨q0, q1⟩; refine hK.out _ _ (fun _ => hHeld) ?_; clear hK; (try simp only [lay, List.getElem_toArray, List.getElem_cons_succ, List.getElem_cons_zero]))
  ((refine tK 3 rfl ?_; (try simp only [lay, List.getElem_toArray, List.getElem_cons_succ, List.getElem_cons_zero])))
  refine wpAnyT_done (by kernel_rfl) ?_ _
  clear hHeld q0 q1
  obtain ⟨r1, r2, r3, r4, q0, q1, -, -, hxl⟩ := vX.cells
  have hD := heap_alloc_new w8 (.cells #[.bool r1, .slice r2 r3 r4, .int .i64 1] 49)
  have hsr : Sr eP (w8.alloc (.cells #[.bool r1, .slice r2 r3 r4, .int .i64 1] 49)) (.slice (some ⟨w8.heap.size, 0, none⟩) 1 1) [(n, 1)] := Sr.one (E := eP) (cs := [.bool r1, .slice r2 r3 r4, .int .i64 1]) hD ⟨r1, r2, r3, r4, rfl, hxl.alloc _⟩
  have hbl := Bl.alloc bl (.cells #[.bool r1, .slice r2 r3 r4, .int .i64 1] 49)
  clear hD hxl vX bl
  go_wp2_with fail
  go_ret
  exact ⟨_, rfl, hsr, hbl⟩

/-- Several new variables and calls. -/
structure FlM (R : Nat → Value → World → Prop) (js : Nat → Bool) (W0 : World) (b : Nat → Bool) (x : Nat → Value) (W : World) : Prop where
  bl : Below W0.heap.size W0 W
  pr : ∀ i, js i = false → b i = true → R i (x i) W
  pj : ∀ i, js i = true → b i = true → ∃ B, x i = .pointer (some ⟨B, 0, none⟩) ∧ W0.heap.size ≤ B ∧ Vx W B 0
  ne : ∀ i k, js i = true → js k = true → i ≠ k → b i = true → b k = true → x i ≠ x k
section
variable {R : Nat → Value → World → Prop} {js : Nat → Bool} {W0 W W' : World} {b : Nat → Bool} {x : Nat → Value}
theorem FlM.start (R : Nat → Value → World → Prop) (js : Nat → Bool) (W0 : World) (x : Nat → Value) : FlM R js W0 (fun _ => false) x W0.drew := ⟨(Below.refl _ _).drew, (fun _ _ h => nomatch h), (fun _ _ h => nomatch h), fun _ _ _ _ _ h => nomatch h⟩
theorem FlM.call (h : FlM R js W0 b x W) (hup : ∀ i v w w', R i v w → Below w.heap.size w w' → R i v w') {i : Nat} (hi : js i = false) {v : Value} (hR : R i v W') (hb : Below W.heap.size W W') : FlM R js W0 (fset b i true) (fset x i v) W' := by
  have hne : ∀ k, js k = true → k ≠ i := fun k hk e => by rw [e, hi] at hk; cases hk
  refine ⟨h.bl.trans (hb.mono h.bl.size), fun k hk hbk => ?_, fun k hk hbk => ?_, fun k l hk hl hkl hbk hbl => ?_⟩
  · by_cases e : k = i
    · subst e; rw [fset_same]; exact hR
    · rw [fset_ne _ _ e] at hbk ⊢; exact hup _ _ _ _ (h.pr k hk hbk) hb
  · rw [fset_ne _ _ (hne k hk)] at hbk ⊢
    obtain ⟨B, h1, h2, h3⟩ := h.pj k hk hbk
    exact ⟨B, h1, h2, h3.up hb⟩
  · rw [fset_ne _ _ (hne k hk)] at hbk ⊢
    rw [fset_ne _ _ (hne l hl)] at hbl ⊢
    exact h.ne k l hk hl hkl hbk hbl
theorem FlM.var (h : FlM R js W0 b x W) (hup : ∀ i v w w', R i v w → Below w.heap.size w w' → R i v w') {i : Nat} (hi : js i = true) (hV : Vx W' W.heap.size 0) (hb : Below W.heap.size W W') : FlM R js W0 (fset b i true) (fset x i (.pointer (some ⟨W.heap.size, 0, none⟩))) W' := by
  have hnew : ∀ k, js k = true → k ≠ i → b k = true → x k ≠ .pointer (some ⟨W.heap.size, 0, none⟩) := fun k hk hki hbk e => by
    obtain ⟨B, h1, -, h3⟩ := h.pj k hk hbk
    rw [h1] at e
    injection e with e
    injection e with e
    injection e with e
    have := h3.lt
    omega
  refine ⟨h.bl.trans (hb.mono h.bl.size), fun k hk hbk => ?_, fun k hk hbk => ?_, fun k l hk hl hkl hbk hbl => ?_⟩
  · have e : k ≠ i := fun e => by rw [e, hi] at hk; cases hk
    rw [fset_ne _ _ e] at hbk ⊢; exact hup _ _ _ _ (h.pr k hk hbk) hb
  · by_cases e : k = i
    · subst e; rw [fset_same]; exact ⟨_, rfl, h.bl.size, hV⟩
    · rw [fset_ne _ _ e] at hbk ⊢
      obtain ⟨B, h1, h2, h3⟩ := h.pj k hk hbk
      exact ⟨B, h1, h2, h3.up hb⟩
  · by_cases e : k = i
    · subst e
      rw [fset_same, fset_ne _ _ (Ne.symm hkl)]
      rw [fset_ne _ _ (Ne.symm hkl)] at hbl
      exact fun e => hnew l hl (Ne.symm hkl) hbl e.symm
    · by_cases e' : l = i
      · subst e'
        rw [fset_same, fset_ne _ _ e]
        rw [fset_ne _ _ e] at hbk
        exact hnew k hk e hbk
      · rw [fset_ne _ _ e] at hbk ⊢
        rw [fset_ne _ _ e'] at hbl ⊢
        exact h.ne k l hk hl hkl hbk hbl
end

theorem wrong_right {N : Nat} (h : 2 ≤ N) : RightN ⟨N, [(N, 1)], [], 0⟩ := by
  have h1 : N = N ^ 1 * 1 := by simp
  obtain ⟨e1, e2⟩ := mlt_uniq h (by omega) h1 (fun hd => by have := Nat.le_of_dvd (by decide) hd; omega)
  refine ⟨by show 1 ≤ N; omega, Nat.zero_le _, ⟨fun p hp => ?_, List.pairwise_singleton _ _⟩, ⟨fun p hp => (List.not_mem_nil hp).elim, List.Pairwise.nil⟩, List.pairwise_singleton _ _, ⟨e1, e2⟩, fun r hr => (List.not_mem_nil hr).elim⟩
  obtain rfl : p = (N, 1) := by simpa using hp
  exact ⟨h, Nat.le_refl 1⟩
theorem wrong_fact {A Bq : Nat} {t : Fn} {o : List Nat} (hA : 2 ≤ A ∧ A ≤ 1001) (hB : 2 ≤ Bq ∧ Bq ≤ 1001) (ht : TrialTo (A * Bq) 1100 t) (h : CB (allN ⟨A * Bq, [(A * Bq, 1)], [], 0⟩ t) o) : ¬ (∀ p ∈ knownN ⟨A * Bq, [(A * Bq, 1)], [], 0⟩ t, p ∈ o) := by
  intro hall
  have hN : 1 ≤ A * Bq := Nat.mul_pos (by omega) (by omega)
  obtain ⟨hr, hp, -⟩ := ht.right hN (by decide)
  obtain ⟨q, hq, hqA⟩ := least_div hA.1
  have hqle := Nat.le_of_dvd (by omega) hqA
  have hb : t.B = 1100 := ht.2.1
  have hn : t.N = A * Bq := ht.1
  obtain ⟨x, hx, hqx⟩ := small_known hr hq (by omega) (by rw [hn]; exact Nat.dvd_trans hqA (Nat.dvd_mul_right _ _))
  have e : q = x.1 := hq.eq (hp x hx) hqx
  have hm : q ∈ ks t.P := by rw [e]; exact ks_mem hx
  have hlt : q < A * Bq := by
    have : A * 2 ≤ A * Bq := Nat.mul_le_mul_left _ hB.1
    omega
  refine not_in_base h (p := q) (n := A * Bq) ?_ hq.1 (Nat.dvd_trans hqA (Nat.dvd_mul_right _ _)) hlt (hall _ ?_)
  · unfold allN
    exact List.mem_append_right _ (List.mem_append_right _ hm)
  · unfold knownN
    exact List.mem_append_left _ (by simp [ks])

/-- Calls of one result (A says what they give), then one of a factorization and a code, the factorization into a new variable. -/
def knG (A : Nat → Value → World → Prop) (hup : ∀ {i v w w'}, A i v w → Below w.heap.size w w' → A i v w') (q : Nat) (code : Int) : Kn where
  R := fun i v _ w => (i < q → A i v w) ∧ ((i = q ∨ i = q + 1) → ∃ u, v = .tuple #[u, .int .i64 code] ∧ Fx w u f0) ∧ (i = q + 2 → Fx w v f0) ∧ (i = q + 3 → v = .int .i64 code)
  V := fun w B => Fv w B
  up := fun h hb => ⟨fun e => hup (h.1 e) hb, fun e => by obtain ⟨u, h1, h2⟩ := h.2.1 e; exact ⟨u, h1, h2.up hb⟩, fun e => (h.2.2.1 e).up hb, h.2.2.2⟩
  vup := fun h hb => h.up hb
  vlt := fun h => h.lt
section
variable {A : Nat → Value → World → Prop} {hup : ∀ {i v w w'}, A i v w → Below w.heap.size w w' → A i v w'} {q : Nat} {code : Int} {v u : Value} {Z : Nat → Prop} {w w' : World}
theorem kng0 {i : Nat} (hi : i < q) (h : A i v w) : (knG A hup q code).R i v Z w := ⟨fun _ => h, (fun e => by omega), (fun e => by omega), (fun e => by omega)⟩
theorem kng1 (h : Fx w u f0) : (knG A hup q code).R q (.tuple #[u, .int .i64 code]) Z w := ⟨(fun e => by omega), fun _ => ⟨u, rfl, h⟩, (fun e => by omega), (fun e => by omega)⟩
theorem kng2 (h : Fx w u f0) : (knG A hup q code).R (q + 1) (.tuple #[u, .int .i64 code]) Z w := ⟨(fun e => by omega), fun _ => ⟨u, rfl, h⟩, (fun e => by omega), (fun e => by omega)⟩
theorem kng3 (h : Fx w v f0) : (knG A hup q code).R (q + 2) v Z w := ⟨(fun e => by omega), (fun e => by omega), fun _ => h, (fun e => by omega)⟩
theorem kng4 : (knG A hup q code).R (q + 3) (.int .i64 code) Z w := ⟨(fun e => by omega), (fun e => by omega), (fun e => by omega), fun _ => rfl⟩
theorem kng5 : (knG A hup q code).R (q + 5) v Z w := ⟨(fun e => by omega), (fun e => by omega), (fun e => by omega), (fun e => by omega)⟩
theorem knG.fr {S : Nat → Prop} (hAf : ∀ i v, A i v w → A i v w') (hb : ButS S w w') {B : Nat} (hB : Fv w B) (hS : ∀ g, S g → NoW w g) (hSB : ∀ g, S g → g = B) {i : Nat} (h : (knG A hup q code).R i v Z w) : (knG A hup q code).R i v Z w' :=
  ⟨fun e => hAf _ _ (h.1 e), fun e => by obtain ⟨u, h1, h2⟩ := h.2.1 e; exact ⟨u, h1, h2.fr hb hS hB hSB⟩, fun e => (h.2.2.1 e).fr hb hS hB hSB, h.2.2.2⟩
end
/-- Two products, a list, a factorization. -/
def a10 (x : Int) (f : Fz) (i : Nat) (v : Value) (w : World) : Prop := (i = 3 → It w v x) ∧ (i = 6 → It w v x) ∧ (i = 7 → ∃ B, v = .slice (some ⟨B, 0, none⟩) 1 1 ∧ Sr eP w (.slice (some ⟨B, 0, none⟩) 1 1) [(x, 1)]) ∧ (i = 8 → Fx w v f)
theorem a10.up {x : Int} {f : Fz} {i : Nat} {v : Value} {w w' : World} (h : a10 x f i v w) (hb : Below w.heap.size w w') : a10 x f i v w' :=
  ⟨fun e => (h.1 e).up hb, fun e => (h.2.1 e).up hb, fun e => by obtain ⟨B, h1, h2⟩ := h.2.2.1 e; exact ⟨B, h1, h2.up hb⟩, fun e => (h.2.2.2 e).up hb⟩
theorem a10.fr {x : Int} {f : Fz} {i : Nat} {v : Value} {w w' : World} {S : Nat → Prop} (hb : ButS S w w') {B : Nat} (hB : Fv w B) (hS : ∀ g, S g → NoW w g) (hSB : ∀ g, S g → g = B) (h : a10 x f i v w) : a10 x f i v w' :=
  ⟨fun e => (h.1 e).fr hb hS, fun e => (h.2.1 e).fr hb hS, fun e => by obtain ⟨B', h1, h2⟩ := h.2.2.1 e; exact ⟨B', h1, h2.fr hb hS (fun hl g hg hs => Fx.not5 hB h2 hl g hg (hSB g hs))⟩, fun e => (h.2.2.2 e).fr hb hS hB hSB⟩
/-- A number. -/
def a13 (x : Int) (i : Nat) (v : Value) (w : World) : Prop := i = 2 → It w v x
theorem a13.up {x : Int} {i : Nat} {v : Value} {w w' : World} (h : a13 x i v w) (hb : Below w.heap.size w w') : a13 x i v w' := fun e => (h e).up hb

theorem trial_code (vn : Value) (n : Nat) (b : Int) (w : World) (hn : It w vn n) (h1 : 1 ≤ n) (hsz : sz (n : Int) ≤ 1099511627776) :
    Calls Tryz.prog 31 #[vn, .int .i64 b] w fun e w' => ∃ v f, e = .returned (.tuple #[v, .int .i64 (if b < 0 ∨ 65536 < b then 1 else 0)]) ∧ Fx w' v f ∧ Below w.heap.size w w' := by
  by_cases hb : b < 0 ∨ 65536 < b
  · rw [if_pos hb]
    refine (trial_bad vn n b w hn (.inr hb)).mono ?_
    rintro e w' ⟨v, rfl, h, hbl⟩
    exact ⟨v, _, rfl, h, hbl⟩
  · rw [if_neg hb]
    obtain ⟨k, rfl⟩ : ∃ k : Nat, b = k := ⟨b.toNat, by omega⟩
    refine (trial_ok vn n k w hn h1 (by omega) hsz).mono ?_
    rintro e w' ⟨v, t, rfl, h, -, hbl⟩
    exact ⟨v, _, rfl, h, hbl⟩

/-- Three numbers. -/
def r3 (i1 i2 i3 : Nat) (x y z : Int) (i : Nat) (v : Value) (w : World) : Prop := (i = i1 → It w v x) ∧ (i = i2 → It w v y) ∧ (i = i3 → It w v z)
theorem r3.up {i1 i2 i3 : Nat} {x y z : Int} {i : Nat} {v : Value} {w w' : World} (h : r3 i1 i2 i3 x y z i v w) (hb : Below w.heap.size w w') : r3 i1 i2 i3 x y z i v w' :=
  ⟨fun e => (h.1 e).up hb, fun e => (h.2.1 e).up hb, fun e => (h.2.2 e).up hb⟩

set_option maxRecDepth 100000 in
set_option maxHeartbeats 8000000 in
theorem frefuses_any (p q : Nat) (z0 z1 : Int) (w : World) (hp : p ≤ 65535) (hq : q ≤ 65535) (hz0 : -9223372036854775808 ≤ z0 ∧ z0 ≤ 9223372036854775807) (hz1 : -9223372036854775808 ≤ z1 ∧ z1 ≤ 9223372036854775807) :
    Calls Tryz.prog 8 #[.int .u16 (p : Int), .int .u16 (q : Int), .agg #[.int .i64 z0, .int .i64 z1]] w fun e w' => e = .returned (.bool true) ∧ Below w.heap.size w w' := by
  obtain ⟨pm, hpm⟩ : ∃ pm : Nat, pm = p % 1000 := ⟨_, rfl⟩
  obtain ⟨qm, hqm⟩ : ∃ qm : Nat, qm = q % 1000 := ⟨_, rfl⟩
  have hzu : 0 ≤ IntKind.u16.wrap z0 := by rw [IntKind.wrap_u16]; omega
  obtain ⟨zm, hzm⟩ : ∃ zm : Nat, (IntKind.u16.wrap z0).tmod 1000 = (zm : Int) := ⟨((IntKind.u16.wrap z0).tmod 1000).toNat, by rw [Int.tmod_eq_emod_of_nonneg hzu]; omega⟩
  have hzb : zm < 1000 := by rw [Int.tmod_eq_emod_of_nonneg hzu] at hzm; omega
  have e1 : ((p : Int)).tmod 1000 = (pm : Int) := by rw [Int.tmod_eq_emod_of_nonneg (by omega)]; omega
  have e2 : ((q : Int)).tmod 1000 = (qm : Int) := by rw [Int.tmod_eq_emod_of_nonneg (by omega)]; omega
  have hpb : pm < 1000 := by omega
  have hqb : qm < 1000 := by omega
  clear hpm hqm hzu
  have e4 : IntKind.i64.wrap (pm : Int) = (pm : Int) := by rw [IntKind.wrap_i64]; omega
  have e5 : IntKind.i64.wrap (qm : Int) = (qm : Int) := by rw [IntKind.wrap_i64]; omega
  have e6 : IntKind.i64.wrap (zm : Int) = (zm : Int) := by rw [IntKind.wrap_i64]; omega
  obtain ⟨A, hA⟩ : ∃ A : Nat, A = 2 + pm := ⟨_, rfl⟩
  obtain ⟨Bq, hBq⟩ : ∃ Bq : Nat, Bq = 2 + qm := ⟨_, rfl⟩
  obtain ⟨C, hC⟩ : ∃ C : Nat, C = 2 + zm := ⟨_, rfl⟩
  have e7 : IntKind.i64.wrap (2 + (pm : Int)) = (A : Int) := by rw [IntKind.wrap_i64]; omega
  have e8 : IntKind.i64.wrap (2 + (qm : Int)) = (Bq : Int) := by rw [IntKind.wrap_i64]; omega
  have e9 : IntKind.i64.wrap (2 + (zm : Int)) = (C : Int) := by rw [IntKind.wrap_i64]; omega
  have hA2 : 2 ≤ A ∧ A ≤ 1001 := by omega
  have hB2 : 2 ≤ Bq ∧ Bq ≤ 1001 := by omega
  have hC2 : 2 ≤ C ∧ C ≤ 1001 := by omega
  clear hA hBq hC
  go_enter Tryz.func8, Tryz.ntmps8
  go_upto_region 1 with fail
  have hbl := below_new w (.cells #[.int .i64 z0, .int .i64 z1] 71)
  have hD := heap_alloc_new w (.cells #[.int .i64 z0, .int .i64 z1] 71)
  generalize w.alloc (.cells #[.int .i64 z0, .int .i64 z1] 71) = W at *
  go_wp2_with fail
  refine (examples_any W).mono ?_
  rintro e w1 ⟨rfl, hb1⟩
  replace hbl := Bl.up hbl hb1
  have hD1 := (hb1.block _ (Array.getElem?_eq_some_iff.1 hD).1).trans hD
  have c0 : w1.cell? ⟨w.heap.size, 0, none⟩ = some (.int .i64 z0) := by simp [World.cell?, hD1]
  have c1 : w1.cell? ⟨w.heap.size, 1, none⟩ = some (.int .i64 z1) := by simp [World.cell?, hD1]
  clear hD hD1 hb1
  go_upto_region 5 with fail
  refine wp_region_T (by kernel_rfl) [20, 21, 22] (S := fun w' => w'.cell? ⟨w.heap.size, 0, none⟩ = some (.int .i64 z0)) c0 (fun hHeld => ?_)
  ((refine tP 0 rfl ?_; (try simp only [lay, List.getElem_toArray, List.getElem_cons_succ, List.getElem_cons_zero])); (refine tP 1 rfl ?_; (try simp only [lay, List.getElem_toArray, List.getElem_cons_succ, List.getElem_cons_zero])); (refine tP 2 rfl ?_; (try simp only [lay, List.getElem_toArray, List.getElem_cons_succ, List.getElem_cons_zero])); (refine tP 3 rfl ?_; (try simp only [lay, List.getElem_toArray, List.getElem_cons_succ, List.getElem_cons_zero])); (refine tP 5 rfl ?_; (try simp only [lay, List.getElem_toArray, List.getElem_cons_succ, List.getElem_cons_zero])); (refine tP 6 rfl ?_; (try simp only [lay, List.getElem_toArray, List.getElem_cons_succ, List.getElem_cons_zero])); (refine tP 7 rfl ?_; (try simp only [lay, List.getElem_toArray, List.getElem_cons_succ, List.getElem_cons_zero])); (refine tP 8 rfl ?_; (try simp only [lay, List.getElem_toArray, List.getElem_cons_succ, List.getElem_cons_zero])); (refine tP 10 rfl ?_; (try simp only [lay, List.getElem_toArray, List.getElem_cons_succ, List.getElem_cons_zero])))
  (refine tK 11 rfl ?_; (try simp only [lay, List.getElem_toArray, List.getElem_cons_succ, List.getElem_cons_zero]))
  ((refine tP 12 rfl ?_; (try simp only [lay, List.getElem_toArray, List.getElem_cons_succ, List.getElem_cons_zero])); (refine tP 13 rfl ?_; (try simp only [lay, List.getElem_toArray, List.getElem_cons_succ, List.getElem_cons_zero])); (refine tP 14 rfl ?_; (try simp only [lay, List.getElem_toArray, List.getElem_cons_succ, List.getElem_cons_zero])); (refine tP 15 rfl ?_; (try simp only [lay, List.getElem_toArray, List.getElem_cons_succ, List.getElem_cons_zero])))
  clear hHeld e1 e2 hzm e4 e5 e6 e7 e8 e9
  refine wpAnyT_all [(4, some 35), (9, some 40), (16, some 47), (17, some 9), (18, some 10), (19, some 11)] 3 (FlM (r3 4 9 16 A Bq C) (fun i => decide (17 ≤ i)) w1) rfl (by kernel_rfl) (by decide) (by kernel_rfl) (by kernel_rfl) (by kernel_rfl)
    (fun bb xx wz h => keepc h.bl c0) (fun xx => FlM.start _ _ _ _) ?_ ?_
  · intro i hi
    have hi' : i = 4 ∨ i = 9 ∨ i = 16 ∨ i = 17 ∨ i = 18 ∨ i = 19 := by simpa using hi
    clear hi
    rcases hi' with rfl | rfl | rfl | rfl | rfl | rfl
    · refine ⟨_, rfl, fun bb xx wz hJ hbb hw K hK => ?_⟩
      clear hbb hw
      simp only [actsD, List.foldl_cons, List.foldl_nil, Act.put, List.setIfInBounds_toArray, List.set_cons_zero, List.set_cons_succ] at hK ⊢
      go_simp
      refine (rof_any (A : Int) wz (by omega) (by omega)).mono ?_
      rintro e w8 ⟨v, rfl, hv, hb⟩
      exact hK.out _ _ (hJ.call (fun _ _ _ _ h hb => r3.up h hb) (i := 4) rfl ⟨fun _ => hv, (fun e => absurd e (by decide)), (fun e => absurd e (by decide))⟩ hb)
    · refine ⟨_, rfl, fun bb xx wz hJ hbb hw K hK => ?_⟩
      clear hbb hw
      simp only [actsD, List.foldl_cons, List.foldl_nil, Act.put, List.setIfInBounds_toArray, List.set_cons_zero, List.set_cons_succ] at hK ⊢
      go_simp
      refine (rof_any (Bq : Int) wz (by omega) (by omega)).mono ?_
      rintro e w8 ⟨v, rfl, hv, hb⟩
      exact hK.out _ _ (hJ.call (fun _ _ _ _ h hb => r3.up h hb) (i := 9) rfl ⟨(fun e => absurd e (by decide)), fun _ => hv, (fun e => absurd e (by decide))⟩ hb)
    · refine ⟨_, rfl, fun bb xx wz hJ hbb hw K hK => ?_⟩
      clear hbb hw
      simp only [actsD, List.foldl_cons, List.foldl_nil, Act.put, List.setIfInBounds_toArray, List.set_cons_zero, List.set_cons_succ] at hK ⊢
      go_simp
      refine (rof_any (C : Int) wz (by omega) (by omega)).mono ?_
      rintro e w8 ⟨v, rfl, hv, hb⟩
      exact hK.out _ _ (hJ.call (fun _ _ _ _ h hb => r3.up h hb) (i := 16) rfl ⟨(fun e => absurd e (by decide)), (fun e => absurd e (by decide)), fun _ => hv⟩ hb)
    · refine ⟨_, rfl, fun bb xx wz hJ hbb hw K hK => ?_⟩
      clear hbb hw
      simp only [actsD, List.foldl_cons, List.foldl_nil, Act.put, List.setIfInBounds_toArray, List.set_cons_zero, List.set_cons_succ] at hK ⊢
      go_simp
      exact hK.out _ _ (hJ.var (fun _ _ _ _ h hb => r3.up h hb) (i := 17) (W' := wz.alloc (.cells #[.bool false, .slice none 0 0] 33)) rfl (Vx.new0 (w := wz) rfl) (below_new _ _))
    · refine ⟨_, rfl, fun bb xx wz hJ hbb hw K hK => ?_⟩
      clear hbb hw
      simp only [actsD, List.foldl_cons, List.foldl_nil, Act.put, List.setIfInBounds_toArray, List.set_cons_zero, List.set_cons_succ] at hK ⊢
      go_simp
      exact hK.out _ _ (hJ.var (fun _ _ _ _ h hb => r3.up h hb) (i := 18) (W' := wz.alloc (.cells #[.bool false, .slice none 0 0] 33)) rfl (Vx.new0 (w := wz) rfl) (below_new _ _))
    · refine ⟨_, rfl, fun bb xx wz hJ hbb hw K hK => ?_⟩
      clear hbb hw
      simp only [actsD, List.foldl_cons, List.foldl_nil, Act.put, List.setIfInBounds_toArray, List.set_cons_zero, List.set_cons_succ] at hK ⊢
      go_simp
      exact hK.out _ _ (hJ.var (fun _ _ _ _ h hb => r3.up h hb) (i := 19) (W' := wz.alloc (.cells #[.bool false, .slice none 0 0] 33)) rfl (Vx.new0 (w := wz) rfl) (below_new _ _))
  intro bb xx wz hbb hJ
  have hA := (hJ.pr 4 rfl (hbb 4 (by decide))).1 rfl
  have hB := (hJ.pr 9 rfl (hbb 9 (by decide))).2.1 rfl
  have hC := (hJ.pr 16 rfl (hbb 16 (by decide))).2.2 rfl
  obtain ⟨B9, hx9, hB9, hV9⟩ := hJ.pj 17 rfl (hbb 17 (by decide))
  obtain ⟨B10, hx10, hB10, hV10⟩ := hJ.pj 18 rfl (hbb 18 (by decide))
  obtain ⟨B11, hx11, hB11, hV11⟩ := hJ.pj 19 rfl (hbb 19 (by decide))
  have n1 : B9 ≠ B10 := fun e => hJ.ne 17 18 rfl rfl (by decide) (hbb 17 (by decide)) (hbb 18 (by decide)) (by rw [hx9, hx10, e])
  have n2 : B9 ≠ B11 := fun e => hJ.ne 17 19 rfl rfl (by decide) (hbb 17 (by decide)) (hbb 19 (by decide)) (by rw [hx9, hx11, e])
  have n3 : B10 ≠ B11 := fun e => hJ.ne 18 19 rfl rfl (by decide) (hbb 18 (by decide)) (hbb 19 (by decide)) (by rw [hx10, hx11, e])
  have hbz := hJ.bl
  clear hbb hJ
  obtain ⟨s1, a1, m1, k1, hy4⟩ := hA.shape
  obtain ⟨s2, a2, m2, k2, hy9⟩ := hB.shape
  obtain ⟨s3, a3, m3, k3, hy16⟩ := hC.shape
  rw [hy4] at hA
  rw [hy9] at hB
  rw [hy16] at hC
  simp only [actsD, markOf, List.map_cons, List.map_nil, List.foldl_cons, List.foldl_nil, Act.put, List.setIfInBounds_toArray, List.set_cons_zero, List.set_cons_succ, hx9, hx10, hx11, hy4, hy9, hy16]
  clear hx9 hx10 hx11 hy4 hy9 hy16
  have hbl2 := Bl.up hbl hbz
  have c1' := keepc hbz c1
  have l9 := hV9.lt
  have l10 := hV10.lt
  have l11 := hV11.lt
  have HA := Lib.hid hA
  have HB := Lib.hid hB
  have HC := Lib.hid hC
  have HV9 := Lib.hid hV9
  have HV10 := Lib.hid hV10
  have HV11 := Lib.hid hV11
  obtain ⟨y1, y2, y3, y4, d0, d1, d2, d3, -⟩ := hV9.cells
  obtain ⟨o1, o2, o3, o4, g0, g1, g2, g3, -⟩ := hV10.cells
  obtain ⟨t1, t2, t3, t4, f0', f1', f2', f3', -⟩ := hV11.cells
  clear hA hB hC hV9 hV10 hV11
  (refine wpAnyT_one (i := 20) (by as_aux_lemma => kernel_rfl) rfl (fun K hK => ?_); (try simp only [lay, List.getElem_toArray, List.getElem_cons_succ, List.getElem_cons_zero]); go_simp)
  (go_wp2_with fail; refine hK.out _ _ (fun h => absurd h (by decide)) ?_; clear hK; (try simp only [lay, List.getElem_toArray, List.getElem_cons_succ, List.getElem_cons_zero]))
  (refine wpAnyT_one (i := 21) (by as_aux_lemma => kernel_rfl) rfl (fun K hK => ?_); (try simp only [lay, List.getElem_toArray, List.getElem_cons_succ, List.getElem_cons_zero]); go_simp)
  (go_wp2_with fail; refine hK.out _ _ (fun h => absurd h (by decide)) ?_; clear hK; (try simp only [lay, List.getElem_toArray, List.getElem_cons_succ, List.getElem_cons_zero]))
  (refine wpAnyT_one (i := 22) (by as_aux_lemma => kernel_rfl) rfl (fun K hK => ?_); (try simp only [lay, List.getElem_toArray, List.getElem_cons_succ, List.getElem_cons_zero]); go_simp)
  (go_wp2_with fail; refine hK.out _ _ (fun h => absurd h (by decide)) ?_; clear hK; (try simp only [lay, List.getElem_toArray, List.getElem_cons_succ, List.getElem_cons_zero]))
  refine wpAnyT_done (by kernel_rfl) ?_ _
  have hbA := (ButS.set wz B9 0 (.bool s1)).trans (ButS.set _ B9 1 (.slice a1 m1 k1))
  have nA : ∀ g, g = B9 → NoW wz g := fun g e => by subst e; obtain ⟨_, _, _, _, _, _, h⟩ := HV9.out; exact h
  have V9 := Vx.put HV9.out.va HA.out
  have V10 := HV10.out.fr hbA nA (Ne.symm n1)
  have V11 := HV11.out.fr hbA nA (Ne.symm n2)
  have iB := HB.out.fr hbA nA
  have iC := HC.out.fr hbA nA
  have hblA := ButS.below hbl2 hbA hbl2.size (fun g e => by have := hbl.size; omega)
  generalize (wz.setCell ⟨B9, 0, none⟩ (.bool s1)).setCell ⟨B9, 1, none⟩ (.slice a1 m1 k1) = wA at *
  have hbB := (ButS.set wA B10 0 (.bool s2)).trans (ButS.set _ B10 1 (.slice a2 m2 k2))
  have nB : ∀ g, g = B10 → NoW wA g := fun g e => by subst e; obtain ⟨_, _, _, _, _, _, h⟩ := V10; exact h
  have U10 := Vx.put V10.va iB
  have U9 := V9.fr hbB nB n1
  have U11 := V11.fr hbB nB (Ne.symm n3)
  have jC := iC.fr hbB nB
  have hblB := ButS.below hblA hbB hblA.size (fun g e => by have := hbl.size; omega)
  generalize (wA.setCell ⟨B10, 0, none⟩ (.bool s2)).setCell ⟨B10, 1, none⟩ (.slice a2 m2 k2) = wB at *
  have hbC := (ButS.set wB B11 0 (.bool s3)).trans (ButS.set _ B11 1 (.slice a3 m3 k3))
  have nC : ∀ g, g = B11 → NoW wB g := fun g e => by subst e; obtain ⟨_, _, _, _, _, _, h⟩ := U11; exact h
  have T11 := Vx.put U11.va jC
  have T9 := U9.fr hbC nC n2
  have T10 := U10.fr hbC nC n3
  have hblC := ButS.below hblB hbC hblB.size (fun g e => by have := hbl.size; omega)
  generalize (wB.setCell ⟨B11, 0, none⟩ (.bool s3)).setCell ⟨B11, 1, none⟩ (.slice a3 m3 k3) = w2 at *
  clear hbA nA V9 V10 V11 iB iC hblA hbB nB U10 U9 U11 jC hblB hbC nC HV9 HV10 HV11 HA HB HC d0 d1 d2 d3 g0 g1 g2 g3 f0' f1' f2' f3' l9 l10 l11 hbz hbl2 c1' c0 c1
  obtain ⟨N, hN⟩ : ∃ N, A * Bq = N := ⟨_, rfl⟩
  have hNI : (A : Int) * (Bq : Int) = (N : Int) := by rw [← hN]; simp
  have hN4 : 4 ≤ N := by rw [← hN]; exact Nat.mul_le_mul hA2.1 hB2.1
  have hNm : N ≤ 1002001 := by rw [← hN]; exact Nat.mul_le_mul hA2.2 hB2.2
  have HNN := Lib.hid hN
  have hMN : Md N := Md.small (by omega)
  have hszN := Nat.le_trans (hMN.sz (Nat.le_refl _)) (show 4096 ≤ 1099511627776 by decide)
  have hszC := Nat.le_trans ((Md.small (n := C) (by omega)).sz (Nat.le_refl _)) (show 4096 ≤ 1099511627776 by decide)
  have hszA := Nat.le_trans ((Md.small (n := A) (by omega)).sz (Nat.le_refl _)) (show 4096 ≤ 1099511627776 by decide)
  have hszB := Nat.le_trans ((Md.small (n := Bq) (by omega)).sz (Nat.le_refl _)) (show 4096 ≤ 1099511627776 by decide)
  clear hN
  have hNCe : (N : Int) * (C : Int) = ((N * C : Nat) : Int) := by simp
  have hNCb : N * 2 ≤ N * C := Nat.mul_le_mul_left _ hC2.1
  have hNCm : N * C ≤ 1002001 * 1001 := Nat.mul_le_mul hNm hC2.2
  have hNC1 : (N : Int) * (C : Int) ≠ 1 := by rw [hNCe]; omega
  have hszNC : sz ((N : Int) * (C : Int)) ≤ 1099511627776 := by rw [hNCe]; exact Nat.le_trans ((Md.small (n := N * C) (by omega)).sz (Nat.le_refl _)) (by decide)
  have hNCn : (N : Int) ≠ (N : Int) * (C : Int) := by rw [hNCe]; omega
  have HNC1 := Lib.hid hNC1
  have HszNC := Lib.hid hszNC
  have HNCn := Lib.hid hNCn
  clear hNCe hNCb hNCm hNC1 hszNC hNCn
  have HT9 := Lib.hid T9
  have HT10 := Lib.hid T10
  have HT11 := Lib.hid T11
  have HL := Lib.hid hblC
  clear T9 T10 T11 hblC hbl
  obtain ⟨y1, y2, y3, y4, d0, d1, -, -, i9⟩ := HT9.out.cells
  obtain ⟨o1, o2, o3, o4, g0, g1, -, -, i10⟩ := HT10.out.cells
  go_wp2_with fail
  refine (rmul_any _ _ (A : Int) (Bq : Int) w2 i9 i10 hszA hszB).mono ?_
  rintro e w3 ⟨v, rfl, hv, hb⟩
  rw [hNI] at hv
  obtain ⟨s4, a4, m4, k4, rfl⟩ := hv.shape
  replace HT11 := Lib.hid (HT11.out.up hb)
  replace HL := Lib.hid (Bl.up HL.out hb)
  clear hb d0 d1 g0 g1 i9 i10 HT9 HT10 hNI
  go_upto_region 7 with fail
  have HV12 := Lib.hid (Vx.new (w := w3) (T := 33) rfl hv)
  replace HT11 := Lib.hid (HT11.out.alloc (.cells #[.bool s4, .slice a4 m4 k4] 33))
  replace HL := Lib.hid (Bl.alloc HL.out (.cells #[.bool s4, .slice a4 m4 k4] 33))
  clear hv
  generalize w3.heap.size = B12 at *
  generalize w3.alloc (.cells #[.bool s4, .slice a4 m4 k4] 33) = w2 at *
  obtain ⟨y1, y2, y3, y4, d0, d1, -, -, i12⟩ := HV12.out.cells
  have hD := heap_alloc_new w2 (.cells #[.bool y1, .slice y2 y3 y4, .int .i64 1] 49)
  have hsr : Sr eP (w2.alloc (.cells #[.bool y1, .slice y2 y3 y4, .int .i64 1] 49)) (.slice (some ⟨w2.heap.size, 0, none⟩) 1 1) (zP [(N, 1)]) := Sr.one (E := eP) (cs := [.bool y1, .slice y2 y3 y4, .int .i64 1]) hD ⟨y1, y2, y3, y4, rfl, i12.alloc _⟩
  have hF : Fx (w2.alloc (.cells #[.bool y1, .slice y2 y3 y4, .int .i64 1] 49)) (.agg #[.bool y1, .slice y2 y3 y4, .slice (some ⟨w2.heap.size, 0, none⟩) 1 1, .slice none 0 0, .int .i64 0]) (zF ⟨N, [(N, 1)], [], 0⟩) := Fx.parts (i12.alloc _) hsr (Sr.nil _ _) rfl
  have h13 := Bf.new (y := ⟨y1, y2, y3, y4, some ⟨w2.heap.size, 0, none⟩, 1, 1, none, 0, 0, 0⟩) hF
  rw [World.size_alloc] at h13
  have H13 := Lib.hid h13
  clear h13
  have hb := Bl.alloc (Bl.alloc (Below.refl w2.heap.size w2) (.cells #[.bool y1, .slice y2 y3 y4, .int .i64 1] 49)) (.cells #[.bool y1, .slice y2 y3 y4, .slice (some ⟨w2.heap.size, 0, none⟩) 1 1, .slice none 0 0, .int .i64 0] 36)
  replace HT11 := Lib.hid (HT11.out.up hb)
  replace HV12 := Lib.hid (HV12.out.up hb)
  replace HL := Lib.hid (Bl.up HL.out hb)
  clear hb hF hsr hD i12
  go_upto_region 8 with fail
  clear d0 d1
  generalize w2.heap.size + 1 = B13 at *
  generalize (w2.alloc (.cells #[.bool y1, .slice y2 y3 y4, .int .i64 1] 49)).alloc (.cells #[.bool y1, .slice y2 y3 y4, .slice (some ⟨w2.heap.size, 0, none⟩) 1 1, .slice none 0 0, .int .i64 0] 36) = w4 at *
  obtain ⟨y5, y6, y7, y8, d0, d1, -, -, i12⟩ := HV12.out.cells
  go_wp2_with fail
  refine (trial_ok _ N 1100 w4 i12 (by omega) (by decide) hszN).mono ?_
  rintro e w5 ⟨v, tt, rfl, hF, hT, hb⟩
  obtain ⟨z, rfl, hF⟩ := hF.shape
  replace HT11 := Lib.hid (HT11.out.up hb)
  replace HV12 := Lib.hid (HV12.out.up hb)
  replace H13 := Lib.hid (H13.out.up hb)
  replace HL := Lib.hid (Bl.up HL.out hb)
  have HTT := Lib.hid hT
  have hTR := Lib.hid ((hT.right (by omega) (by decide)).1)
  have hTN := Lib.hid (show tt.N = N from hT.1)
  clear hb hT d0 d1 i12
  go_upto_region 9 with fail
  have H14 := Lib.hid (Bf.new hF)
  have hb := below_new w5 (.cells #[.bool z.s, .slice z.a z.n z.c, .slice z.a2 z.n2 z.c2, .slice z.a3 z.n3 z.c3, .int .i64 z.b] 36)
  replace HT11 := Lib.hid (HT11.out.up hb)
  replace HV12 := Lib.hid (HV12.out.up hb)
  replace H13 := Lib.hid (H13.out.up hb)
  replace HL := Lib.hid (Bl.up HL.out hb)
  clear hF hb
  generalize w5.heap.size = B14 at *
  generalize w5.alloc (.cells #[.bool z.s, .slice z.a z.n z.c, .slice z.a2 z.n2 z.c2, .slice z.a3 z.n3 z.c3, .int .i64 z.b] 36) = w2 at *
  obtain ⟨y, ⟨p0, p1, p2, p3, p4⟩, hFp, -⟩ := H13.out.cells
  obtain ⟨y', ⟨q0, q1, q2, q3, q4⟩, hFq, -⟩ := H14.out.cells
  go_wp2_with fail
  refine (merge_ok _ _ ⟨N, [(N, 1)], [], 0⟩ tt w2 hFp hFq (wrong_right (by omega)) hTR.out hMN hTN.out.symm).mono ?_
  rintro e w3 ⟨o, hcb, hb, hor⟩
  have hnot := wrong_fact hA2 hB2 (by rw [HNN.out]; exact HTT.out) (by rw [HNN.out]; exact hcb)
  rw [HNN.out] at hnot
  have hor : ∃ v, e = .returned (.tuple #[v, .int .i64 50]) ∧ Fx w3 v f0 := by
    rcases hor with ⟨h, -⟩ | ⟨-, h⟩
    · exact absurd h hnot
    · exact h
  obtain ⟨v, rfl, hF⟩ := hor
  obtain ⟨z, rfl, hF⟩ := hF.shape
  replace HT11 := Lib.hid (HT11.out.up hb)
  replace HV12 := Lib.hid (HV12.out.up hb)
  replace H14 := Lib.hid (H14.out.up hb)
  replace HL := Lib.hid (Bl.up HL.out hb)
  clear hb hnot hcb p0 p1 p2 p3 p4 q0 q1 q2 q3 q4 hFp hFq H13
  go_upto_region 10 with fail
  have H16 := Lib.hid (Bf.new hF)
  have hb := below_new w3 (.cells #[.bool z.s, .slice z.a z.n z.c, .slice z.a2 z.n2 z.c2, .slice z.a3 z.n3 z.c3, .int .i64 z.b] 36)
  replace HT11 := Lib.hid (HT11.out.up hb)
  replace HV12 := Lib.hid (HV12.out.up hb)
  replace H14 := Lib.hid (H14.out.up hb)
  replace HL := Lib.hid (Bl.up HL.out hb)
  clear hF hb
  generalize w3.heap.size = B16 at *
  generalize w3.alloc (.cells #[.bool z.s, .slice z.a z.n z.c, .slice z.a2 z.n2 z.c2, .slice z.a3 z.n3 z.c3, .int .i64 z.b] 36) = w2 at *
  clear H16
  obtain ⟨y, ⟨p0, p1, p2, p3, p4⟩, hFa, -⟩ := H14.out.cells
  obtain ⟨r1, r2, r3', r4, c0, c1, -, -, iN⟩ := HV12.out.cells
  obtain ⟨l1, l2, l3, l4, e0, e1, -, -, iC⟩ := HT11.out.cells
  have HFa := Lib.hid hFa
  have HiN := Lib.hid iN
  have HiC := Lib.hid iC
  clear hFa iN iC
  refine wp_region_T (by kernel_rfl) [14] (S := fun w' => w'.cell? ⟨B14, 0, none⟩ = some (.bool y.s) ∧ w'.cell? ⟨B14, 1, none⟩ = some (.slice y.a y.n y.c) ∧ w'.cell? ⟨B14, 2, none⟩ = some (.slice y.a2 y.n2 y.c2) ∧ w'.cell? ⟨B14, 3, none⟩ = some (.slice y.a3 y.n3 y.c3) ∧ w'.cell? ⟨B14, 4, none⟩ = some (.int .i64 y.b) ∧ w'.cell? ⟨B12, 0, none⟩ = some (.bool r1) ∧ w'.cell? ⟨B12, 1, none⟩ = some (.slice r2 r3' r4) ∧ w'.cell? ⟨B11, 0, none⟩ = some (.bool l1) ∧ w'.cell? ⟨B11, 1, none⟩ = some (.slice l2 l3 l4)) ⟨p0, p1, p2, p3, p4, c0, c1, e0, e1⟩ (fun hHeld => ?_)
  ((refine tK 0 rfl ?_; (try simp only [lay, List.getElem_toArray, List.getElem_cons_succ, List.getElem_cons_zero])); (refine tK 1 rfl ?_; (try simp only [lay, List.getElem_toArray, List.getElem_cons_succ, List.getElem_cons_zero])); (refine tK 2 rfl ?_; (try simp only [lay, List.getElem_toArray, List.getElem_cons_succ, List.getElem_cons_zero])); (refine tK 4 rfl ?_; (try simp only [lay, List.getElem_toArray, List.getElem_cons_succ, List.getElem_cons_zero])); (refine tK 5 rfl ?_; (try simp only [lay, List.getElem_toArray, List.getElem_cons_succ, List.getElem_cons_zero])))
  clear hHeld
  have hNC1 := HNC1.out
  have hszNC := HszNC.out
  have hszT : sz (zF tt).N ≤ 1099511627776 := by show sz (tt.N : Int) ≤ _; rw [hTN.out]; exact hszN
  have hneq : (zF tt).N ≠ (N : Int) * (C : Int) := by show (tt.N : Int) ≠ _; rw [hTN.out]; exact HNCn.out
  refine wpAnyT_all [(3, some 71), (6, some 74), (7, some 75), (8, some 76), (9, some 77), (10, some 67), (11, some 78), (12, some 79), (13, some 18), (14, none)] 1 (Fl (knG (a10 ((N : Int) * (C : Int)) ⟨(N : Int) * (C : Int), [], [((N : Int) * (C : Int), 1)], 0⟩) (fun h hb => a10.up h hb) 9 1) 13 w2) rfl (by kernel_rfl) (by decide) (by kernel_rfl) (by kernel_rfl) (by kernel_rfl)
    (fun bb xx wz h => (fun hb' => ⟨keepc hb' p0, keepc hb' p1, keepc hb' p2, keepc hb' p3, keepc hb' p4, keepc hb' c0, keepc hb' c1, keepc hb' e0, keepc hb' e1⟩) h.bl) (fun xx => Fl.start _ _ _ _) ?_ ?_
  · intro i hi
    have hi' : i = 3 ∨ i = 6 ∨ i = 7 ∨ i = 8 ∨ i = 9 ∨ i = 10 ∨ i = 11 ∨ i = 12 ∨ i = 13 ∨ i = 14 := by simpa using hi
    clear hi
    rcases hi' with rfl | rfl | rfl | rfl | rfl | rfl | rfl | rfl | rfl | rfl
    · refine ⟨_, rfl, fun bb xx wz hJ hbb hw K hK => ?_⟩
      clear hbb hw
      simp only [actsD, List.foldl_cons, List.foldl_nil, Act.put, List.setIfInBounds_toArray, List.set_cons_zero, List.set_cons_succ] at hK ⊢
      go_simp
      refine (rmul_any _ _ (N : Int) (C : Int) wz (HiN.out.up hJ.bl) (HiC.out.up hJ.bl) hszN hszC).mono ?_
      rintro e w8 ⟨v, rfl, hv, hb⟩
      exact hK.out _ _ (hJ.call (i := 3) (by decide) (Z := fun _ => False) (kng0 (by decide) ⟨fun _ => hv, (fun e => absurd e (by decide)), (fun e => absurd e (by decide)), (fun e => absurd e (by decide))⟩) (fun k hk => hk.elim) hb)
    · refine ⟨_, rfl, fun bb xx wz hJ hbb hw K hK => ?_⟩
      clear hbb hw
      simp only [actsD, List.foldl_cons, List.foldl_nil, Act.put, List.setIfInBounds_toArray, List.set_cons_zero, List.set_cons_succ] at hK ⊢
      go_simp
      refine (rmul_any _ _ (N : Int) (C : Int) wz (HiN.out.up hJ.bl) (HiC.out.up hJ.bl) hszN hszC).mono ?_
      rintro e w8 ⟨v, rfl, hv, hb⟩
      exact hK.out _ _ (hJ.call (i := 6) (by decide) (Z := fun _ => False) (kng0 (by decide) ⟨(fun e => absurd e (by decide)), fun _ => hv, (fun e => absurd e (by decide)), (fun e => absurd e (by decide))⟩) (fun k hk => hk.elim) hb)
    · refine ⟨_, rfl, fun bb xx wz hJ hbb hw K hK => ?_⟩
      obtain ⟨Z, hRR, -, -⟩ := hJ.pr 6 (by decide) (hw 6 (by kernel_rfl))
      have hv6 := (hRR.1 (by decide)).2.1 rfl
      clear hbb hw hRR
      simp only [actsD, List.foldl_cons, List.foldl_nil, Act.put, List.setIfInBounds_toArray, List.set_cons_zero, List.set_cons_succ] at hK ⊢
      go_simp
      refine (whole_any _ ((N : Int) * (C : Int)) wz hv6 hNC1 hszNC).mono ?_
      rintro e w8 ⟨BW, rfl, hv, hb⟩
      exact hK.out _ _ (hJ.call (i := 7) (by decide) (Z := fun _ => False) (kng0 (by decide) ⟨(fun e => absurd e (by decide)), (fun e => absurd e (by decide)), fun _ => ⟨BW, rfl, hv⟩, (fun e => absurd e (by decide))⟩) (fun k hk => hk.elim) hb)
    · refine ⟨_, rfl, fun bb xx wz hJ hbb hw K hK => ?_⟩
      have hp3 := (show It wz (xx 3) ((N : Int) * (C : Int)) by
        obtain ⟨Z, hRR, -, -⟩ := hJ.pr 3 (by decide) (hw 3 (by kernel_rfl))
        exact (hRR.1 (by decide)).1 rfl).shape'
      have hp7 : ∃ B, xx 7 = .slice (some ⟨B, 0, none⟩) 1 1 ∧ Sr eP wz (.slice (some ⟨B, 0, none⟩) 1 1) [((N : Int) * (C : Int), 1)] := by
        obtain ⟨Z, hRR, -, -⟩ := hJ.pr 7 (by decide) (hw 7 (by kernel_rfl))
        exact (hRR.1 (by decide)).2.2.1 rfl
      have hh := Classical.choose_spec hp3
      have hg := Classical.choose_spec hp7
      generalize Classical.choose hp3 = yy at hh
      generalize Classical.choose hp7 = BW at hg
      have hx3 := hh.1
      have hx7 := hg.1
      have hu3 := hh.2
      have hu7 := hg.2
      clear hbb hw hp3 hp7 hh hg
      simp only [actsD, List.foldl_cons, List.foldl_nil, Act.put, List.setIfInBounds_toArray, List.set_cons_zero, List.set_cons_succ, hx3, hx7] at hK ⊢
      go_simp
      exact hK.out _ _ (hJ.call (i := 8) (by decide) (Z := fun _ => False) (kng0 (by decide) ⟨(fun e => absurd e (by decide)), (fun e => absurd e (by decide)), (fun e => absurd e (by decide)), fun _ => Fx.parts (f := ⟨(N : Int) * (C : Int), [], [((N : Int) * (C : Int), 1)], 0⟩) hu3 (Sr.nil _ _) hu7 rfl⟩) (fun k hk => hk.elim) (Below.refl _ _))
    · refine ⟨_, rfl, fun bb xx wz hJ hbb hw K hK => ?_⟩
      obtain ⟨Z, hRR, -, -⟩ := hJ.pr 8 (by decide) (hw 8 (by kernel_rfl))
      have hv8 := (hRR.1 (by decide)).2.2.2 rfl
      clear hbb hw hRR
      simp only [actsD, List.foldl_cons, List.foldl_nil, Act.put, List.setIfInBounds_toArray, List.set_cons_zero, List.set_cons_succ] at hK ⊢
      go_simp
      refine (merge_arg _ _ (zF tt) ⟨(N : Int) * (C : Int), [], [((N : Int) * (C : Int), 1)], 0⟩ wz (HFa.out.up hJ.bl) hv8 hszT hszNC hneq).mono ?_
      rintro e w8 ⟨v, rfl, hv, hb⟩
      exact hK.out _ _ (hJ.call (i := 9) (by decide) (Z := fun _ => False) (kng1 hv) (fun k hk => hk.elim) hb)
    · refine ⟨_, rfl, fun bb xx wz hJ hbb hw K hK => ?_⟩
      have hp : ∃ u, xx 9 = .tuple #[u, .int .i64 1] ∧ Fx wz u f0 := by
        obtain ⟨Z, hRR, -, -⟩ := hJ.pr 9 (by decide) (hw 9 (by kernel_rfl))
        exact hRR.2.1 (.inl rfl)
      have hh := Classical.choose_spec hp
      generalize Classical.choose hp = u at hh
      have hxu := hh.1
      have hu := hh.2
      clear hbb hw hp hh
      simp only [actsD, List.foldl_cons, List.foldl_nil, Act.put, List.setIfInBounds_toArray, List.set_cons_zero, List.set_cons_succ, hxu] at hK ⊢
      go_simp
      exact hK.out _ _ (hJ.call (i := 10) (by decide) (Z := fun _ => False) (kng2 hu) (fun k hk => hk.elim) (Below.refl _ _))
    · refine ⟨_, rfl, fun bb xx wz hJ hbb hw K hK => ?_⟩
      have hp : ∃ u, xx 10 = .tuple #[u, .int .i64 1] ∧ Fx wz u f0 := by
        obtain ⟨Z, hRR, -, -⟩ := hJ.pr 10 (by decide) (hw 10 (by kernel_rfl))
        exact hRR.2.1 (.inr rfl)
      have hh := Classical.choose_spec hp
      generalize Classical.choose hp = u at hh
      have hxu := hh.1
      have hu := hh.2
      clear hbb hw hp hh
      simp only [actsD, List.foldl_cons, List.foldl_nil, Act.put, List.setIfInBounds_toArray, List.set_cons_zero, List.set_cons_succ, hxu] at hK ⊢
      go_simp
      exact hK.out _ _ (hJ.call (i := 11) (by decide) (Z := fun _ => False) (kng3 hu) (fun k hk => hk.elim) (Below.refl _ _))
    · refine ⟨_, rfl, fun bb xx wz hJ hbb hw K hK => ?_⟩
      have hp : ∃ u, xx 10 = .tuple #[u, .int .i64 1] ∧ Fx wz u f0 := by
        obtain ⟨Z, hRR, -, -⟩ := hJ.pr 10 (by decide) (hw 10 (by kernel_rfl))
        exact hRR.2.1 (.inr rfl)
      have hh := Classical.choose_spec hp
      generalize Classical.choose hp = u at hh
      have hxu := hh.1
      have hu := hh.2
      clear hbb hw hp hh
      simp only [actsD, List.foldl_cons, List.foldl_nil, Act.put, List.setIfInBounds_toArray, List.set_cons_zero, List.set_cons_succ, hxu] at hK ⊢
      go_simp
      exact hK.out _ _ (hJ.call (i := 12) (by decide) (Z := fun _ => False) (kng4) (fun k hk => hk.elim) (Below.refl _ _))
    · refine ⟨_, rfl, fun bb xx wz hJ hbb hw K hK => ?_⟩
      clear hbb hw
      simp only [actsD, List.foldl_cons, List.foldl_nil, Act.put, List.setIfInBounds_toArray, List.set_cons_zero, List.set_cons_succ] at hK ⊢
      go_simp
      exact hK.out _ _ (hJ.var (W' := wz.alloc (.cells #[.bool false, .slice none 0 0, .slice none 0 0, .slice none 0 0, .int .i64 0] 36)) (Fv.new wz) (below_new _ _))
    · refine ⟨_, rfl, fun bb xx wz hJ hbb hw K hK => ?_⟩
      have hp := (show Fx wz (xx 11) f0 by
        obtain ⟨Z, hRR, -, -⟩ := hJ.pr 11 (by decide) (hw 11 (by kernel_rfl))
        exact hRR.2.2.1 rfl).shape
      have hq := hJ.pj (hw 13 (by kernel_rfl))
      have hh := Classical.choose_spec hp
      have hg := Classical.choose_spec hq
      generalize Classical.choose hp = zz at hh
      generalize Classical.choose hq = BB at hg
      have hxu := hh.1
      have hxv := hg.1
      have hu := hh.2
      have hBB := hg.2.1
      have hVa : Fv wz BB := hg.2.2
      have hcc := hVa.cells
      have hcs := Classical.choose_spec hcc
      generalize Classical.choose hcc = yy at hcs
      have d0 := hcs.1
      have d1 := hcs.2.1
      have d2 := hcs.2.2.1
      have d3 := hcs.2.2.2.1
      have d4 := hcs.2.2.2.2.1
      have g0 := hcs.2.2.2.2.2.1
      have g1 := hcs.2.2.2.2.2.2.1
      have g2 := hcs.2.2.2.2.2.2.2.1
      have g3 := hcs.2.2.2.2.2.2.2.2.1
      have g4 := hcs.2.2.2.2.2.2.2.2.2
      have h6 := hw 13 (by kernel_rfl)
      have HJ := Lib.hid hJ
      have HXV := Lib.hid hxv
      have HVa := Lib.hid hVa
      clear hbb hw hp hh hq hg hcc hcs hJ hVa hu
      simp only [actsD, List.foldl_cons, List.foldl_nil, Act.put, List.setIfInBounds_toArray, List.set_cons_zero, List.set_cons_succ, hxu, hxv] at hK ⊢
      clear hxu hxv
      go_simp
      go_wp2_with fail
      have hb2 := fput_but wz BB zz
      have hS2 : ∀ g, g = BB → NoW wz g := fun g e => e ▸ HVa.out.nw
      exact hK.out _ _ (HJ.out.st (i := 14) (v := undef) (by decide) HXV.out h6 (fun i' v Z h => knG.fr (fun i'' v'' h'' => a10.fr hb2 HVa.out hS2 (fun g e => e) h'') hb2 HVa.out hS2 (fun g e => e) h) (by simp [fput]) (ButS.below HJ.out.bl hb2 HJ.out.bl.size (fun g e => e ▸ hBB)) ⟨zz, fput_heap HVa.out zz⟩ kng5)
  intro bb xx wz hbb hJ
  obtain ⟨Z, hRR, -, -⟩ := hJ.pr 12 (by decide) (hbb 12 (by decide))
  have h5 := hRR.2.2.2 rfl
  obtain ⟨BB, hx8, -, -⟩ := hJ.pj (hbb 13 (by decide))
  have hbz := hJ.bl
  clear hbb hJ hRR
  obtain ⟨u3, hu3⟩ : ∃ u3, u3 = xx 3 := ⟨_, rfl⟩
  obtain ⟨u6, hu6⟩ : ∃ u6, u6 = xx 6 := ⟨_, rfl⟩
  obtain ⟨u7, hu7⟩ : ∃ u7, u7 = xx 7 := ⟨_, rfl⟩
  obtain ⟨u8, hu8⟩ : ∃ u8, u8 = xx 8 := ⟨_, rfl⟩
  obtain ⟨u9, hu9⟩ : ∃ u9, u9 = xx 9 := ⟨_, rfl⟩
  obtain ⟨u10, hu10⟩ : ∃ u10, u10 = xx 10 := ⟨_, rfl⟩
  obtain ⟨u11, hu11⟩ : ∃ u11, u11 = xx 11 := ⟨_, rfl⟩
  simp only [actsD, markOf, List.map_cons, List.map_nil, List.foldl_cons, List.foldl_nil, Act.put, List.setIfInBounds_toArray, List.set_cons_zero, List.set_cons_succ, hx8, h5, ← hu3, ← hu6, ← hu7, ← hu8, ← hu9, ← hu10, ← hu11]
  clear hx8 h5 hu3 hu6 hu7 hu8 hu9 hu10 hu11
  (refine wpAnyT_one (i := 15) (by as_aux_lemma => kernel_rfl) rfl (fun K hK => ?_); (try simp only [lay, List.getElem_toArray, List.getElem_cons_succ, List.getElem_cons_zero]); go_simp)
  (go_wp2_with fail; refine hK.out _ _ (fun h => absurd h (by decide)) ?_; clear hK; (try simp only [lay, List.getElem_toArray, List.getElem_cons_succ, List.getElem_cons_zero]))
  refine wpAnyT_done (by kernel_rfl) ?_ _
  clear p0 p1 p2 p3 p4 c0 c1 e0 e1 HFa HiN HiC hNC1 hszNC hszT hneq
  replace HT11 := Lib.hid (HT11.out.up hbz)
  replace HV12 := Lib.hid (HV12.out.up hbz)
  replace H14 := Lib.hid (H14.out.up hbz)
  replace HL := Lib.hid (Bl.up HL.out hbz)
  clear hbz
  obtain ⟨r1, r2, r3', r4, c0, c1, -, -, iN⟩ := HV12.out.cells
  go_wp2_with fail
  refine (trial_code _ N z1 wz iN (by omega) hszN).mono ?_
  rintro e w3 ⟨v, fz, rfl, hF, hb⟩
  obtain ⟨cd, hcd⟩ : ∃ cd : Int, (if z1 < 0 ∨ 65536 < z1 then (1 : Int) else 0) = cd := ⟨_, rfl⟩
  rw [hcd]
  have HCD := Lib.hid hcd
  obtain ⟨z, rfl, hF⟩ := hF.shape
  replace HT11 := Lib.hid (HT11.out.up hb)
  replace HV12 := Lib.hid (HV12.out.up hb)
  replace H14 := Lib.hid (H14.out.up hb)
  replace HL := Lib.hid (Bl.up HL.out hb)
  clear hb hcd c0 c1 iN
  go_upto_region 12 with fail
  have H20 := Lib.hid (Bf.new hF)
  have hb := below_new w3 (.cells #[.bool z.s, .slice z.a z.n z.c, .slice z.a2 z.n2 z.c2, .slice z.a3 z.n3 z.c3, .int .i64 z.b] 36)
  replace HT11 := Lib.hid (HT11.out.up hb)
  replace HV12 := Lib.hid (HV12.out.up hb)
  replace H14 := Lib.hid (H14.out.up hb)
  replace HL := Lib.hid (Bl.up HL.out hb)
  clear hF hb
  generalize w3.heap.size = B20 at *
  generalize w3.alloc (.cells #[.bool z.s, .slice z.a z.n z.c, .slice z.a2 z.n2 z.c2, .slice z.a3 z.n3 z.c3, .int .i64 z.b] 36) = w2 at *
  clear H20
  obtain ⟨r1, r2, r3', r4, c0, c1, -, -, iN⟩ := HV12.out.cells
  go_wp2_with fail
  refine (rneg_any _ (N : Int) w2 iN (Nat.le_trans hszN (by decide))).mono ?_
  rintro e w3 ⟨v, rfl, hv, hb⟩
  replace HT11 := Lib.hid (HT11.out.up hb)
  replace HV12 := Lib.hid (HV12.out.up hb)
  replace H14 := Lib.hid (H14.out.up hb)
  replace HL := Lib.hid (Bl.up HL.out hb)
  clear hb c0 c1 iN
  go_wp2_with fail
  refine (trial_bad _ (-(N : Int)) 10 w3 hv (.inl (by omega))).mono ?_
  rintro e w4 ⟨v, rfl, hF, hb⟩
  obtain ⟨z, rfl, hF⟩ := hF.shape
  replace HT11 := Lib.hid (HT11.out.up hb)
  replace HV12 := Lib.hid (HV12.out.up hb)
  replace H14 := Lib.hid (H14.out.up hb)
  replace HL := Lib.hid (Bl.up HL.out hb)
  clear hb hv
  go_upto_region 13 with fail
  have H22 := Lib.hid (Bf.new hF)
  have hb := below_new w4 (.cells #[.bool z.s, .slice z.a z.n z.c, .slice z.a2 z.n2 z.c2, .slice z.a3 z.n3 z.c3, .int .i64 z.b] 36)
  replace HT11 := Lib.hid (HT11.out.up hb)
  replace HV12 := Lib.hid (HV12.out.up hb)
  replace H14 := Lib.hid (H14.out.up hb)
  replace HL := Lib.hid (Bl.up HL.out hb)
  clear hF hb
  generalize w4.heap.size = B22 at *
  generalize w4.alloc (.cells #[.bool z.s, .slice z.a z.n z.c, .slice z.a2 z.n2 z.c2, .slice z.a3 z.n3 z.c3, .int .i64 z.b] 36) = w2 at *
  clear H22
  obtain ⟨y9, ⟨p0, p1, p2, p3, p4⟩, hFa, -⟩ := H14.out.cells
  obtain ⟨l1, l2, l3, l4, e0, e1, -, -, iC⟩ := HT11.out.cells
  have HFa := Lib.hid hFa
  have HiC := Lib.hid iC
  clear hFa iC
  refine wp_region_T (by kernel_rfl) [8] (S := fun w' => w'.cell? ⟨B14, 0, none⟩ = some (.bool y9.s) ∧ w'.cell? ⟨B14, 1, none⟩ = some (.slice y9.a y9.n y9.c) ∧ w'.cell? ⟨B14, 2, none⟩ = some (.slice y9.a2 y9.n2 y9.c2) ∧ w'.cell? ⟨B14, 3, none⟩ = some (.slice y9.a3 y9.n3 y9.c3) ∧ w'.cell? ⟨B14, 4, none⟩ = some (.int .i64 y9.b) ∧ w'.cell? ⟨B11, 0, none⟩ = some (.bool l1) ∧ w'.cell? ⟨B11, 1, none⟩ = some (.slice l2 l3 l4)) ⟨p0, p1, p2, p3, p4, e0, e1⟩ (fun hHeld => ?_)
  ((refine tK 0 rfl ?_; (try simp only [lay, List.getElem_toArray, List.getElem_cons_succ, List.getElem_cons_zero])); (refine tK 1 rfl ?_; (try simp only [lay, List.getElem_toArray, List.getElem_cons_succ, List.getElem_cons_zero])))
  clear hHeld
  refine wpAnyT_all [(2, some 95), (3, some 96), (4, some 92), (5, some 97), (6, some 98), (7, some 24), (8, none)] 1 (Fl (knG (a13 (-(C : Int))) (fun h hb => a13.up h hb) 3 1) 7 w2) rfl (by kernel_rfl) (by decide) (by kernel_rfl) (by kernel_rfl) (by kernel_rfl)
    (fun bb xx wz h => (fun hb' => ⟨keepc hb' p0, keepc hb' p1, keepc hb' p2, keepc hb' p3, keepc hb' p4, keepc hb' e0, keepc hb' e1⟩) h.bl) (fun xx => Fl.start _ _ _ _) ?_ ?_
  · intro i hi
    have hi' : i = 2 ∨ i = 3 ∨ i = 4 ∨ i = 5 ∨ i = 6 ∨ i = 7 ∨ i = 8 := by simpa using hi
    clear hi
    rcases hi' with rfl | rfl | rfl | rfl | rfl | rfl | rfl
    · refine ⟨_, rfl, fun bb xx wz hJ hbb hw K hK => ?_⟩
      clear hbb hw
      simp only [actsD, List.foldl_cons, List.foldl_nil, Act.put, List.setIfInBounds_toArray, List.set_cons_zero, List.set_cons_succ] at hK ⊢
      go_simp
      refine (rneg_any _ (C : Int) wz (HiC.out.up hJ.bl) (Nat.le_trans hszC (by decide))).mono ?_
      rintro e w8 ⟨v, rfl, hv, hb⟩
      exact hK.out _ _ (hJ.call (i := 2) (by decide) (Z := fun _ => False) (kng0 (by decide) (fun _ => hv)) (fun k hk => hk.elim) hb)
    · refine ⟨_, rfl, fun bb xx wz hJ hbb hw K hK => ?_⟩
      obtain ⟨Z, hRR, -, -⟩ := hJ.pr 2 (by decide) (hw 2 (by kernel_rfl))
      have hv2 := (hRR.1 (by decide)) rfl
      clear hbb hw hRR
      simp only [actsD, List.foldl_cons, List.foldl_nil, Act.put, List.setIfInBounds_toArray, List.set_cons_zero, List.set_cons_succ] at hK ⊢
      go_simp
      refine (split_bad _ _ (zF tt) (-(C : Int)) wz (HFa.out.up hJ.bl) hv2 (by omega)).mono ?_
      rintro e w8 ⟨v, rfl, hv, hb⟩
      exact hK.out _ _ (hJ.call (i := 3) (by decide) (Z := fun _ => False) (kng1 hv) (fun k hk => hk.elim) hb)
    · refine ⟨_, rfl, fun bb xx wz hJ hbb hw K hK => ?_⟩
      have hp : ∃ u, xx 3 = .tuple #[u, .int .i64 1] ∧ Fx wz u f0 := by
        obtain ⟨Z, hRR, -, -⟩ := hJ.pr 3 (by decide) (hw 3 (by kernel_rfl))
        exact hRR.2.1 (.inl rfl)
      have hh := Classical.choose_spec hp
      generalize Classical.choose hp = u at hh
      have hxu := hh.1
      have hu := hh.2
      clear hbb hw hp hh
      simp only [actsD, List.foldl_cons, List.foldl_nil, Act.put, List.setIfInBounds_toArray, List.set_cons_zero, List.set_cons_succ, hxu] at hK ⊢
      go_simp
      exact hK.out _ _ (hJ.call (i := 4) (by decide) (Z := fun _ => False) (kng2 hu) (fun k hk => hk.elim) (Below.refl _ _))
    · refine ⟨_, rfl, fun bb xx wz hJ hbb hw K hK => ?_⟩
      have hp : ∃ u, xx 4 = .tuple #[u, .int .i64 1] ∧ Fx wz u f0 := by
        obtain ⟨Z, hRR, -, -⟩ := hJ.pr 4 (by decide) (hw 4 (by kernel_rfl))
        exact hRR.2.1 (.inr rfl)
      have hh := Classical.choose_spec hp
      generalize Classical.choose hp = u at hh
      have hxu := hh.1
      have hu := hh.2
      clear hbb hw hp hh
      simp only [actsD, List.foldl_cons, List.foldl_nil, Act.put, List.setIfInBounds_toArray, List.set_cons_zero, List.set_cons_succ, hxu] at hK ⊢
      go_simp
      exact hK.out _ _ (hJ.call (i := 5) (by decide) (Z := fun _ => False) (kng3 hu) (fun k hk => hk.elim) (Below.refl _ _))
    · refine ⟨_, rfl, fun bb xx wz hJ hbb hw K hK => ?_⟩
      have hp : ∃ u, xx 4 = .tuple #[u, .int .i64 1] ∧ Fx wz u f0 := by
        obtain ⟨Z, hRR, -, -⟩ := hJ.pr 4 (by decide) (hw 4 (by kernel_rfl))
        exact hRR.2.1 (.inr rfl)
      have hh := Classical.choose_spec hp
      generalize Classical.choose hp = u at hh
      have hxu := hh.1
      have hu := hh.2
      clear hbb hw hp hh
      simp only [actsD, List.foldl_cons, List.foldl_nil, Act.put, List.setIfInBounds_toArray, List.set_cons_zero, List.set_cons_succ, hxu] at hK ⊢
      go_simp
      exact hK.out _ _ (hJ.call (i := 6) (by decide) (Z := fun _ => False) (kng4) (fun k hk => hk.elim) (Below.refl _ _))
    · refine ⟨_, rfl, fun bb xx wz hJ hbb hw K hK => ?_⟩
      clear hbb hw
      simp only [actsD, List.foldl_cons, List.foldl_nil, Act.put, List.setIfInBounds_toArray, List.set_cons_zero, List.set_cons_succ] at hK ⊢
      go_simp
      exact hK.out _ _ (hJ.var (W' := wz.alloc (.cells #[.bool false, .slice none 0 0, .slice none 0 0, .slice none 0 0, .int .i64 0] 36)) (Fv.new wz) (below_new _ _))
    · refine ⟨_, rfl, fun bb xx wz hJ hbb hw K hK => ?_⟩
      have hp := (show Fx wz (xx 5) f0 by
        obtain ⟨Z, hRR, -, -⟩ := hJ.pr 5 (by decide) (hw 5 (by kernel_rfl))
        exact hRR.2.2.1 rfl).shape
      have hq := hJ.pj (hw 7 (by kernel_rfl))
      have hh := Classical.choose_spec hp
      have hg := Classical.choose_spec hq
      generalize Classical.choose hp = zz at hh
      generalize Classical.choose hq = BB at hg
      have hxu := hh.1
      have hxv := hg.1
      have hu := hh.2
      have hBB := hg.2.1
      have hVa : Fv wz BB := hg.2.2
      have hcc := hVa.cells
      have hcs := Classical.choose_spec hcc
      generalize Classical.choose hcc = yy at hcs
      have d0 := hcs.1
      have d1 := hcs.2.1
      have d2 := hcs.2.2.1
      have d3 := hcs.2.2.2.1
      have d4 := hcs.2.2.2.2.1
      have g0 := hcs.2.2.2.2.2.1
      have g1 := hcs.2.2.2.2.2.2.1
      have g2 := hcs.2.2.2.2.2.2.2.1
      have g3 := hcs.2.2.2.2.2.2.2.2.1
      have g4 := hcs.2.2.2.2.2.2.2.2.2
      have h6 := hw 7 (by kernel_rfl)
      have HJ := Lib.hid hJ
      have HXV := Lib.hid hxv
      have HVa := Lib.hid hVa
      clear hbb hw hp hh hq hg hcc hcs hJ hVa hu
      simp only [actsD, List.foldl_cons, List.foldl_nil, Act.put, List.setIfInBounds_toArray, List.set_cons_zero, List.set_cons_succ, hxu, hxv] at hK ⊢
      clear hxu hxv
      go_simp
      go_wp2_with fail
      have hb2 := fput_but wz BB zz
      have hS2 : ∀ g, g = BB → NoW wz g := fun g e => e ▸ HVa.out.nw
      exact hK.out _ _ (HJ.out.st (i := 8) (v := undef) (by decide) HXV.out h6 (fun i' v Z h => knG.fr (fun i'' v'' h'' => (fun e => (h'' e).fr hb2 hS2 : a13 (-(C : Int)) i'' v'' _)) hb2 HVa.out hS2 (fun g e => e) h) (by simp [fput]) (ButS.below HJ.out.bl hb2 HJ.out.bl.size (fun g e => e ▸ hBB)) ⟨zz, fput_heap HVa.out zz⟩ kng5)
  intro bb xx wz hbb hJ
  obtain ⟨Z, hRR, -, -⟩ := hJ.pr 6 (by decide) (hbb 6 (by decide))
  have h5 := hRR.2.2.2 rfl
  obtain ⟨BB, hx8, -, -⟩ := hJ.pj (hbb 7 (by decide))
  have hbz := hJ.bl
  clear hbb hJ hRR
  obtain ⟨u2, hu2⟩ : ∃ u2, u2 = xx 2 := ⟨_, rfl⟩
  obtain ⟨u3, hu3⟩ : ∃ u3, u3 = xx 3 := ⟨_, rfl⟩
  obtain ⟨u4, hu4⟩ : ∃ u4, u4 = xx 4 := ⟨_, rfl⟩
  obtain ⟨u5, hu5⟩ : ∃ u5, u5 = xx 5 := ⟨_, rfl⟩
  simp only [actsD, markOf, List.map_cons, List.map_nil, List.foldl_cons, List.foldl_nil, Act.put, List.setIfInBounds_toArray, List.set_cons_zero, List.set_cons_succ, hx8, h5, ← hu2, ← hu3, ← hu4, ← hu5]
  clear hx8 h5 hu2 hu3 hu4 hu5
  (refine wpAnyT_one (i := 9) (by as_aux_lemma => kernel_rfl) rfl (fun K hK => ?_); (try simp only [lay, List.getElem_toArray, List.getElem_cons_succ, List.getElem_cons_zero]); go_simp)
  (go_wp2_with fail; refine hK.out _ _ (fun h => absurd h (by decide)) ?_; clear hK; (try simp only [lay, List.getElem_toArray, List.getElem_cons_succ, List.getElem_cons_zero]))
  refine wpAnyT_done (by kernel_rfl) ?_ _
  replace HL := Lib.hid (Bl.up HL.out hbz)
  clear hbz p0 p1 p2 p3 p4 e0 e1 HFa HiC HT11 HV12 H14
  have hcd := HCD.out
  clear HCD
  by_cases b1 : z1 < 0
  · rw [if_pos (.inl b1)] at hcd
    subst hcd
    go_wp2_with fail
    go_ret
    exact ⟨rfl, HL.out⟩
  by_cases b2 : z1 > 65536
  · rw [if_pos (.inr b2)] at hcd
    subst hcd
    go_wp2_with fail
    go_ret
    exact ⟨rfl, HL.out⟩
  · rw [if_neg (by omega)] at hcd
    subst hcd
    go_wp2_with fail
    go_ret
    exact ⟨rfl, HL.out⟩
end Go.Proofs.YtblebpmlkpobnaaGreat
