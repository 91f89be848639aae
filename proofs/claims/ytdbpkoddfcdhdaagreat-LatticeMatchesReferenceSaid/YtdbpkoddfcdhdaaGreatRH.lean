/-
  Combinations of rows: their sizes, and the lattice. Contracts for LatticeSolves.
  A region in which several operations may come up in many orders: one step for each operation, none for each order. No program.
-/
import Derived.Test.YtdbpkoddfcdhdaaGreatPV
import Derived.Test.YtdbpkoddfcdhdaaGreatRG
import Derived.Test.YtdbpkoddfcdhdaaGreatQD
import Derived.Test.YtdbpkoddfcdhdaaGreatPH
set_option linter.unusedSimpArgs false
set_option linter.unusedVariables false

namespace Go.Proofs.YtdbpkoddfcdhdaaGreat
open Go.RowKit

theorem bt16 {x : Int} (h : -32768 ≤ x ∧ x ≤ 32767) : Bt x 17 := by
  unfold Bt
  have : x.natAbs ≤ 32768 := by omega
  omega
theorem combR_bt {m : List (List Int)} {c : List Int} {n C E : Nat} (hc : ∀ k, Bt (c.getD k 0) C) (hm : ∀ j k, Bt (en m j k) E) (t k : Nat) : Bt ((combR m c n t).getD k 0) (C + E + t) := by
  by_cases hk : k < n
  · rw [combR_at m c n t k hk]
    exact Bt.sum fun i _ => (hc i).mul2 (hm i k)
  · have : (combR m c n t).getD k 0 = 0 := by
      rw [List.getD_eq_getElem?_getD, List.getElem?_eq_none (by rw [combR_len]; omega)]; rfl
    rw [this]; exact Bt.zero
theorem comb_lat {m : List (List Int)} {c : List Int} {R n : Nat} : Lat R n (en m) (fun k => (combR m c n R).getD k 0) := ⟨fun i => c.getD i 0, fun k hk => combR_at m c n R k hk⟩
theorem comb_eq {m : List (List Int)} {s l : List Int} {R n : Nat} (hl : l.length = n) (h : ∀ k, k < n → l.getD k 0 = sumN R fun j => s.getD j 0 * en m j k) : combR m s n R = l :=
  row_ext (by rw [combR_len, hl]) fun k hk => by
    rw [combR_len] at hk
    rw [combR_at m s n R k hk, h k hk]
theorem list4_bt {c0 c1 c2 c3 : Int} {E : Nat} (h0 : Bt c0 E) (h1 : Bt c1 E) (h2 : Bt c2 E) (h3 : Bt c3 E) (k : Nat) : Bt (([c0, c1, c2, c3] : List Int).getD k 0) E := by
  rcases k with _ | _ | _ | _ | k
  · exact h0
  · exact h1
  · exact h2
  · exact h3
  · simp; exact Bt.zero
theorem gB9 {R : Nat} (hR : R ≤ 4) : (∀ r, r ≤ R → gB R 9 r ≤ 1000000000000) ∧ 30 + R * (gB R 9 R + 1) ≤ 4398046511104 := by
  have : R = 0 ∨ R = 1 ∨ R = 2 ∨ R = 3 ∨ R = 4 := by omega
  rcases this with rfl | rfl | rfl | rfl | rfl <;> refine ⟨fun r hr => ?_, by simp [gB]⟩
  all_goals
    have : r = 0 ∨ r = 1 ∨ r = 2 ∨ r = 3 ∨ r = 4 := by omega
    rcases this with rfl | rfl | rfl | rfl | rfl <;> first | omega | simp [gB]

theorem comb4_g {R n : Nat} {m : List (List Int)} {c0 c1 c2 c3 : Int} (va vb : Value) (w : World) (ha : Mx w va m) (hb : Rw w vb [c0, c1, c2, c3]) (hs : Shape R n m) (hR : R ≤ 4) (hn : n ≤ 4) (hbm : ∀ j k, Bt (en m j k) 9)
    (g0 : -32768 ≤ c0 ∧ c0 ≤ 32767) (g1 : -32768 ≤ c1 ∧ c1 ≤ 32767) (g2 : -32768 ≤ c2 ∧ c2 ≤ 32767) (g3 : -32768 ≤ c3 ∧ c3 ≤ 32767) :
    Calls Tryz.prog 18 #[va, vb, .int .i64 (n : Int)] w fun e w' => ∃ v, e = .returned v ∧ Rw w' v (combR m [c0, c1, c2, c3] n R) ∧ Below w.heap.size w w' := by
  have hbc := list4_bt (bt16 g0) (bt16 g1) (bt16 g2) (bt16 g3)
  have h1 := fun i => sz30 (hbc i) (by decide)
  have h2 : ∀ i k, sz ((m.getD i []).getD k 0) ≤ 1073741824 := fun i k => sz30 (hbm i k) (by decide)
  have hC := combined_any va vb m [c0, c1, c2, c3] n w ha hb (by omega) (by rw [hs.1]; omega) (by simp) (fun i hi => by rw [hs.2 i (by rw [← hs.1]; exact hi)]; exact Nat.le_refl _)
    (fun i => Nat.le_trans (h1 i) (by decide)) (fun i k => Nat.le_trans (h2 i k) (by decide)) (fun t ht k => Nat.le_trans (combR_sz m [c0, c1, c2, c3] n _ _ h1 h2 t k) (by rw [hs.1] at ht; omega))
  rw [hs.1, show min R ([c0, c1, c2, c3] : List Int).length = R from by simp; omega] at hC
  exact hC
end Go.Proofs.YtdbpkoddfcdhdaaGreat

namespace Go.Proofs.YtdbpkoddfcdhdaaGreat

def fset {α : Type} (f : Nat → α) (i : Nat) (v : α) : Nat → α := fun j => if j = i then v else f j
theorem fset_same {α : Type} (f : Nat → α) (i : Nat) (v : α) : fset f i v i = v := if_pos rfl
theorem fset_ne {α : Type} (f : Nat → α) {i j : Nat} (v : α) (h : j ≠ i) : fset f i v j = f j := if_neg h

def dstAt (ops : Array Oper) (i : Nat) : Option Tmp := (ops[i]?).bind (·.dst)
def actsOf (ops : Array Oper) (ids : List Nat) (x : Nat → Value) (a : Act) : Act := ids.foldl (fun a i => a.put (dstAt ops i) (x i)) a
def markOf (ids : List Nat) (b : Nat → Bool) (L : Array Bool) : Array Bool := ids.foldl (fun l i => l.setIfInBounds i (b i)) L

theorem markOf_get (b : Nat → Bool) : ∀ (ids : List Nat) (L : Array Bool) (j : Nat), (markOf ids b L)[j]? = if j ∈ ids ∧ j < L.size then some (b j) else L[j]?
  | [], L, j => by simp [markOf]
  | i :: ids, L, j => by
    show (markOf ids b (L.setIfInBounds i (b i)))[j]? = _
    rw [markOf_get b ids, Array.getElem?_setIfInBounds, Array.size_setIfInBounds]
    by_cases h2 : j < L.size
    · by_cases h1 : j ∈ ids
      · rw [if_pos ⟨h1, h2⟩, if_pos ⟨List.mem_cons_of_mem _ h1, h2⟩]
      · rw [if_neg (fun h => h1 h.1)]
        by_cases e : i = j
        · subst e
          rw [if_pos rfl, if_pos h2, if_pos ⟨List.mem_cons_self, h2⟩]
        · rw [if_neg e, if_neg (fun h => (List.mem_cons.1 h.1).elim (fun h => e h.symm) h1)]
    · have e1 : L[j]? = none := Array.getElem?_eq_none (by omega)
      simp [e1, h2]
      intro e; omega
theorem markOf_size (b : Nat → Bool) : ∀ (ids : List Nat) (L : Array Bool), (markOf ids b L).size = L.size
  | [], _ => rfl
  | i :: ids, L => (markOf_size b ids _).trans (by simp)
theorem markOf_in {ids : List Nat} {b : Nat → Bool} {L : Array Bool} {j : Nat} (h : j ∈ ids) (hl : j < L.size) (d : Bool) : (markOf ids b L).getD j d = b j := by
  rw [Array.getD_eq_getD_getElem?, markOf_get, if_pos ⟨h, hl⟩]; rfl
theorem markOf_out {ids : List Nat} {b : Nat → Bool} {L : Array Bool} {j : Nat} (h : j ∉ ids) (d : Bool) : (markOf ids b L).getD j d = L.getD j d := by
  rw [Array.getD_eq_getD_getElem?, Array.getD_eq_getD_getElem?, markOf_get, if_neg (fun hh => h hh.1)]
theorem markOf_set {ids : List Nat} {b : Nat → Bool} {L : Array Bool} {i : Nat} (h : i ∈ ids) : (markOf ids b L).setIfInBounds i true = markOf ids (fset b i true) L := by
  apply Array.ext_getElem?
  intro j
  rw [Array.getElem?_setIfInBounds, markOf_get, markOf_get, markOf_size]
  by_cases e : i = j
  · subst e
    rw [if_pos rfl, fset_same]
    by_cases h2 : i < L.size
    · rw [if_pos h2, if_pos ⟨h, h2⟩]
    · rw [if_neg h2, if_neg (fun h => h2 h.2), Array.getElem?_eq_none (by omega)]
  · rw [if_neg e, fset_ne _ _ (fun h => e h.symm)]
theorem markOf_congr {ids : List Nat} {b b' : Nat → Bool} (h : ∀ i ∈ ids, b i = b' i) (L : Array Bool) : markOf ids b L = markOf ids b' L := by
  apply Array.ext_getElem?
  intro j
  rw [markOf_get, markOf_get]
  by_cases e : j ∈ ids ∧ j < L.size
  · rw [if_pos e, if_pos e, h j e.1]
  · rw [if_neg e, if_neg e]
theorem markOf_none {ids : List Nat} {L : Array Bool} (h : ∀ i ∈ ids, L.getD i true = false) : markOf ids (fun _ => false) L = L := by
  apply Array.ext_getElem?
  intro j
  rw [markOf_get]
  by_cases e : j ∈ ids ∧ j < L.size
  · rw [if_pos e]
    have := h j e.1
    rw [Array.getD_eq_getD_getElem?, Array.getElem?_eq_getElem e.2] at this
    rw [Array.getElem?_eq_getElem e.2]
    simpa using this.symm
  · rw [if_neg e]

theorem put_comm (a : Act) (d e : Option Tmp) (u v : Value) (h : d.isNone = true ∨ e.isNone = true ∨ d ≠ e) : (a.put d u).put e v = (a.put e v).put d u := by
  cases d with
  | none => rfl
  | some d => cases e with
    | none => rfl
    | some e =>
      have hne : d ≠ e := fun hh => by
        rcases h with h | h | h
        · cases h
        · cases h
        · exact h (by rw [hh])
      simp only [Act.put]
      rw [Array.setIfInBounds_comm _ _ hne]
theorem put_put (a : Act) (d : Option Tmp) (u v : Value) : (a.put d u).put d v = a.put d v := by
  cases d with
  | none => rfl
  | some d => simp [Act.put]
theorem put_self (a : Act) (d : Option Tmp) : ∃ v, a.put d v = a := by
  cases d with
  | none => exact ⟨undef, rfl⟩
  | some d =>
    refine ⟨a.tmps.getD d undef, ?_⟩
    have e : a.tmps.setIfInBounds d (a.tmps.getD d undef) = a.tmps := by
      apply Array.ext_getElem?
      intro j
      rw [Array.getElem?_setIfInBounds]
      by_cases h : d = j
      · subst h
        rw [if_pos rfl]
        by_cases h2 : d < a.tmps.size
        · rw [if_pos h2, Array.getD_eq_getD_getElem?, Array.getElem?_eq_getElem h2]; rfl
        · rw [if_neg h2, Array.getElem?_eq_none (Nat.le_of_not_lt h2)]
      · rw [if_neg h]
    show ({ a with tmps := a.tmps.setIfInBounds d (a.tmps.getD d undef) } : Act) = a
    rw [e]

/-- The operations of ids put their values into different slots. -/
def distB (ops : Array Oper) (ids : List Nat) : Bool := ids.all fun i => ids.all fun j => i == j || (dstAt ops i).isNone || (dstAt ops j).isNone || dstAt ops i != dstAt ops j
theorem distB_spec {ops : Array Oper} {ids : List Nat} (h : distB ops ids = true) {i j : Nat} (hi : i ∈ ids) (hj : j ∈ ids) (hne : i ≠ j) : (dstAt ops i).isNone = true ∨ (dstAt ops j).isNone = true ∨ dstAt ops i ≠ dstAt ops j := by
  have := List.all_eq_true.1 (List.all_eq_true.1 h i hi) j hj
  simp only [Bool.or_eq_true, beq_iff_eq, bne_iff_ne] at this
  rcases this with ((h | h) | h) | h
  · exact absurd h hne
  · exact .inl h
  · exact .inr (.inl h)
  · exact .inr (.inr h)

theorem actsOf_put (ops : Array Oper) (x : Nat → Value) (i : Nat) (v : Value) : ∀ (ids : List Nat) (a : Act), (∀ j ∈ ids, (dstAt ops j).isNone = true ∨ (dstAt ops i).isNone = true ∨ dstAt ops j ≠ dstAt ops i) → (actsOf ops ids x a).put (dstAt ops i) v = actsOf ops ids x (a.put (dstAt ops i) v)
  | [], _, _ => rfl
  | j :: ids, a, h => by
    show (actsOf ops ids x (a.put (dstAt ops j) (x j))).put _ _ = actsOf ops ids x ((a.put _ _).put (dstAt ops j) (x j))
    rw [actsOf_put ops x i v ids _ (fun k hk => h k (List.mem_cons_of_mem _ hk)), put_comm _ _ _ _ _ (h j List.mem_cons_self)]
theorem actsOf_congr (ops : Array Oper) {x y : Nat → Value} : ∀ (ids : List Nat) (a : Act), (∀ j ∈ ids, x j = y j) → actsOf ops ids x a = actsOf ops ids y a
  | [], _, _ => rfl
  | j :: ids, a, h => by
    show actsOf ops ids x (a.put _ (x j)) = actsOf ops ids y (a.put _ (y j))
    rw [h j List.mem_cons_self, actsOf_congr ops ids _ (fun k hk => h k (List.mem_cons_of_mem _ hk))]
theorem actsOf_set (ops : Array Oper) (x : Nat → Value) (i : Nat) (v : Value) : ∀ (ids : List Nat) (a : Act), ids.Nodup → i ∈ ids → (∀ j ∈ ids, j ≠ i → (dstAt ops j).isNone = true ∨ (dstAt ops i).isNone = true ∨ dstAt ops j ≠ dstAt ops i) →
    (actsOf ops ids x a).put (dstAt ops i) v = actsOf ops ids (fset x i v) a
  | [], _, _, h, _ => by cases h
  | j :: ids, a, hn, hi, h => by
    obtain ⟨hj, hn'⟩ := List.nodup_cons.1 hn
    show (actsOf ops ids x (a.put (dstAt ops j) (x j))).put _ _ = actsOf ops ids (fset x i v) (a.put (dstAt ops j) (fset x i v j))
    by_cases e : j = i
    · subst e
      rw [actsOf_put ops x j v ids _ (fun k hk => h k (List.mem_cons_of_mem _ hk) (fun e => hj (by rw [← e]; exact hk))), put_put, fset_same]
      exact actsOf_congr ops ids _ fun k hk => (fset_ne _ _ (fun e => hj (by rw [← e]; exact hk))).symm
    · rw [fset_ne _ _ e]
      refine actsOf_set ops x i v ids _ hn' ?_ (fun k hk => h k (List.mem_cons_of_mem _ hk))
      rcases List.mem_cons.1 hi with hi | hi
      · exact absurd hi.symm e
      · exact hi
theorem actsOf_self (ops : Array Oper) (a : Act) (ids : List Nat) : ∃ x, actsOf ops ids x a = a := by
  obtain ⟨f, hf⟩ := Classical.axiomOfChoice fun i => put_self a (dstAt ops i)
  refine ⟨f, ?_⟩
  induction ids with
  | nil => rfl
  | cons i ids ih =>
    show actsOf ops ids f (a.put (dstAt ops i) (f i)) = a
    rw [hf i]; exact ih

section
variable {P : Program} {ops : Array Oper} {Q : Exit → Act → World → Prop} {md : Region.Mode} {S : World → Prop} {st : List Nat}

/-- What operation i waits for, of ids. -/
def waitsFor (md : Region.Mode) (ops : Array Oper) (ids : List Nat) (i : Nat) : List Nat := match ops[i]? with
  | none => []
  | some o => ids.filter fun j => o.after.any fun e => Region.binds md e && e.on == j

/-- The operations of ids wait for what is done and for earlier ones of ids; all others that are not done wait for all of ids. -/
def idsB (md : Region.Mode) (ops : Array Oper) (ids : List Nat) (L : Array Bool) : Bool :=
  (ids.all fun i => decide (i < L.size) && !L.getD i true && match ops[i]? with
    | none => false
    | some o => o.after.all fun e => !Region.binds md e || L.getD e.on false || (ids.contains e.on && decide (e.on < i))) &&
  ((List.range ops.size).all fun j => ids.contains j || L.getD j true || ids.all fun i => needs md ops ops.size j i)

theorem wpAnyT_states (ids : List Nat) {L0 : Array Bool} {a0 : Act} {w0 : World} {fuel : Nat} (F : Nat) (J : (Nat → Bool) → (Nat → Value) → World → Prop)
    (hfuel : fuel = F + ids.length) (hnd : ids.Nodup) (hd : distB ops ids = true) (hcl : closedB md ops L0 = true) (hids : idsB md ops ids L0 = true)
    (hS : ∀ b x w, J b x w → S w) (h0 : ∀ x, J (fun _ => false) x w0)
    (hstep : ∀ i ∈ ids, ∀ b x w, J b x w → b i = false → (∀ j, (waitsFor md ops ids i).contains j = true → b j = true) → ∀ o, ops[i]? = some o → ∀ K' : Act → World → Prop,
      Shut (∀ v w', J (fset b i true) (fset x i v) w' → K' ((actsOf ops ids x a0).put o.dst v) w') →
      if Region.wanted o (yielded ops (actsOf ops ids x a0).tmps) = true then Oper.wp P o (actsOf ops ids x a0) w K' Q else K' ((actsOf ops ids x a0).put o.dst undef) w)
    (hdone : ∀ b x w, (∀ i ∈ ids, b i = true) → J b x w → wpAnyT P md ops Q S st F (markOf ids (fun _ => true) L0) (actsOf ops ids x a0) w) :
    wpAnyT P md ops Q S st fuel L0 a0 w0 := by
  unfold idsB at hids
  rw [Bool.and_eq_true] at hids
  obtain ⟨hi1, hi2⟩ := hids
  have hin : ∀ i ∈ ids, i < L0.size ∧ L0.getD i true = false ∧ ∃ o, ops[i]? = some o ∧ ∀ e ∈ o.after, Region.binds md e = true → L0.getD e.on false = true ∨ (e.on ∈ ids ∧ e.on < i) := fun i hi => by
    have h := List.all_eq_true.1 hi1 i hi
    rw [Bool.and_eq_true, Bool.and_eq_true] at h
    obtain ⟨⟨h1, h2⟩, h3⟩ := h
    refine ⟨by simpa using h1, by simpa using h2, ?_⟩
    cases ho : ops[i]? with
    | none => rw [ho] at h3; cases h3
    | some o =>
      rw [ho] at h3
      refine ⟨o, rfl, fun e he hb => ?_⟩
      have h4 := Array.all_eq_true_iff_forall_mem.1 h3 e he
      rw [hb] at h4
      simp only [Bool.not_true, Bool.false_or, Bool.or_eq_true, Bool.and_eq_true, decide_eq_true_eq, List.contains_iff_mem] at h4
      exact h4
  have key : ∀ (n : Nat) (b : Nat → Bool) (x : Nat → Value) (w : World), J b x w → Closed md ops (markOf ids b L0) → (ids.filter fun i => !b i).length = n → wpAnyT P md ops Q S st (F + n) (markOf ids b L0) (actsOf ops ids x a0) w := by
    intro n
    induction n with
    | zero =>
      intro b x w hJ hC hn
      have hall : ∀ i ∈ ids, b i = true := fun i hi => by
        have h := List.eq_nil_of_length_eq_zero hn
        rw [List.filter_eq_nil_iff] at h
        simpa using h i hi
      rw [markOf_congr (b' := fun _ => true) hall L0]
      exact hdone b x w hall hJ
    | succ n ih =>
      intro b x w hJ hC hn
      have hex : ∃ i ∈ ids, b i = false := by
        have : (ids.filter fun i => !b i) ≠ [] := fun h => by rw [h] at hn; simp at hn
        obtain ⟨i, hi⟩ := List.exists_mem_of_ne_nil _ this
        rw [List.mem_filter] at hi
        exact ⟨i, hi.1, by simpa using hi.2⟩
      refine ⟨fun hr => ?_, fun i hi => ?_⟩
      · exfalso
        have : ∀ (i : Nat), i ∈ ids → b i = false → False := by
          intro i
          induction i using Nat.strongRecOn with
          | _ i ihi =>
            intro hi hb
            obtain ⟨hlt, hun, o, ho, ha⟩ := hin i hi
            have hm : i ∈ Region.ready md ops (markOf ids b L0) := mem_ready.2 ⟨by rw [markOf_in hi hlt]; exact hb, o, ho, fun e he hbd => by
              rcases ha e he hbd with h | ⟨h1, h2⟩
              · by_cases hm : e.on ∈ ids
                · have := (hin _ hm).2.1
                  exact absurd h (by
                    intro h
                    have h5 := (hin _ hm).1
                    simp [h5] at h this
                    rw [h] at this; cases this)
                · rw [markOf_out hm]; exact h
              · rw [markOf_in h1 (hin _ h1).1]
                cases hbe : b e.on with
                | true => rfl
                | false => exact absurd hbe fun hbe => ihi _ h2 h1 hbe⟩
            rw [hr] at hm
            cases hm
        obtain ⟨i, hi, hb⟩ := hex
        exact this i hi hb
      · obtain ⟨hun, o, ho, ha⟩ := mem_ready.1 hi
        by_cases hm : i ∈ ids
        · obtain ⟨hlt, -, -⟩ := hin i hm
          rw [markOf_in hm hlt] at hun
          refine wpOp_step ho fun K' hK => hstep i hm b x w hJ hun (fun j hj => ?_) o ho K' (fun v w' hJ' => hK _ _ ⟨fun _ => hS _ _ _ hJ', ?_⟩)
          · unfold waitsFor at hj
            rw [ho] at hj
            have hj' : j ∈ ids.filter fun j => o.after.any fun e => Region.binds md e && e.on == j := by simpa using hj
            rw [List.mem_filter] at hj'
            obtain ⟨hj1, hj2⟩ := hj'
            obtain ⟨e, he, h3⟩ := Array.any_eq_true'.1 hj2
            rw [Bool.and_eq_true, beq_iff_eq] at h3
            have := ha e he h3.1
            rw [h3.2, markOf_in hj1 (hin _ hj1).1] at this
            exact this
          · have hdo : o.dst = dstAt ops i := by unfold dstAt; rw [ho]; rfl
            rw [hdo, actsOf_set ops x i v ids a0 hnd hm (fun j hj hne => distB_spec hd hj hm hne), markOf_set hm]
            refine ih _ _ _ hJ' ?_ ?_
            · rw [← markOf_set hm]; exact hC.set hi
            · have h1 : ∀ (l : List Nat), l.Nodup → i ∈ l → (l.filter fun j => !b j).length = (l.filter fun j => !fset b i true j).length + 1 := by
                intro l
                induction l with
                | nil => intro _ h; cases h
                | cons k l ihl =>
                  intro hl hk
                  obtain ⟨hk1, hk2⟩ := List.nodup_cons.1 hl
                  by_cases e : k = i
                  · subst e
                    rw [List.filter_cons_of_pos (by simp [hun]), List.filter_cons_of_neg (by simp [fset_same]), List.length_cons]
                    congr 2
                    refine List.filter_congr fun j hj => ?_
                    rw [fset_ne _ _ (fun e => hk1 (by rw [← e]; exact hj))]
                  · have hk' : i ∈ l := (List.mem_cons.1 hk).elim (fun h => absurd h.symm e) (fun h => h)
                    have := ihl hk2 hk'
                    rw [List.filter_cons, List.filter_cons, fset_ne _ _ e]
                    split
                    · simp only [List.length_cons]; omega
                    · exact this
              have := h1 ids hnd hm
              omega
        · exfalso
          rw [markOf_out hm] at hun
          have hio : i < ops.size := (Array.getElem?_eq_some_iff.1 ho).1
          have h3 := List.all_eq_true.1 hi2 i (List.mem_range.2 hio)
          rw [hun] at h3
          have hnc : ids.contains i = false := by rw [Bool.eq_false_iff]; intro h; exact hm (by simpa using h)
          rw [hnc] at h3
          simp only [Bool.false_or] at h3
          obtain ⟨j, hj, hb⟩ := hex
          have := needs_listed hC _ i j (List.all_eq_true.1 h3 j hj) (fun o' ho' e he hbd => by rw [ho] at ho'; cases ho'; exact ha e he hbd)
          rw [markOf_in hj (hin _ hj).1, hb] at this
          cases this
  obtain ⟨x, hx⟩ := actsOf_self ops a0 ids
  have hmn := markOf_none (ids := ids) (L := L0) fun i hi => (hin i hi).2.1
  have := key ids.length (fun _ => false) x w0 (h0 x) (by rw [hmn]; exact closed_of hcl) (by simp)
  rw [hmn, hx, ← hfuel] at this
  exact this

/-- The slots written out. -/
def actsD (ds : List (Nat × Option Tmp)) (x : Nat → Value) (a : Act) : Act := ds.foldl (fun a p => a.put p.2 (x p.1)) a
def dsB (ops : Array Oper) (ds : List (Nat × Option Tmp)) : Bool := ds.all fun p => dstAt ops p.1 == p.2
theorem actsD_eq {ops : Array Oper} (x : Nat → Value) : ∀ (ds : List (Nat × Option Tmp)) (a : Act), dsB ops ds = true → actsOf ops (ds.map Prod.fst) x a = actsD ds x a
  | [], _, _ => rfl
  | p :: ds, a, h => by
    unfold dsB at h
    rw [List.all_cons, Bool.and_eq_true, beq_iff_eq] at h
    show actsOf ops (ds.map Prod.fst) x (a.put (dstAt ops p.1) (x p.1)) = actsD ds x (a.put p.2 (x p.1))
    rw [h.1]
    exact actsD_eq x ds _ h.2

theorem wpAnyT_all (ds : List (Nat × Option Tmp)) (F : Nat) (J : (Nat → Bool) → (Nat → Value) → World → Prop) {L0 : Array Bool} {a0 : Act} {w0 : World} {fuel : Nat}
    (hfuel : fuel = F + ds.length) (hds : dsB ops ds = true) (hnd : (ds.map Prod.fst).Nodup) (hd : distB ops (ds.map Prod.fst) = true) (hcl : closedB md ops L0 = true) (hids : idsB md ops (ds.map Prod.fst) L0 = true)
    (hS : ∀ b x w, J b x w → S w) (h0 : ∀ x, J (fun _ => false) x w0)
    (hstep : ∀ i ∈ ds.map Prod.fst, ∃ o, ops[i]? = some o ∧ ∀ b x w, J b x w → b i = false → (∀ j, (waitsFor md ops (ds.map Prod.fst) i).contains j = true → b j = true) → ∀ K' : Act → World → Prop,
      Shut (∀ v w', J (fset b i true) (fset x i v) w' → K' ((actsD ds x a0).put o.dst v) w') →
      if Region.wanted o (yielded ops (actsD ds x a0).tmps) = true then Oper.wp P o (actsD ds x a0) w K' Q else K' ((actsD ds x a0).put o.dst undef) w)
    (hdone : ∀ b x w, (∀ i ∈ ds.map Prod.fst, b i = true) → J b x w → wpAnyT P md ops Q S st F (markOf (ds.map Prod.fst) (fun _ => true) L0) (actsD ds x a0) w) :
    wpAnyT P md ops Q S st fuel L0 a0 w0 := by
  refine wpAnyT_states (ds.map Prod.fst) F J (by rw [hfuel, List.length_map]) hnd hd hcl hids hS h0 (fun i hi b x w hJ hb hw o ho K' hK => ?_) (fun b x w hb hJ => ?_)
  · obtain ⟨o', ho', h⟩ := hstep i hi
    rw [ho] at ho'
    cases ho'
    rw [actsD_eq x ds a0 hds] at hK ⊢
    exact h b x w hJ hb hw K' hK
  · rw [actsD_eq x ds a0 hds]
    exact hdone b x w hb hJ
end
end Go.Proofs.YtdbpkoddfcdhdaaGreat
