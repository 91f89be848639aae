/-
  append to a slice of the call's own whose elements were made by the call itself: what all cells of its block are.
  The reference: trim, made, Of.
  algoristlaw12.row.
  The reference: Same, SameRow, Same of matrices.
  algoristlaw12.hermite, kernel, in: over what lattice's functions give.
  lattice's functions at the matrices of algoristlaw12.examples.
-/
import Derived.Test.YtdbpkoddfcdhdaaGreatPK
import Derived.Test.YtdbpkoddfcdhdaaGreatPM
import Derived.Test.YtdbpkoddfcdhdaaGreatPF
import Derived.Test.YtdbpkoddfcdhdaaGreatPD
import Derived.Test.YtdbpkoddfcdhdaaGreatPL
import Derived.Test.YtdbpkoddfcdhdaaGreatPH
set_option linter.unusedSimpArgs false
set_option linter.unusedVariables false

namespace Go.Proofs.YtdbpkoddfcdhdaaGreat
open Go.RowKit

/-- All cells of block g are of the kind p. -/
def Alc (p : Value → Bool) (w : World) (g : Nat) : Prop := ∀ o v, w.cell? ⟨g, o, none⟩ = some v → p v = true

theorem Alc.of {p : Value → Bool} {w : World} {g T : Nat} {fr : Nat × Nat} {cs : Array Value} (hg : w.heap[g]? = some (.cells cs T fr)) (h : ∀ u ∈ cs.toList, p u = true) : Alc p w g := by
  intro o v e
  simp only [World.cell?, hg] at e
  exact h v (List.mem_of_getElem? (by rw [Array.getElem?_toList]; exact e))

theorem Alc.mem {p : Value → Bool} {w : World} {g T : Nat} {fr : Nat × Nat} {cs : Array Value} (h : Alc p w g) (hg : w.heap[g]? = some (.cells cs T fr)) : ∀ u ∈ cs.toList, p u = true := by
  intro u hu
  obtain ⟨i, hi, e⟩ := List.mem_iff_getElem.1 hu
  refine h i u ?_
  simp only [World.cell?, hg]
  rw [← Array.getElem?_toList, List.getElem?_eq_getElem hi, e]
  simp

theorem Alc.up {p : Value → Bool} {w w' : World} {g : Nat} (h : Alc p w g) (hg : g < w.heap.size) (hb : Below w.heap.size w w') : Alc p w' g := fun o v e => h o v (by rw [← hb.cell (p := ⟨g, o, none⟩) hg]; exact e)

theorem zero_all {p : Value → Bool} (z : Array Value) (n : Nat) (h : ∀ u ∈ z.toList, p u = true) : ∀ u ∈ (Builtin.zeroCells z n).toList, p u = true := by
  intro u hu
  unfold Builtin.zeroCells at hu
  simp only [Array.toList_map, Array.toList_range, List.mem_map, List.mem_range] at hu
  obtain ⟨i, hi, rfl⟩ := hu
  have h0 : 0 < z.size := by
    rcases Nat.eq_zero_or_pos z.size with e | e
    · rw [e] at hi; simp at hi
    · exact e
  have hl := Nat.mod_lt i h0
  rw [getElem!_pos z _ hl]
  exact h _ (by simp)

theorem run_app_all (p : Value → Bool) (w : World) (t ty : TypeId) (base : Nat) (e : TypeId) (i : TypeInfo) (z : Value) (size bytes : Nat) (ht : Tryz.prog.underlying t = some (.slice e)) (hi : Tryz.prog.info? e = some i) (hz : i.zero = some z)
    (hsize : i.size = size) (hby : i.bytes = bytes) (hzs : z.cells.size = size) (hsz : 0 < size)
    (v : Value) (n : Nat) (xs : List Value) (hown : w.ownsRow base e size v n xs)
    (ad : Addr) (m c : Nat) (news : List Value) (hl : news.length = m * size) (hnews : ∀ j u, news[j]? = some u → w.cell? (ad.add j) = some u) (h1 : ∀ u ∈ news, u.oneCell' = true)
    (hm : 0 < m) (h63 : n + m ≤ maxLen) (hbytes : (n + m) * bytes ≤ 140737488355328) (hbase : base ≤ w.heap.size)
    (hp : ∀ g, v.ownBlock = some g → Alc p w g) (hpn : ∀ u ∈ news, p u = true) (hpz : ∀ u ∈ z.cells.toList, p u = true) :
    ∃ g cap w', (Builtin.append_ #[t, t] ty #[v, .slice (some ad) m c]).run Tryz.prog w = .ok (.slice (some ⟨g, 0, none⟩) (n + m) cap) w' ∧
      w'.ownsRow base e size (.slice (some ⟨g, 0, none⟩) (n + m) cap) (n + m) (xs ++ news) ∧ w.grownBy w' v.ownBlock ∧ (v.ownBlock = some g ∨ g = w.heap.size) ∧ g < w'.heap.size ∧ Alc p w' g := by
  obtain ⟨g, cap, w', hr, h2, h3, h4, h5⟩ := run_append_lies (P := Tryz.prog) w t ty base e i z size bytes ht hi hz hsize hby hzs hsz v n xs hown ad m c news hl hnews h1 hm h63 hbytes hbase _ rfl
  refine ⟨g, cap, w', hr, h2, h3, h4, h5, ?_⟩
  subst hsize
  subst hby
  have hx63 : n + m ≤ 9223372036854775807 := by simp only [maxLen] at h63; omega
  rcases hown.2 with ⟨rfl, rfl⟩ | ⟨g', cap', cur, rfl, hbg, hg, hnc, hcm, hcs, htake⟩
  · have hr' := run_append_nil (P := Tryz.prog) w t ty e i z ht hi hz ad m c news hl hnews hm (by omega) (by simp only [Nat.zero_add] at hbytes; omega)
    rw [hr] at hr'
    injection hr' with e1 e2
    injection e1 with e1
    injection e1 with e1
    injection e1 with e1
    subst e1 e2
    refine Alc.of (heap_alloc_new w.drew _) ?_
    intro u hu
    simp only [Array.toList_append, List.mem_append] at hu
    rcases hu with hu | hu
    · exact hpn u hu
    · exact zero_all _ _ hpz u hu
  · have hpo := (hp g' rfl).mem hg
    by_cases hroom : n + m ≤ cap'
    · have hfit : n * i.size + news.length ≤ cur.size := by rw [hl, hcs, ← Nat.add_mul]; exact Nat.mul_le_mul_right _ hroom
      have hr' := run_append_room (P := Tryz.prog) w t ty e i ht hi g' n cap' cur hg ad m c news hl hnews h1 hroom hfit
      rw [hr] at hr'
      injection hr' with e1 e2
      injection e1 with e1
      injection e1 with e1
      injection e1 with e1
      subst e1 e2
      refine Alc.of (setRow_heap w g cur _ e _ hg) ?_
      intro u hu
      simp only [List.mem_append] at hu
      rcases hu with (hu | hu) | hu
      · exact hpo u (List.mem_of_mem_take hu)
      · exact hpn u hu
      · exact hpo u (List.mem_of_mem_drop hu)
    · have holds : ∀ j u, xs[j]? = some u → w.cell? ((⟨g', 0, none⟩ : Addr).add j) = some u := hown.cells (g := g') rfl
      have hr' := run_append_grow (P := Tryz.prog) w t ty e i z ht hi hz ⟨g', 0, none⟩ n cap' xs hown.1 holds ad m c news hl hnews (by omega) (by omega) (growslice_fits (by omega) hbytes)
      rw [hr] at hr'
      injection hr' with e1 e2
      injection e1 with e1
      injection e1 with e1
      injection e1 with e1
      subst e1 e2
      refine Alc.of (heap_alloc_new w.drew _) ?_
      intro u hu
      simp only [Array.toList_append, List.mem_append] at hu
      rcases hu with (hu | hu) | hu
      · refine hpo u (List.mem_of_mem_take (i := n * i.size) ?_)
        rw [htake]; exact hu
      · exact hpn u hu
      · exact zero_all _ _ hpz u hu

/-- What an append keeps: integers, rows. -/
theorem It.grown {w w' : World} {row : Option Nat} (hg : w.grownBy w' row) (hr : ∀ g, row = some g → Alc noW w g) {v : Value} {z : Int} (h : It w v z) : It w' v z := by
  cases row with
  | none => exact h.up ⟨hg.os, hg.tape, hg.output, hg.size, fun k hk => hg.block k hk (by simp)⟩
  | some g =>
    refine h.but (g := g) (fun o x e => ?_) ⟨hg.os, hg.tape, hg.output, hg.size, fun k hk hne => hg.block k hk (by simp [hne])⟩
    have := hr g rfl o _ e
    simp [noW] at this

def isSl (v : Value) : Bool := match v with | .slice _ _ _ => true | _ => false

theorem rw_grown {w w' : World} {row : Option Nat} (hg : w.grownBy w' row) (hr : ∀ g, row = some g → Alc isSl w g) {v : Value} {l : List Int} (h : Rw w v l) : Rw w' v l := by
  cases row with
  | none => exact h.up ⟨hg.os, hg.tape, hg.output, hg.size, fun k hk => hg.block k hk (by simp)⟩
  | some g =>
    refine h.but (g := g) (fun o x e => ?_) ⟨hg.os, hg.tape, hg.output, hg.size, fun k hk hne => hg.block k hk (by simp [hne])⟩
    have := hr g rfl o _ e
    cases x <;> simp [isSl] at this
    exact ⟨_, _, _, rfl⟩

/-- A row of the call's own, from block base on, to be appended to. -/
def Ap (w : World) (base : Nat) (v : Value) (l : List Int) : Prop := Ar w w base v l ∧ ∀ g, v.ownBlock = some g → Alc noW w g

theorem Ap.lit0 (w : World) {base : Nat} (hb : base ≤ w.heap.size) : Ap (w.alloc (.cells #[] 56)) base (.slice (some ⟨w.heap.size, 0, none⟩) 0 0) [] := by
  refine ⟨⟨_, World.ownsRow_lit w #[] 0 hb (by decide) rfl, fun i hi => absurd hi (Nat.not_lt_zero i)⟩, fun g hg => ?_⟩
  simp [Value.ownBlock] at hg
  subst hg
  exact Alc.of (heap_alloc_new w _) (by simp)

theorem Ap.up {w w' : World} {base : Nat} {v : Value} {l : List Int} (h : Ap w base v l) (hb : Below w.heap.size w w') : Ap w' base v l := by
  obtain ⟨h1, h2⟩ := h
  have hlt := h1
  obtain ⟨xs, k1, -⟩ := hlt
  obtain ⟨xs', p1, p2⟩ := h1.keep hb
  refine ⟨⟨xs', p1, fun i hi => ?_⟩, fun g hg => (h2 g hg).up (k1.lt g hg).2 hb⟩
  obtain ⟨s, c, n, k, c0, c1, c2⟩ := p2 i hi
  exact ⟨s, c, n, k, c0, c1, c2.up hb⟩
theorem Ap.alloc {w : World} {base : Nat} {v : Value} {l : List Int} (h : Ap w base v l) (o : Obj) : Ap (w.alloc o) base v l := h.up (below_new _ _)
theorem Ap.drew {w : World} {base : Nat} {v : Value} {l : List Int} (h : Ap w base v l) : Ap w.drew base v l := h
theorem Ap.rw {w : World} {base : Nat} {v : Value} {l : List Int} (h : Ap w base v l) : Rw w v l := h.1.rw (Below.refl _ _)

theorem run_apI {w : World} {base : Nat} {v : Value} {l : List Int} (t ty : TypeId) (ht : Tryz.prog.underlying t = some (.slice 56)) (h : Ap w base v l) (hbase : base ≤ w.heap.size) {B T c1 : Nat} {fr : Nat × Nat} {s : Bool} {c : Option Addr} {n k : Nat} {x : Int}
    (hB : w.heap[B]? = some (.cells #[.bool s, .slice c n k] T fr)) (hx : It w (.agg #[.bool s, .slice c n k]) x) (hl : l.length ≤ 1099511627776) :
    ∃ g cap w', (Builtin.append_ #[t, t] ty #[v, .slice (some ⟨B, 0, none⟩) 1 c1]).run Tryz.prog w = .ok (.slice (some ⟨g, 0, none⟩) (l.length + 1) cap) w' ∧
      Ap w' base (.slice (some ⟨g, 0, none⟩) (l.length + 1) cap) (l ++ [x]) ∧ Below base w w' := by
  obtain ⟨i0, hi, hz0, hz1, hz2⟩ := info_parts infoI
  obtain ⟨⟨xs, h1, h2⟩, h3⟩ := h
  have hlt := h1.lt
  obtain ⟨g, cap, w', hr, k1, k2, k3, k4, k5⟩ := run_app_all noW w t ty base 56 i0 _ 2 32 ht hi hz0 hz1 hz2 rfl (by omega) v l.length xs h1 ⟨B, 0, none⟩ 1 c1 [.bool s, .slice c n k] rfl
    (World.news_of_block hB) (by simp [Value.oneCell']) (by omega) (by unfold maxLen; omega) (by omega) hbase h3 (by simp [noW]) (by simp [Value.cells, noW])
  refine ⟨g, cap, w', hr, ⟨⟨xs ++ [.bool s, .slice c n k], by simpa using k1, fun i hi => ?_⟩, fun g' hg' => ?_⟩, Below.of_grown k2 hbase (fun k hk => (hlt k hk).1)⟩
  · have hxl := h1.1
    simp only [List.length_append, List.length_cons, List.length_nil] at hi
    by_cases e : i < l.length
    · obtain ⟨s', c', n', k', c0, c1, c2⟩ := h2 i e
      refine ⟨s', c', n', k', by rw [List.getElem?_append_left (by omega)]; exact c0, by rw [List.getElem?_append_left (by omega)]; exact c1, ?_⟩
      simp only [List.getD_eq_getElem?_getD, List.getElem?_append_left e] at c2 ⊢
      exact c2.grown k2 h3
    · have : i = l.length := by omega
      subst this
      refine ⟨s, c, n, k, by rw [List.getElem?_append_right (by omega)]; simp [hxl], by rw [List.getElem?_append_right (by omega)]; simp [hxl, show l.length * 2 + 1 - l.length * 2 = 1 by omega], ?_⟩
      have := hx.grown k2 h3
      simpa [List.getD_eq_getElem?_getD] using this
  · simp [Value.ownBlock] at hg'
    subst hg'
    exact k5

theorem wpl_apI {ops : Array Oper} {rest : List Oper} {o : Oper} {a : Act} {Q : Exit → Act → World → Prop} {w : World} (hgd : o.guard = none) (su sx : Operand) (t : TypeId)
    (ho : o.op = .call { callee := .builtin .append, args := #[su, sx], argTypes := #[t, t] }) (ht : Tryz.prog.underlying t = some (.slice 56)) (base : Nat) (v : Value) (l : List Int) (hs : a.eval su = v) (h : Ap w base v l) (hbase : base ≤ w.heap.size)
    (B T c1 : Nat) (fr : Nat × Nat) (s : Bool) (c : Option Addr) (n k : Nat) (x : Int) (hxv : a.eval sx = .slice (some ⟨B, 0, none⟩) 1 c1)
    (hB : w.heap[B]? = some (.cells #[.bool s, .slice c n k] T fr)) (hx : It w (.agg #[.bool s, .slice c n k]) x) (hl : l.length ≤ 1099511627776)
    (hK : ∀ g cap w', Ap w' base (.slice (some ⟨g, 0, none⟩) (l.length + 1) cap) (l ++ [x]) → Below base w w' → wpList Tryz.prog ops Q rest (a.put o.dst (.slice (some ⟨g, 0, none⟩) (l.length + 1) cap)) w') :
    wpList Tryz.prog ops Q (o :: rest) a w := by
  refine wpList_plain hgd fun K hK' => ?_
  obtain ⟨g, cap, w', hr, h2, h3⟩ := run_apI t o.type ht h hbase (c1 := c1) hB hx hl
  unfold Oper.wp execOp
  simp only [ho, resolve, invoke, builtin, Sem.run_bind, Sem.run_pure, Result.andThen_ok, List.map_toArray, List.map_cons, List.map_nil, hs, hxv, hr]
  exact hK' _ _ (hK g cap w' h2 h3)

/-- A matrix of the call's own, from block base on, to be appended to. -/
def Am2 (w : World) (base : Nat) (v : Value) (m : List (List Int)) : Prop := Am w w base v m ∧ ∀ g, v.ownBlock = some g → Alc isSl w g

theorem Am2.lit0 (w : World) {base : Nat} (hb : base ≤ w.heap.size) : Am2 (w.alloc (.cells #[] 36)) base (.slice (some ⟨w.heap.size, 0, none⟩) 0 0) [] := by
  refine ⟨⟨_, World.ownsRow_lit w #[] 0 hb (by decide) rfl, fun i hi => absurd hi (Nat.not_lt_zero i)⟩, fun g hg => ?_⟩
  simp [Value.ownBlock] at hg
  subst hg
  exact Alc.of (heap_alloc_new w _) (by simp)

theorem Am2.up {w w' : World} {base : Nat} {v : Value} {m : List (List Int)} (h : Am2 w base v m) (hb : Below w.heap.size w w') : Am2 w' base v m := by
  obtain ⟨h1, h2⟩ := h
  have hlt := h1
  obtain ⟨xs, k1, -⟩ := hlt
  obtain ⟨xs', p1, p2⟩ := h1.keep hb
  refine ⟨⟨xs', p1, fun i hi => ?_⟩, fun g hg => (h2 g hg).up (k1.lt g hg).2 hb⟩
  obtain ⟨c, k, c0, c1⟩ := p2 i hi
  exact ⟨c, k, c0, c1.up hb⟩
theorem Am2.alloc {w : World} {base : Nat} {v : Value} {m : List (List Int)} (h : Am2 w base v m) (o : Obj) : Am2 (w.alloc o) base v m := h.up (below_new _ _)
theorem Am2.drew {w : World} {base : Nat} {v : Value} {m : List (List Int)} (h : Am2 w base v m) : Am2 w.drew base v m := h

theorem run_apR {w : World} {base : Nat} {v : Value} {m : List (List Int)} (t ty : TypeId) (ht : Tryz.prog.underlying t = some (.slice 36)) (h : Am2 w base v m) (hbase : base ≤ w.heap.size) {B T c1 : Nat} {fr : Nat × Nat} {c : Option Addr} {k : Nat} {x : List Int}
    (hB : w.heap[B]? = some (.cells #[.slice c x.length k] T fr)) (hx : Rw w (.slice c x.length k) x) (hl : m.length ≤ 1099511627776) :
    ∃ g cap w', (Builtin.append_ #[t, t] ty #[v, .slice (some ⟨B, 0, none⟩) 1 c1]).run Tryz.prog w = .ok (.slice (some ⟨g, 0, none⟩) (m.length + 1) cap) w' ∧
      Am2 w' base (.slice (some ⟨g, 0, none⟩) (m.length + 1) cap) (m ++ [x]) ∧ Below base w w' := by
  obtain ⟨i0, hi, hz0, hz1, hz2⟩ := info_parts infoR
  obtain ⟨⟨xs, h1, h2⟩, h3⟩ := h
  have hlt := h1.lt
  obtain ⟨g, cap, w', hr, k1, k2, k3, k4, k5⟩ := run_app_all isSl w t ty base 36 i0 _ 1 24 ht hi hz0 hz1 hz2 rfl (by omega) v m.length xs h1 ⟨B, 0, none⟩ 1 c1 [.slice c x.length k] rfl
    (World.news_of_block hB) (by simp [Value.oneCell']) (by omega) (by unfold maxLen; omega) (by omega) hbase h3 (by simp [isSl]) (by simp [Value.cells, isSl])
  have hxl := h1.1
  refine ⟨g, cap, w', hr, ⟨⟨xs ++ [.slice c x.length k], by simpa using k1, fun i hi => ?_⟩, fun g' hg' => ?_⟩, Below.of_grown k2 hbase (fun k hk => (hlt k hk).1)⟩
  · simp only [List.length_append, List.length_cons, List.length_nil] at hi
    by_cases e : i < m.length
    · obtain ⟨c', k', c0, c1⟩ := h2 i e
      have eg : (m ++ [x]).getD i [] = m.getD i [] := by simp only [List.getD_eq_getElem?_getD, List.getElem?_append_left e]
      rw [eg]
      exact ⟨c', k', by rw [List.getElem?_append_left (by omega)]; exact c0, rw_grown k2 h3 c1⟩
    · have : i = m.length := by omega
      subst this
      have eg : (m ++ [x]).getD m.length [] = x := by simp [List.getD_eq_getElem?_getD]
      rw [eg]
      exact ⟨c, k, by rw [List.getElem?_append_right (by omega)]; simp [hxl], rw_grown k2 h3 hx⟩
  · simp [Value.ownBlock] at hg'
    subst hg'
    exact k5

theorem wpl_apR {ops : Array Oper} {rest : List Oper} {o : Oper} {a : Act} {Q : Exit → Act → World → Prop} {w : World} (hgd : o.guard = none) (su sx : Operand) (t : TypeId)
    (ho : o.op = .call { callee := .builtin .append, args := #[su, sx], argTypes := #[t, t] }) (ht : Tryz.prog.underlying t = some (.slice 36)) (base : Nat) (v : Value) (m : List (List Int)) (hs : a.eval su = v) (h : Am2 w base v m) (hbase : base ≤ w.heap.size)
    (B T c1 : Nat) (fr : Nat × Nat) (c : Option Addr) (n k : Nat) (x : List Int) (hn : x.length = n) (hxv : a.eval sx = .slice (some ⟨B, 0, none⟩) 1 c1)
    (hB : w.heap[B]? = some (.cells #[.slice c n k] T fr)) (hx : Rw w (.slice c n k) x) (hl : m.length ≤ 1099511627776)
    (hK : ∀ g cap w', Am2 w' base (.slice (some ⟨g, 0, none⟩) (m.length + 1) cap) (m ++ [x]) → Below base w w' → wpList Tryz.prog ops Q rest (a.put o.dst (.slice (some ⟨g, 0, none⟩) (m.length + 1) cap)) w') :
    wpList Tryz.prog ops Q (o :: rest) a w := by
  subst hn
  refine wpList_plain hgd fun K hK' => ?_
  obtain ⟨g, cap, w', hr, h2, h3⟩ := run_apR t o.type ht h hbase (c1 := c1) hB hx hl
  unfold Oper.wp execOp
  simp only [ho, resolve, invoke, builtin, Sem.run_bind, Sem.run_pure, Result.andThen_ok, List.map_toArray, List.map_cons, List.map_nil, hs, hxv, hr]
  exact hK' _ _ (hK g cap w' h2 h3)
end Go.Proofs.YtdbpkoddfcdhdaaGreat

namespace Go.Proofs.YtdbpkoddfcdhdaaGreat
open Go.RowKit
attribute [local go_sem ↓] Go.wp_at_zero Go.wp_at_succ

set_option maxHeartbeats 400000 in
theorem rtrim_any (a : Option Addr) (n cap : Nat) (f : Nat → Nat) (w : World) (hn : n ≤ cap) (hN : n ≤ 4611686018427387904) (hw : Wd w a n f) (hf : Wf f n) :
    Calls Tryz.prog 85 #[.slice a n cap] w fun e w' => e = .returned (.slice a (tr f n) cap) ∧ w = w' := by
  go_enter Tryz.func85, Tryz.ntmps85
  go_wp2
  go_loop [0] (fun v => ∃ k : Nat, k ≤ n ∧ v = .slice a k cap ∧ tr f k = tr f n) (fun v => lenOf v)
  case atStart => exact ⟨n, Nat.le_refl _, rfl, rfl⟩
  case round =>
    obtain ⟨k, hk, rfl, ht⟩ := hrel
    have HT := Lib.hid ht
    clear ht
    rcases k with _ | k
    · go_wp2
      go_ret
      have ht := HT.out
      simp only [tr] at ht
      exact ⟨by rw [← ht]; rfl, rfl⟩
    · obtain ⟨b, off, rfl, hb, hc⟩ := hw.at (i := k) (by omega)
      have hck := hc k (by omega)
      have hfk := hf k (by omega)
      go_wp2
      · have h0 : ((f k : Int) == 0) = true := by assumption
        have h1 : f k = 0 := by simpa using h0
        go_round
        case rel => exact ⟨k, by omega, rfl, by have ht := HT.out; rw [tr, if_pos h1] at ht; exact ht⟩
        case measure => simp [lenOf]
      · have h0 : ((f k : Int) == 0) = false := by assumption
        have h1 : ¬ f k = 0 := by simpa using h0
        have ht := HT.out
        rw [tr, if_neg h1] at ht
        go_ret
        exact ⟨by rw [← ht]; rfl, rfl⟩

set_option maxHeartbeats 1000000 in
theorem made_any (s : Bool) (a : Option Addr) (n cap : Nat) (f : Nat → Nat) (w : World) (hn : n ≤ cap) (hN : n ≤ 4611686018427387904) (hw : Wd w a n f) (hf : Wf f n) :
    Calls Tryz.prog 61 #[.bool s, .slice a n cap] w fun e w' => ∃ v, e = .returned v ∧ It w' v (sg s (nv f n)) ∧ Below w.heap.size w w' := by
  have hle := tr_le f n
  have hv0 := Vx.new0 (w := w) (T := 56) rfl
  go_enter Tryz.func61, Tryz.ntmps61
  go_wp2_with fail
  refine (rtrim_any a n cap f _ hn hN (hw.up (below_new _ _)) hf).mono ?_
  rintro e w' ⟨rfl, rfl⟩
  rcases Nat.eq_zero_or_pos (tr f n) with h0 | h0
  · have hv : nv f n = 0 := by rw [← nv_tr f n, h0]; rfl
    have HV := Lib.hid hv
    rw [h0]
    clear hv h0
    go_wp2_with fail
    exact ret_vx (B := w.heap.size) (z := 0) rfl rfl rfl (by exact srch) (fun v hv => ⟨v, rfl, by rw [HV.out]; cases s <;> exact hv, by exact srch⟩)
  · have hne : ((tr f n : Int) == 0) = false := by rw [beq_eq_false_iff_ne]; omega
    have hit : It w (.agg #[.bool s, .slice a (tr f n) cap]) (sg s (nv f n)) := by
      refine it_of_nt (nt_of_tr hn hw hf) ?_
      rw [← nv_tr f n]
      rcases can_tr f n with c | c
      · omega
      · have := nv_pos_le (f := f) (n := tr f n) (i := tr f n - 1) (by omega)
        have h2 : 0 < f (tr f n - 1) * 4294967296 ^ (tr f n - 1) := Nat.mul_pos (by omega) (pw_pos _)
        omega
    go_wp2_with fail
    have hx := Vx.new (T := 56) rfl hit
    exact ret_vx (B := w.heap.size) (z := sg s (nv f n)) rfl rfl rfl (by first | exact hx | exact srch) (fun v hv => ⟨v, rfl, hv, by exact srch⟩)

theorem rof_any (n : Int) (w : World) (h1 : -9223372036854775808 ≤ n) (h2 : n ≤ 9223372036854775807) :
    Calls Tryz.prog 23 #[.int .i64 n] w fun e w' => ∃ v, e = .returned v ∧ It w' v n ∧ Below w.heap.size w w' := by
  obtain ⟨v1, v2⟩ := of_words n h1 h2
  have e0 : ((n.natAbs : Int) % 4294967296) = ((n.natAbs % 4294967296 : Nat) : Int) := by omega
  have e1 : ((n.natAbs : Int) / 4294967296 % 4294967296) = ((n.natAbs / 4294967296 : Nat) : Int) := by omega
  have hw2 := (below_new w (.cells #[.bool false, .slice none 0 0] 56))
  have hb2 := hw2.alloc hw2.size (.cells #[.int .u32 ((n.natAbs % 4294967296 : Nat) : Int), .int .u32 ((n.natAbs / 4294967296 : Nat) : Int)] 85)
  have hO := Own.lit (w.alloc (.cells #[.bool false, .slice none 0 0] 56)) #[.int .u32 ((n.natAbs % 4294967296 : Nat) : Int), .int .u32 ((n.natAbs / 4294967296 : Nat) : Int)] 85 2 (wv fun i => if i = 0 then n.natAbs % 4294967296 else n.natAbs / 4294967296) rfl
    (fun i hi => by rcases i with _ | _ | i; rfl; rfl; omega)
  have hx := (Vx.new0 (w := w) (T := 56) rfl).alloc (.cells #[.int .u32 ((n.natAbs % 4294967296 : Nat) : Int), .int .u32 ((n.natAbs / 4294967296 : Nat) : Int)] 85)
  simp only [World.size_alloc] at hO
  have H0 := Lib.hid e0
  have H1 := Lib.hid e1
  have HX := Lib.hid hx
  clear e0 e1 hw2 hx
  by_cases hn : n < 0
  · have hm : IntKind.u64.wrap (-IntKind.u64.wrap n) = (n.natAbs : Int) := by
      simp [IntKind.wrap, IntKind.bits, IntKind.signed]
      omega
    have HM := Lib.hid hm
    clear hm
    go_enter Tryz.func23, Tryz.ntmps23
    go_wp2_with fail
    rw [HM.out, H0.out, H1.out]
    refine (made_any true _ 2 2 _ _ (Nat.le_refl _) (by omega) hO.wd v2).mono ?_
    rintro e w1 ⟨v, rfl, hv, hb⟩
    rw [v1, show sg true n.natAbs = n by unfold sg; simp; omega] at hv
    replace hx := HX.out.up hb
    replace hb2 := hb2.trans (hb.mono hb2.size)
    obtain ⟨s', a', n', cap', rfl⟩ := hv.shape
    clear hO hb
    obtain ⟨s, a, k, c, c0, c1, f0, f1, -⟩ := hx.cells
    go_wp2_with fail
    exact ret_vx (B := w.heap.size) rfl rfl rfl (Vx.put hx.va hv) (fun v hv => ⟨_, rfl, hv, Bl.st hb2 (Nat.le_refl _)⟩)
  · have hm : n % 4294967296 = ((n.natAbs % 4294967296 : Nat) : Int) := by omega
    have hm' : n / 4294967296 = ((n.natAbs / 4294967296 : Nat) : Int) := by omega
    have HM := Lib.hid hm
    have HM' := Lib.hid hm'
    clear hm hm'
    go_enter Tryz.func23, Tryz.ntmps23
    go_wp2_with fail
    rw [HM.out, HM'.out]
    refine (made_any false _ 2 2 _ _ (Nat.le_refl _) (by omega) hO.wd v2).mono ?_
    rintro e w1 ⟨v, rfl, hv, hb⟩
    rw [v1, show sg false n.natAbs = n by unfold sg; simp; omega] at hv
    replace hx := HX.out.up hb
    replace hb2 := hb2.trans (hb.mono hb2.size)
    obtain ⟨s', a', n', cap', rfl⟩ := hv.shape
    clear hO hb
    obtain ⟨s, a, k, c, c0, c1, f0, f1, -⟩ := hx.cells
    go_wp2_with fail
    exact ret_vx (B := w.heap.size) rfl rfl rfl (Vx.put hx.va hv) (fun v hv => ⟨_, rfl, hv, Bl.st hb2 (Nat.le_refl _)⟩)

/-- Sizes are compared from the last word on. -/
theorem size_any (a b : Option Addr) (n m ca cb : Nat) (f h : Nat → Nat) (w : World) (hn : n ≤ 4611686018427387904) (hm : m ≤ 4611686018427387904)
    (hwf : Wd w a n f) (hwh : Wd w b m h) (Hf : Wf f n) (Hh : Wf h m) (Cf : Can f n) (Ch : Can h m) :
    Calls Tryz.prog 60 #[.slice a n ca, .slice b m cb] w fun e w' => e = .returned (.int .i64 (cmpI (nv f n) (nv h m))) ∧ ∃ k, w' = w.drewN k := by
  rcases Nat.lt_trichotomy n m with hnm | hnm | hnm
  · have hlt := nv_lt_of_len Hf Hh Ch hnm
    have hb : ((n : Int) != (m : Int)) = true := by rw [bne_iff_ne]; omega
    have hl : (n : Int) < (m : Int) := by omega
    go_enter Tryz.func60, Tryz.ntmps60
    go_wp2_with fail
    go_ret
    exact ⟨ret_of (by rw [cmpI_lt (x := (nv f n : Int)) (by omega)]; rfl), 0, rfl⟩
  · subst hnm
    have hb : ((n : Int) != (n : Int)) = false := by simp
    go_enter Tryz.func60, Tryz.ntmps60
    go_wp2_with fail
    go_loopw [5] (fun s wr => ∃ k q : Nat, k ≤ n ∧ s = .int .i64 ((k : Int) - 1) ∧ (∀ j, k ≤ j → j < n → f j = h j) ∧ wr = w.drewN q) (fun s _ => (intOf s + 1).toNat)
    case atStart => exact ⟨n, 0, Nat.le_refl _, rfl, fun j h1 h2 => absurd h2 (by omega), rfl⟩
    case round =>
      obtain ⟨k, q, hk, rfl, heq, hwr⟩ := hrel
      have HWR := Lib.hid hwr
      clear hwr
      have HE := Lib.hid heq
      clear heq
      rcases k with _ | k
      · go_wp2_with fail
        go_ret
        exact ⟨ret_of (by rw [cmpI_eq (by rw [nv_congr (fun i hi => HE.out i (Nat.zero_le _) hi)])]; rfl), q, HWR.out⟩
      · obtain ⟨ba, oa, rfl, hba, hca⟩ := hwf.at (i := k) (by omega)
        obtain ⟨bb, ob, rfl, hbb, hcb⟩ := hwh.at (i := k) (by omega)
        have c1 : wr.cell? ⟨ba, oa + k, none⟩ = some (.int .u32 (f k : Int)) := by rw [HWR.out]; exact hca k (by omega)
        have c2 : wr.cell? ⟨bb, ob + k, none⟩ = some (.int .u32 (h k : Int)) := by rw [HWR.out]; exact hcb k (by omega)
        have b1 := Hf k (by omega)
        have b2 := Hh k (by omega)
        clear hca hcb
        rw [show ((k + 1 : Nat) : Int) - 1 = (k : Int) by omega]
        have p1 : (0 : Int) ≤ (k : Int) := by omega
        have p2 : (k : Int) < (n : Int) := by omega
        rcases Nat.lt_trichotomy (f k) (h k) with c | c | c
        · have hd : decide (f k < h k) = true := by simp; omega
          go_upto_region 8 with fail
          go_quiet (fail)
          go_wp2_with fail
          go_ret
          exact ⟨ret_of (by rw [cmp_of f h n k Hf Hh (by omega) (fun j a b => HE.out j (by omega) b) (by rw [cmpI_lt (by omega)]; decide), cmpI_lt (by omega)]; rfl), _, by (simp only [HWR.out, World.drewN_drewN]; rfl)⟩
        · have hd : decide (f k < h k) = false := by simp; omega
          have hd' : decide (h k < f k) = false := by simp; omega
          have C := Lib.hid c
          clear c
          go_upto_region 8 with fail
          go_quiet (fail)
          go_upto_region 10 with fail
          go_quiet (fail)
          go_wp2_with fail
          go_roundw
          case rel =>
            refine ⟨k, _, by omega, rfl, ?_, by (simp only [HWR.out, World.drewN_drewN]; rfl)⟩
            intro j a b
            by_cases e : j = k
            · subst e; exact C.out
            · exact HE.out j (by omega) b
          case measure => simp [intOf]
        · have hd : decide (f k < h k) = false := by simp; omega
          have hd' : decide (h k < f k) = true := by simp; omega
          go_upto_region 8 with fail
          go_quiet (fail)
          go_upto_region 10 with fail
          go_quiet (fail)
          go_wp2_with fail
          go_ret
          exact ⟨ret_of (by rw [cmp_of f h n k Hf Hh (by omega) (fun j a b => HE.out j (by omega) b) (by rw [cmpI_gt (by omega)]; decide), cmpI_gt (by omega)]; rfl), _, by (simp only [HWR.out, World.drewN_drewN]; rfl)⟩
  · have hlt := nv_lt_of_len Hh Hf Cf hnm
    have hb : ((n : Int) != (m : Int)) = true := by rw [bne_iff_ne]; omega
    have hl : ¬ (n : Int) < (m : Int) := by omega
    go_enter Tryz.func60, Tryz.ntmps60
    go_wp2_with fail
    go_ret
    exact ⟨ret_of (by rw [cmpI_gt (x := (nv f n : Int)) (by omega)]; rfl), 0, rfl⟩
end Go.Proofs.YtdbpkoddfcdhdaaGreat

namespace Go.Proofs.YtdbpkoddfcdhdaaGreat
open Go.RowKit
attribute [local go_sem ↓] Go.wp_at_zero Go.wp_at_succ

set_option maxRecDepth 100000 in
set_option maxHeartbeats 4000000 in
theorem row_any (b off n cap : Nat) (l : List Int) (w : World) (hn : n = l.length) (hl : n ≤ 1099511627776)
    (hc : ∀ i, i < n → w.cell? ⟨b, off + i, none⟩ = some (.int .i64 (l.getD i 0)))
    (hz : ∀ i, i < n → -9223372036854775808 ≤ l.getD i 0 ∧ l.getD i 0 ≤ 9223372036854775807) :
    Calls Tryz.prog 17 #[.slice (some ⟨b, off, none⟩) n cap] w fun e w' => ∃ v, e = .returned v ∧ Rw w' v l ∧ Below w.heap.size w w' := by
  have HC := Lib.hid hc
  have HZ := Lib.hid hz
  have HN := Lib.hid hn
  clear hc hz hn
  go_enter Tryz.func17, Tryz.ntmps17
  go_wp2_with fail
  go_loopw [3, 4] (fun s3 s wq => ∃ (i : Nat) (o : List Int) (u : Value), i ≤ n ∧ s = .int .i64 i ∧ o = l.take i ∧ s3 = u ∧ Ap wq w.heap.size u o ∧ Below w.heap.size w wq)
    (fun _ s _ => n - (intOf s).toNat)
  case atStart => exact ⟨0, [], _, Nat.zero_le _, rfl, rfl, rfl, Ap.lit0 _ (Nat.le_refl _), below_new _ _⟩
  case round =>
    obtain ⟨i, o, u, hi, rfl, ho, rfl, hAp, hbl⟩ := hrel
    have HO := Lib.hid ho
    have hol : o.length ≤ 1099511627776 := by rw [ho, List.length_take]; omega
    clear ho
    by_cases hlt : i < n
    · have c0 := keepc hbl (HC.out i hlt)
      obtain ⟨z0, z1⟩ := HZ.out i hlt
      have htk : l.take (i + 1) = l.take i ++ [l.getD i 0] := by
        have hln := HN.out
        rw [List.take_succ_eq_append_getElem (by omega)]
        simp [List.getD_eq_getElem?_getD, show i < l.length by omega]
      have HTK := Lib.hid htk
      clear htk
      have i0 : (0 : Int) ≤ (i : Int) := by omega
      have i1 : (i : Int) < (n : Int) := by omega
      generalize l.getD i 0 = z at *
      have hof := rof_any z
      have HOF := Lib.hid hof
      clear hof
      go_wp2_with fail
      refine (HOF.out _ z0 z1).mono ?_
      rintro e w2 ⟨v, rfl, hv, hb2⟩
      obtain ⟨s2, a2, n2, c2, rfl⟩ := hv.shape
      replace hAp := hAp.up hb2
      replace hbl := Bl.up hbl hb2
      clear hb2 c0 z0 z1
      have hsz := hbl.size
      go_wp2_with (at_builtin; go_must (refine wpl_apI rfl (.tmp 12) (.tmp 18) _ rfl Tryz.underlying36 w.heap.size _ o rfl (hAp.alloc _) (by simp; omega) w2.heap.size _ _ _ s2 a2 n2 c2 z rfl (heap_alloc_new _ _) (hv.alloc _) hol ?_); intro g cap w4 hAp4 hb4)
      go_roundw
      case rel => exact ⟨i + 1, _, _, by omega, by go_num, by rw [HTK.out, ← HO.out], rfl, hAp4, (Bl.alloc hbl _).trans hb4⟩
      case measure => simp [intOf]; omega
    · have hin : i = n := by omega
      have ho2 : o = l := by rw [HO.out, hin, HN.out]; exact List.take_length
      subst ho2
      have hR := hAp.rw
      clear hAp HO HC HZ hol
      go_wp2_with fail
      go_ret
      exact ⟨_, rfl, hR, hbl⟩
end Go.Proofs.YtdbpkoddfcdhdaaGreat

namespace Go.Proofs.YtdbpkoddfcdhdaaGreat
open Go.RowKit
attribute [local go_sem ↓] Go.wp_at_zero Go.wp_at_succ

theorem below_drewN (w : World) (k : Nat) : Below w.heap.size w (w.drewN k) := ⟨rfl, rfl, rfl, Nat.le_refl _, fun _ _ => rfl⟩

def sameB (x y : Int) : Bool := decide (x = y)

theorem same_signs (x y : Int) (h : (decide (x < 0) == decide (y < 0)) = false) : sameB x y = false := by
  unfold sameB
  rw [decide_eq_false_iff_not]
  rintro rfl
  simp at h

theorem same_size (x y : Int) (h : (decide (x < 0) == decide (y < 0)) = true) : (cmpI (x.natAbs : Int) (y.natAbs : Int) == 0) = sameB x y := by
  unfold sameB
  rw [Bool.eq_iff_iff]
  simp only [beq_iff_eq, decide_eq_true_eq, cmpI_zero] at *
  constructor
  · intro e
    by_cases h1 : x < 0 <;> by_cases h2 : y < 0 <;> simp [h1, h2] at h <;> omega
  · rintro rfl; rfl

set_option maxHeartbeats 1000000 in
theorem rsame_any (va vb : Value) (x y : Int) (w : World) (hx : It w va x) (hy : It w vb y) (hsx : sz x ≤ 4611686018427387904) (hsy : sz y ≤ 4611686018427387904) :
    Calls Tryz.prog 22 #[va, vb] w fun e w' => e = .returned (.bool (sameB x y)) ∧ Below w.heap.size w w' := by
  obtain ⟨a, ca, f, rfl, h1, h2, h3, h4, h5⟩ := hx.parts
  obtain ⟨b, cb, g, rfl, k1, k2, k3, k4, k5⟩ := hy.parts
  have H5 := Lib.hid h5
  have K5 := Lib.hid k5
  clear h5 k5
  obtain ⟨W, hW, hw, d1, d2, n1, n2, -⟩ := two_boxes w (decide (x < 0)) (decide (y < 0)) a b (sz x) (sz y) ca cb 56
  replace h2 := h2.up hw
  replace k2 := k2.up hw
  have p0 := d1.c0
  have p1 := d1.c1
  have q0 := d2.c0
  have q1 := d2.c1
  clear d1 d2 n1 n2 hx hy
  by_cases hs : (decide (x < 0) == decide (y < 0)) = false
  · rw [same_signs x y hs]
    generalize decide (x < 0) = sx at *
    generalize decide (y < 0) = sy at *
    go_enter Tryz.func22, Tryz.ntmps22
    go_wp2_with fail
    rw [← hW]
    go_ret
    exact ⟨rfl, hw⟩
  · rw [Bool.not_eq_false] at hs
    rw [← same_size x y hs]
    have hC := size_any a b (sz x) (sz y) ca cb f g W hsx hsy h2 k2 h3 k3 h4 k4
    rw [H5.out, K5.out] at hC
    generalize decide (x < 0) = sx at *
    generalize decide (y < 0) = sy at *
    go_enter Tryz.func22, Tryz.ntmps22
    go_wp2_with fail
    rw [← hW]
    clear hW
    refine hC.mono ?_
    rintro e w1 ⟨rfl, k, rfl⟩
    go_wp2_with fail
    go_ret
    exact ⟨rfl, hw.trans ((below_drewN W k).mono hw.size)⟩
/-- Two rows of small integers: are they equal? -/
def sameRowB (l m : List Int) : Bool := decide (l = m)

theorem sameRow_len (l m : List Int) (h : l.length ≠ m.length) : sameRowB l m = false := by
  unfold sameRowB; rw [decide_eq_false_iff_not]; rintro rfl; exact h rfl
theorem sameRow_at (l m : List Int) (i : Nat) (h : l.getD i 0 ≠ m.getD i 0) : sameRowB l m = false := by
  unfold sameRowB; rw [decide_eq_false_iff_not]; rintro rfl; exact h rfl
theorem sameRow_all (l m : List Int) (h : l.length = m.length) (h' : ∀ i, i < l.length → l.getD i 0 = m.getD i 0) : sameRowB l m = true := by
  unfold sameRowB; rw [decide_eq_true_eq]
  refine List.ext_getElem h fun i h1 h2 => ?_
  have := h' i h1
  simpa [List.getD_eq_getElem?_getD, h1, h2] using this

def SmallR (l : List Int) : Prop := ∀ k, sz (l.getD k 0) ≤ 4611686018427387904

set_option maxHeartbeats 2000000 in
theorem rsameRow_any (va vb : Value) (l m : List Int) (w : World) (ha : Rw w va l) (hb : Rw w vb m) (hN : l.length ≤ 1099511627776) (hM : m.length ≤ 1099511627776) (hsl : SmallR l) (hsm : SmallR m) :
    Calls Tryz.prog 13 #[va, vb] w fun e w' => e = .returned (.bool (sameRowB l m)) ∧ Below w.heap.size w w' := by
  obtain ⟨a, ca, rfl, hca, hra⟩ := ha
  obtain ⟨b, cb, rfl, hcb, hrb⟩ := hb
  by_cases hlen : l.length = m.length
  · have hb0 : ((l.length : Int) != (m.length : Int)) = false := by rw [hlen]; simp
    have HL := Lib.hid hlen
    clear hlen
    go_enter Tryz.func13, Tryz.ntmps13
    go_wp2_with fail
    go_loopw [5] (fun s wr => ∃ (i : Nat), i ≤ l.length ∧ s = .int .i64 i ∧ (∀ j, j < i → l.getD j 0 = m.getD j 0) ∧ Below w.heap.size w wr)
      (fun s _ => l.length - (intOf s).toNat)
    case atStart => exact ⟨0, Nat.zero_le _, rfl, fun j hj => absurd hj (Nat.not_lt_zero _), Below.refl _ _⟩
    case round =>
      obtain ⟨i, hi, rfl, hval, hbl⟩ := hrel
      have HV := Lib.hid hval
      clear hval
      by_cases hlt : i < l.length
      · have hlm : i < m.length := by rw [← HL.out]; exact hlt
        obtain ⟨ba, offa, rfl, hba, hla⟩ := hra.at hlt
        obtain ⟨bb, offb, rfl, hbb, hlb⟩ := hrb.at hlm
        obtain ⟨s1, a1, n1, k1, p0, p1, p2⟩ := hla i hlt
        obtain ⟨s2, a2, n2, k2, q0, q1, q2⟩ := hlb i hlm
        clear hla hlb hra hrb
        have i0 : (0 : Int) ≤ (i : Int) := by omega
        have i1 : (i : Int) < (l.length : Int) := by omega
        have i2 : (i : Int) < (m.length : Int) := by omega
        replace p0 := keepc hbl p0
        replace p1 := keepc hbl p1
        replace p2 := p2.up hbl
        replace q0 := keepc hbl q0
        replace q1 := keepc hbl q1
        replace q2 := q2.up hbl
        have hs1 := hsl i
        have hs2 := hsm i
        generalize hx : l.getD i 0 = x at p2 hs1
        generalize hy : m.getD i 0 = y at q2 hs2
        have HX := Lib.hid hx
        have HY := Lib.hid hy
        clear hx hy
        cases hxy : sameB x y with
        | true =>
          have HXY := Lib.hid hxy
          clear hxy
          go_upto_region 6 with fail
          go_region_held3 (fun w' => w'.cell? ⟨ba, offa + i * 2, none⟩ = some (.bool s1) ∧ w'.cell? ⟨ba, offa + i * 2 + 1, none⟩ = some (.slice a1 n1 k1) ∧ w'.cell? ⟨bb, offb + i * 2, none⟩ = some (.bool s2) ∧ w'.cell? ⟨bb, offb + i * 2 + 1, none⟩ = some (.slice a2 n2 k2))
            ((repeat' (first | with_reducible assumption | (with_reducible refine And.intro ?_ ?_) | (with_reducible refine cellD ?_) | (with_reducible refine cellN ?_ _) | (with_reducible refine cellS ?_ (by omega)) | (with_reducible refine keepc (by with_reducible assumption) ?_))))
            (first
              | (go_at_call 22; with_reducible (refine (rsame_any _ _ x y _ (by exact srch) (by exact srch) (by exact hs1) (by exact hs2)).mono ?_); rintro e w2 ⟨rfl, hb2⟩; rw [HXY.out]))
          go_wp2_with fail
          go_roundw
          case rel =>
            refine ⟨i + 1, by omega, by go_num, fun j hj => ?_, Bl.up (Bl.drew hbl) hb2⟩
            by_cases e : j = i
            · subst e; rw [HX.out, HY.out]; exact of_decide_eq_true HXY.out
            · exact HV.out j (by omega)
          case measure => simp [intOf]; omega
        | false =>
          have HXY := Lib.hid hxy
          clear hxy
          go_upto_region 6 with fail
          go_region_held3 (fun w' => w'.cell? ⟨ba, offa + i * 2, none⟩ = some (.bool s1) ∧ w'.cell? ⟨ba, offa + i * 2 + 1, none⟩ = some (.slice a1 n1 k1) ∧ w'.cell? ⟨bb, offb + i * 2, none⟩ = some (.bool s2) ∧ w'.cell? ⟨bb, offb + i * 2 + 1, none⟩ = some (.slice a2 n2 k2))
            ((repeat' (first | with_reducible assumption | (with_reducible refine And.intro ?_ ?_) | (with_reducible refine cellD ?_) | (with_reducible refine cellN ?_ _) | (with_reducible refine cellS ?_ (by omega)) | (with_reducible refine keepc (by with_reducible assumption) ?_))))
            (first
              | (go_at_call 22; with_reducible (refine (rsame_any _ _ x y _ (by exact srch) (by exact srch) (by exact hs1) (by exact hs2)).mono ?_); rintro e w2 ⟨rfl, hb2⟩; rw [HXY.out]))
          go_wp2_with fail
          go_ret
          exact ⟨ret_of (by rw [sameRow_at l m i (by rw [HX.out, HY.out]; exact of_decide_eq_false HXY.out)]; rfl), Bl.up (Bl.drew hbl) hb2⟩
      · have hin : i = l.length := by omega
        subst hin
        go_wp2_with fail
        go_ret
        exact ⟨ret_of (by rw [sameRow_all l m HL.out HV.out]; rfl), hbl⟩
  · have hb0 : ((l.length : Int) != (m.length : Int)) = true := by rw [bne_iff_ne]; omega
    have hR := sameRow_len l m hlen
    have HR := Lib.hid hR
    clear hR hlen
    go_enter Tryz.func13, Tryz.ntmps13
    go_wp2_with fail
    go_ret
    exact ⟨ret_of (by rw [HR.out]; rfl), Below.refl _ _⟩

def sameMB (l m : List (List Int)) : Bool := decide (l = m)
theorem sameM_len (l m : List (List Int)) (h : l.length ≠ m.length) : sameMB l m = false := by
  unfold sameMB; rw [decide_eq_false_iff_not]; rintro rfl; exact h rfl
theorem sameM_at (l m : List (List Int)) (i : Nat) (h : l.getD i [] ≠ m.getD i []) : sameMB l m = false := by
  unfold sameMB; rw [decide_eq_false_iff_not]; rintro rfl; exact h rfl
theorem sameM_all (l m : List (List Int)) (h : l.length = m.length) (h' : ∀ i, i < l.length → l.getD i [] = m.getD i []) : sameMB l m = true := by
  unfold sameMB; rw [decide_eq_true_eq]
  refine List.ext_getElem h fun i h1 h2 => ?_
  have := h' i h1
  simpa [List.getD_eq_getElem?_getD, h1, h2] using this

set_option maxHeartbeats 2000000 in
theorem rsameM_any (va vb : Value) (l m : List (List Int)) (w : World) (ha : Mx w va l) (hb : Mx w vb m) (hN : l.length ≤ 1099511627776) (hM : m.length ≤ 1099511627776) (hsl : ∀ i, SmallR (l.getD i [])) (hsm : ∀ i, SmallR (m.getD i []))
    (hrl : ∀ i, (l.getD i []).length ≤ 1099511627776) (hrm : ∀ i, (m.getD i []).length ≤ 1099511627776) :
    Calls Tryz.prog 12 #[va, vb] w fun e w' => e = .returned (.bool (sameMB l m)) ∧ Below w.heap.size w w' := by
  obtain ⟨a, ca, rfl, hca, hra⟩ := ha
  obtain ⟨b, cb, rfl, hcb, hrb⟩ := hb
  by_cases hlen : l.length = m.length
  · have hb0 : ((l.length : Int) != (m.length : Int)) = false := by rw [hlen]; simp
    have HL := Lib.hid hlen
    clear hlen
    go_enter Tryz.func12, Tryz.ntmps12
    go_wp2_with fail
    go_loopw [5] (fun s wr => ∃ (i : Nat), i ≤ l.length ∧ s = .int .i64 i ∧ (∀ j, j < i → l.getD j [] = m.getD j []) ∧ Below w.heap.size w wr)
      (fun s _ => l.length - (intOf s).toNat)
    case atStart => exact ⟨0, Nat.zero_le _, rfl, fun j hj => absurd hj (Nat.not_lt_zero _), Below.refl _ _⟩
    case round =>
      obtain ⟨i, hi, rfl, hval, hbl⟩ := hrel
      have HV := Lib.hid hval
      clear hval
      by_cases hlt : i < l.length
      · have hlm : i < m.length := by rw [← HL.out]; exact hlt
        obtain ⟨ba, offa, rfl, hba, hla⟩ := hra.at hlt
        obtain ⟨bb, offb, rfl, hbb, hlb⟩ := hrb.at hlm
        obtain ⟨a1, k1, p0, p2⟩ := hla i hlt
        obtain ⟨a2, k2, q0, q2⟩ := hlb i hlm
        clear hla hlb hra hrb
        have i0 : (0 : Int) ≤ (i : Int) := by omega
        have i1 : (i : Int) < (l.length : Int) := by omega
        have i2 : (i : Int) < (m.length : Int) := by omega
        replace p0 := keepc hbl p0
        replace p2 := p2.up hbl
        replace q0 := keepc hbl q0
        replace q2 := q2.up hbl
        have hs1 := hsl i
        have hs2 := hsm i
        have hr1 := hrl i
        have hr2 := hrm i
        clear hsl hsm hrl hrm
        generalize hx : l.getD i [] = x at p0 p2 hs1 hr1
        generalize hy : m.getD i [] = y at q0 q2 hs2 hr2
        have HX := Lib.hid hx
        have HY := Lib.hid hy
        clear hx hy
        have hC := fun W (hW : Below wr.heap.size wr W) => rsameRow_any _ _ x y W (p2.up hW) (q2.up hW) hr1 hr2 hs1 hs2
        cases hxy : sameRowB x y with
        | true =>
          have HXY := Lib.hid hxy
          rw [hxy] at hC
          clear hxy
          go_upto_region 6 with fail
          go_region_held3 (fun w' => w'.cell? ⟨ba, offa + i, none⟩ = some (.slice a1 x.length k1) ∧ w'.cell? ⟨bb, offb + i, none⟩ = some (.slice a2 y.length k2))
            ((repeat' (first | with_reducible assumption | (with_reducible refine And.intro ?_ ?_) | (with_reducible refine cellD ?_) | (with_reducible refine cellN ?_ _) | (with_reducible refine cellS ?_ (by omega)) | (with_reducible refine keepc (by with_reducible assumption) ?_))))
            (first
              | (go_at_call 13; with_reducible (refine (hC _ (by exact Below.drew (Below.refl _ _))).mono ?_); rintro e w2 ⟨rfl, hb2⟩))
          go_wp2_with fail
          go_roundw
          case rel =>
            refine ⟨i + 1, by omega, by go_num, fun j hj => ?_, Bl.up (Bl.drew hbl) hb2⟩
            by_cases e : j = i
            · subst e; rw [HX.out, HY.out]; exact of_decide_eq_true HXY.out
            · exact HV.out j (by omega)
          case measure => simp [intOf]; omega
        | false =>
          have HXY := Lib.hid hxy
          rw [hxy] at hC
          clear hxy
          go_upto_region 6 with fail
          go_region_held3 (fun w' => w'.cell? ⟨ba, offa + i, none⟩ = some (.slice a1 x.length k1) ∧ w'.cell? ⟨bb, offb + i, none⟩ = some (.slice a2 y.length k2))
            ((repeat' (first | with_reducible assumption | (with_reducible refine And.intro ?_ ?_) | (with_reducible refine cellD ?_) | (with_reducible refine cellN ?_ _) | (with_reducible refine cellS ?_ (by omega)) | (with_reducible refine keepc (by with_reducible assumption) ?_))))
            (first
              | (go_at_call 13; with_reducible (refine (hC _ (by exact Below.drew (Below.refl _ _))).mono ?_); rintro e w2 ⟨rfl, hb2⟩))
          go_wp2_with fail
          go_ret
          exact ⟨ret_of (by rw [sameM_at l m i (by rw [HX.out, HY.out]; exact of_decide_eq_false HXY.out)]; rfl), Bl.up (Bl.drew hbl) hb2⟩
      · have hin : i = l.length := by omega
        subst hin
        go_wp2_with fail
        go_ret
        exact ⟨ret_of (by rw [sameM_all l m HL.out HV.out]; rfl), hbl⟩
  · have hb0 : ((l.length : Int) != (m.length : Int)) = true := by rw [bne_iff_ne]; omega
    have hR := sameM_len l m hlen
    have HR := Lib.hid hR
    clear hR hlen
    go_enter Tryz.func12, Tryz.ntmps12
    go_wp2_with fail
    go_ret
    exact ⟨ret_of (by rw [HR.out]; rfl), Below.refl _ _⟩
end Go.Proofs.YtdbpkoddfcdhdaaGreat

namespace Go.Proofs.YtdbpkoddfcdhdaaGreat
open Go.RowKit
attribute [local go_sem ↓] Go.wp_at_zero Go.wp_at_succ

/-- A variable of type got that holds nothing yet: what was made since does not lie in it. -/
theorem rw_got {w : World} {a : Option Addr} {N cap : Nat} {l : List Int} (h : Rw w (.slice a N cap) l) {B : Nat} (h0 : w.cell? ⟨B, 0, none⟩ = some (.slice none 0 0)) (h1 : w.cell? ⟨B, 1, none⟩ = some (.int .i64 0)) (x u : Value) :
    Rw ((w.setCell ⟨B, 0, none⟩ x).setCell ⟨B, 1, none⟩ u) (.slice a N cap) l := by
  have h1' : (w.setCell ⟨B, 0, none⟩ x).cell? ⟨B, 1, none⟩ = some (.int .i64 0) := by rw [World.cell?_setCell_other _ _ _ _ (by simp)]; exact h1
  have keep : ∀ {b o : Nat} {v : Value}, w.cell? ⟨b, o, none⟩ = some v → v ≠ .slice none 0 0 ∨ o ≠ 0 → v ≠ .int .i64 0 → ((w.setCell ⟨B, 0, none⟩ x).setCell ⟨B, 1, none⟩ u).cell? ⟨b, o, none⟩ = some v := by
    intro b o v e d0 d1
    rw [World.cell?_setCell_other, World.cell?_setCell_other]
    · exact e
    · intro he
      rw [← he, h0] at e
      injection e with e
      rcases d0 with d | d
      · exact d e.symm
      · injection he with _ e2
        exact d e2.symm
    · intro he
      rw [← he, h1] at e
      injection e with e
      exact d1 e.symm
  obtain ⟨a', cap', e, p2, p3⟩ := h
  injection e with e1 e2 e3
  subst e1 e3
  refine ⟨_, _, by rw [← e2], p2, ?_⟩
  rcases p3 with h | ⟨b, off, e1, e2', e3⟩
  · exact .inl h
  · refine .inr ⟨b, off, e1, by simpa using e2', fun j hj => ?_⟩
    obtain ⟨s', c', n', k', c0, c1, c2⟩ := e3 j hj
    exact ⟨s', c', n', k', keep c0 (.inl (by simp)) (by simp), keep c1 (.inr (by omega)) (by simp), (c2.setAt h0 rfl x).setAt h1' rfl u⟩

theorem mx_got {w : World} {v : Value} {m : List (List Int)} (h : Mx w v m) (hm : ∀ i, i < m.length → 0 < (m.getD i []).length) {B : Nat} (h0 : w.cell? ⟨B, 0, none⟩ = some (.slice none 0 0)) (h1 : w.cell? ⟨B, 1, none⟩ = some (.int .i64 0)) (x u : Value) :
    Mx ((w.setCell ⟨B, 0, none⟩ x).setCell ⟨B, 1, none⟩ u) v m := by
  obtain ⟨a, cap, e, p2, p3⟩ := h
  refine ⟨a, cap, e, p2, ?_⟩
  rcases p3 with h | ⟨b, off, e1, e2', e3⟩
  · exact .inl h
  · refine .inr ⟨b, off, e1, by simpa using e2', fun j hj => ?_⟩
    obtain ⟨c', k', c0, c1⟩ := e3 j hj
    refine ⟨c', k', ?_, rw_got c1 h0 h1 x u⟩
    have hl := hm j hj
    rw [World.cell?_setCell_other, World.cell?_setCell_other]
    · exact c0
    · intro he
      rw [← he, h0] at c0
      injection c0 with c0
      injection c0 with _ c0 _
      omega
    · intro he
      rw [← he, h1] at c0
      injection c0 with c0
      cases c0

theorem ret_got {fn : Func} {R : Ending → World → Prop} {t : Tmp} {a : Act} {w : World} {B : Nat} {x y : Value} (hr : fn.results = #[.cell t 31]) (ht : a.tmps.getD t undef = .pointer (some ⟨B, 0, none⟩)) (hd : a.defers = [])
    (h0 : w.cell? ⟨B, 0, none⟩ = some x) (h1 : w.cell? ⟨B, 1, none⟩ = some y) (hR : R (.returned (.agg #[x, y])) w) : bodyPost Tryz.prog fn R .ret a w := by
  refine bodyPost_ret ?_ hd hR
  have hl : (loadVar 31 ⟨B, 0, none⟩).run Tryz.prog w = .ok (.agg #[x, y]) w := by simp [go_sem, h0, h1]
  have ht' : a.tmps[t]?.getD undef = .pointer (some ⟨B, 0, none⟩) := by simpa using ht
  have hA : (asAddr (.pointer (some ⟨B, 0, none⟩))).run Tryz.prog w = .ok ⟨B, 0, none⟩ w := rfl
  simp [results, hr, ht', hl, hA]

set_option maxHeartbeats 4000000 in
theorem Lhermite_any (v : Value) (w : World) (e0 : Int) (R : List (List Int) → Prop) (hR : ∀ m, R m → ∀ i, i < m.length → 0 < (m.getD i []).length)
    (hH : ∀ W, Below w.heap.size w W → Calls Tryz.prog 25 #[v] W fun e w' => ∃ v' m, e = .returned (.tuple #[v', .int .i64 e0]) ∧ R m ∧ Mx w' v' m ∧ Below W.heap.size W w') :
    Calls Tryz.prog 7 #[v] w fun e w' => ∃ v' m, e = .returned (.agg #[v', .int .i64 e0]) ∧ R m ∧ Mx w' v' m ∧ Below w.heap.size w w' := by
  have HH := Lib.hid hH
  clear hH
  go_enter Tryz.func7, Tryz.ntmps7
  go_wp2_with fail
  refine (HH.out _ (below_new _ _)).mono ?_
  rintro e w1 ⟨v1, m1, rfl, hr, hm, hb1⟩
  obtain ⟨a, cap, rfl, hcap, hmi⟩ := id hm
  have h0 : w1.cell? ⟨w.heap.size, 0, none⟩ = some (.slice none 0 0) := by rw [hb1.cell (p := ⟨w.heap.size, 0, none⟩) (by simp), World.cell?_alloc_at _ _ _ _ rfl]; rfl
  have h1 : w1.cell? ⟨w.heap.size, 1, none⟩ = some (.int .i64 0) := by rw [hb1.cell (p := ⟨w.heap.size, 1, none⟩) (by simp), World.cell?_alloc_at _ _ _ _ rfl]; rfl
  have f0 : w1.frozen? ⟨w.heap.size, 0, none⟩ = false := by rw [hb1.frozen (p := ⟨w.heap.size, 0, none⟩) (by simp)]; simp
  have f1 : w1.frozen? ⟨w.heap.size, 1, none⟩ = false := by rw [hb1.frozen (p := ⟨w.heap.size, 1, none⟩) (by simp)]; simp
  go_wp2_with fail
  refine ret_got (B := w.heap.size) rfl rfl rfl (by rw [World.cell?_setCell_other _ _ _ _ (by simp)]; exact World.cell?_setCell_same _ _ _ h0) (World.cell?_setCell_same _ _ _ (by rw [World.cell?_setCell_other _ _ _ _ (by simp)]; exact h1)) ?_
  have hbw := (below_new w (.cells #[.slice none 0 0, .int .i64 0] 31)).trans (hb1.mono (by simp))
  exact ⟨_, m1, rfl, hr, mx_got hm (hR m1 hr) h0 h1 _ _, (hbw.setCell (Nat.le_refl _) _).setCell (Nat.le_refl _) _⟩

set_option maxHeartbeats 4000000 in
theorem Lkernel_any (v : Value) (w : World) (e0 : Int) (R : List (List Int) → Prop) (hR : ∀ m, R m → ∀ i, i < m.length → 0 < (m.getD i []).length)
    (hH : ∀ W, Below w.heap.size w W → Calls Tryz.prog 26 #[v] W fun e w' => ∃ v' m, e = .returned (.tuple #[v', .int .i64 e0]) ∧ R m ∧ Mx w' v' m ∧ Below W.heap.size W w') :
    Calls Tryz.prog 8 #[v] w fun e w' => ∃ v' m, e = .returned (.agg #[v', .int .i64 e0]) ∧ R m ∧ Mx w' v' m ∧ Below w.heap.size w w' := by
  have HH := Lib.hid hH
  clear hH
  go_enter Tryz.func8, Tryz.ntmps8
  go_wp2_with fail
  refine (HH.out _ (below_new _ _)).mono ?_
  rintro e w1 ⟨v1, m1, rfl, hr, hm, hb1⟩
  obtain ⟨a, cap, rfl, hcap, hmi⟩ := id hm
  have h0 : w1.cell? ⟨w.heap.size, 0, none⟩ = some (.slice none 0 0) := by rw [hb1.cell (p := ⟨w.heap.size, 0, none⟩) (by simp), World.cell?_alloc_at _ _ _ _ rfl]; rfl
  have h1 : w1.cell? ⟨w.heap.size, 1, none⟩ = some (.int .i64 0) := by rw [hb1.cell (p := ⟨w.heap.size, 1, none⟩) (by simp), World.cell?_alloc_at _ _ _ _ rfl]; rfl
  have f0 : w1.frozen? ⟨w.heap.size, 0, none⟩ = false := by rw [hb1.frozen (p := ⟨w.heap.size, 0, none⟩) (by simp)]; simp
  have f1 : w1.frozen? ⟨w.heap.size, 1, none⟩ = false := by rw [hb1.frozen (p := ⟨w.heap.size, 1, none⟩) (by simp)]; simp
  go_wp2_with fail
  refine ret_got (B := w.heap.size) rfl rfl rfl (by rw [World.cell?_setCell_other _ _ _ _ (by simp)]; exact World.cell?_setCell_same _ _ _ h0) (World.cell?_setCell_same _ _ _ (by rw [World.cell?_setCell_other _ _ _ _ (by simp)]; exact h1)) ?_
  have hbw := (below_new w (.cells #[.slice none 0 0, .int .i64 0] 31)).trans (hb1.mono (by simp))
  exact ⟨_, m1, rfl, hr, mx_got hm (hR m1 hr) h0 h1 _ _, (hbw.setCell (Nat.le_refl _) _).setCell (Nat.le_refl _) _⟩

/-- in: what In says, and no error. -/
theorem Lin_any (v vx : Value) (w : World) (bb : Bool) (e0 : Int)
    (hH : ∀ W, Below w.heap.size w W → Calls Tryz.prog 16 #[v, vx] W fun e w' => e = .returned (.tuple #[.bool bb, .int .i64 e0]) ∧ Below W.heap.size W w') :
    Calls Tryz.prog 24 #[v, vx] w fun e w' => e = .returned (.bool (bb && decide (e0 = 0))) ∧ Below w.heap.size w w' := by
  have HH := Lib.hid hH
  clear hH
  go_enter Tryz.func24, Tryz.ntmps24
  go_wp2_with fail
  refine (HH.out _ (Below.refl _ _)).mono ?_
  rintro e w1 ⟨rfl, hb1⟩
  cases bb with
  | true =>
    by_cases h0 : e0 = 0
    · subst h0
      go_wp2_with fail
      go_ret
      exact ⟨rfl, hb1⟩
    · have hne : (e0 == 0) = false := by simpa using h0
      go_wp2_with fail
      go_ret
      exact ⟨by simp [h0], hb1⟩
  | false =>
    go_wp2_with fail
    go_ret
    exact ⟨rfl, hb1⟩
end Go.Proofs.YtdbpkoddfcdhdaaGreat

namespace Go.Proofs.YtdbpkoddfcdhdaaGreat

open Go.RowKit

theorem exHermite (v : Value) (w : World) (h : Mx w v [[4, 6], [2, 8]]) :
    Calls Tryz.prog 25 #[v] w fun e w' => ∃ v', e = .returned (.tuple #[v', .int .i64 0]) ∧ Mx w' v' [[2, 8], [0, 10]] ∧ Below w.heap.size w w' := by
  obtain ⟨P1, P2, P3, pl, h0, h1⟩ := plan_one ex_her
  refine (Hermite_ok pl v _ w h h0 (by decide) (by decide) (by decide) (by decide)).mono ?_
  rintro e w' ⟨v', r, c, B, rfl, hP, hc, -, hM, hb⟩
  obtain ⟨rfl, rfl⟩ := h1 r c B hP hc
  exact ⟨v', rfl, hM, hb⟩

theorem exRank (v : Value) (w : World) (h : Mx w v [[4, 6], [2, 8]]) :
    Calls Tryz.prog 10 #[v] w fun e w' => e = .returned (.tuple #[.int .i64 2, .int .i64 0]) ∧ Below w.heap.size w w' := by
  obtain ⟨P1, P2, P3, pl, h0, h1⟩ := plan_one ex_her
  refine (Rank_ok pl v _ w h h0 (by decide) (by decide) (by decide) (by decide)).mono ?_
  rintro e w' ⟨r, c, B, rfl, hP, hc, -, hb⟩
  obtain ⟨rfl, rfl⟩ := h1 r c B hP hc
  exact ⟨rfl, hb⟩

theorem ex_trk : simOk 2 4 4 (unitM [[1, 2], [2, 4]] 2 2) 2 [[1, 2, 1, 0], [0, 0, 2, -1]] = true := by decide +kernel
theorem ex_trk2 : simOk 2 4 4 (unitM [[4, 6], [2, 8]] 2 2) 2 [[2, 8, 0, 1], [0, 10, -1, 2]] = true := by decide +kernel
theorem ex_tr : simOk 2 2 2 (trM [[2, 8], [0, 10]]) 2 [[2, 0], [0, 10]] = true := by decide +kernel

theorem exKernel (v : Value) (w : World) (h : Mx w v [[1, 2], [2, 4]]) :
    Calls Tryz.prog 26 #[v] w fun e w' => ∃ v', e = .returned (.tuple #[v', .int .i64 0]) ∧ Mx w' v' [[2, -1]] ∧ Below w.heap.size w w' := by
  obtain ⟨P1, P2, P3, pl, h0, h1⟩ := plan_one ex_trk
  refine (Kernel_ok (R := 2) (n := 2) pl v _ w h (shB_out (by decide)) h0 (by decide) (by decide) (by decide) (by decide)).mono ?_
  rintro e w' ⟨v', r, c, B, rfl, hP, hc, -, hM, hb⟩
  obtain ⟨rfl, rfl⟩ := h1 r c B hP hc
  exact ⟨v', rfl, hM, hb⟩

def solOk (R n : Nat) (A : List (List Int)) (L : List (Nat × List Int)) : Bool :=
  L.all fun (i, l) => l.length == n + R && (l.all fun x => decide (x.natAbs < 4294967296)) &&
    (!(decide (i < R) && decide (0 ≤ idxI nz ((A.getD i []).take n)) && decide ((idxI nz ((A.getD i []).take n)).toNat < n)) ||
      L.contains (i + 1, lessR l (l.getD (idxI nz ((A.getD i []).take n)).toNat 0 / (A.getD i []).getD (idxI nz ((A.getD i []).take n)).toNat 0) (A.getD i [])))

theorem splan_of {R n : Nat} {A : List (List Int)} {L : List (Nat × List Int)} (h : solOk R n A L = true) : SPlan R n A (fun i l => (i, l) ∈ L) := by
  unfold solOk at h
  simp only [List.all_eq_true, Prod.forall, Bool.and_eq_true, Bool.or_eq_true, Bool.not_eq_true', Bool.and_eq_false_iff, decide_eq_false_iff_not, decide_eq_true_eq, List.contains_iff_mem, beq_iff_eq] at h
  refine ⟨fun {i l} hm => ⟨(h _ _ hm).1.1, fun k => ?_⟩, fun {i l k} hm hi hk hkn => ?_⟩
  · refine Nat.le_trans (words_le_of_lt (n := 1) ?_) (by decide)
    rcases Nat.lt_or_ge k l.length with hk | hk
    · have e2 : l.getD k 0 = l[k] := by simp [List.getD_eq_getElem?_getD, hk]
      rw [e2]
      simpa using (h _ _ hm).1.2 _ (List.getElem_mem hk)
    · simp [List.getD_eq_getElem?_getD, hk]
  · have h2 := (h _ _ hm).2
    rw [hk] at h2
    simp only [Int.toNat_natCast] at h2
    rcases h2 with (h2 | h2) | h2
    · rcases h2 with h2 | h2 <;> omega
    · omega
    · exact h2

theorem exSolve (v u : Value) (w : World) (h : Mx w v [[4, 6], [2, 8]]) (hu : Rw w u [1, 0]) :
    Calls Tryz.prog 19 #[v, u] w fun e w' => e = .returned (.tuple #[.slice none 0 0, .int .i64 6]) ∧ Below w.heap.size w w' := by
  obtain ⟨P1, P2, P3, pl, h0, h1⟩ := plan_one ex_trk2
  refine (Solve_ok (R := 2) (n := 2) pl v u _ _ w h hu (shB_out (by decide)) rfl h0 (by decide) (by decide) (by decide) (by decide)
    (fun _ i l => (i, l) ∈ [(0, [1, 0, 0, 0]), (1, [1, 0, 0, 0]), (2, [1, 0, 0, 0])]) (fun r c B hP hc => ?_)).mono ?_
  · obtain ⟨rfl, rfl⟩ := h1 r c B hP hc
    exact ⟨smB_out (by decide), splan_of (by decide +kernel), by decide⟩
  · rintro e w' ⟨r, c, B, i, t, hP, hc, -, hS, -, hi, hb, he⟩
    obtain ⟨rfl, rfl⟩ := h1 r c B hP hc
    have ht : t = [1, 0, 0, 0] := by simp at hS; rcases hS with h | h | h <;> exact h.2
    subst ht
    rcases he with ⟨-, rfl⟩ | ⟨h, -⟩
    · exact ⟨rfl, hb⟩
    · exact absurd h (by decide)

theorem exSolve1 (v u : Value) (w : World) (h : Mx w v [[4, 6], [2, 8]]) (hu : Rw w u [6, 4]) :
    Calls Tryz.prog 19 #[v, u] w fun e w' => ∃ v', e = .returned (.tuple #[v', .int .i64 0]) ∧ Below w.heap.size w w' := by
  obtain ⟨P1, P2, P3, pl, h0, h1⟩ := plan_one ex_trk2
  refine (Solve_ok (R := 2) (n := 2) pl v u _ _ w h hu (shB_out (by decide)) rfl h0 (by decide) (by decide) (by decide) (by decide)
    (fun _ i l => (i, l) ∈ [(0, [6, 4, 0, 0]), (1, [0, -20, 0, -3]), (2, [0, 0, -2, 1])]) (fun r c B hP hc => ?_)).mono ?_
  · obtain ⟨rfl, rfl⟩ := h1 r c B hP hc
    exact ⟨smB_out (by decide), splan_of (by decide +kernel), by decide⟩
  · rintro e w' ⟨r, c, B, i, t, hP, hc, -, hS, -, hi, hb, he⟩
    obtain ⟨rfl, rfl⟩ := h1 r c B hP hc
    have hit : (i, t) = (2, [0, 0, -2, 1]) := by
      simp at hS
      rcases hS with ⟨rfl, -⟩ | ⟨rfl, -⟩ | ⟨rfl, rfl⟩
      · exact absurd hi (by decide)
      · exact absurd hi (by decide)
      · rfl
    injection hit with e1 e2
    subst e2
    rcases he with ⟨h, -⟩ | ⟨-, v', rfl, -⟩
    · exact absurd h (by decide)
    · exact ⟨v', rfl, hb⟩

theorem exIn0 (v u : Value) (w : World) (h : Mx w v [[4, 6], [2, 8]]) (hu : Rw w u [1, 0]) :
    Calls Tryz.prog 16 #[v, u] w fun e w' => e = .returned (.tuple #[.bool false, .int .i64 0]) ∧ Below w.heap.size w w' := by
  refine In_of v u w (fun w' => Below w.heap.size w w') false ((exSolve v u w h hu).mono ?_)
  rintro e w' ⟨rfl, hb⟩
  exact ⟨_, rfl, hb⟩

theorem exIn1 (v u : Value) (w : World) (h : Mx w v [[4, 6], [2, 8]]) (hu : Rw w u [6, 4]) :
    Calls Tryz.prog 16 #[v, u] w fun e w' => e = .returned (.tuple #[.bool true, .int .i64 0]) ∧ Below w.heap.size w w' := by
  refine In_of v u w (fun w' => Below w.heap.size w w') true ((exSolve1 v u w h hu).mono ?_)
  rintro e w' ⟨v', rfl, hb⟩
  exact ⟨_, rfl, hb⟩

theorem exDetPlan : DetPlan 2 (fun k m d ng => (k, m, d, ng) ∈ [(0, [[4, 6], [2, 8]], (1 : Int), false), (1, [[4, 6], [0, 20]], 4, false), (2, [[4, 6], [0, 20]], 20, false)])
    (fun k i m d ng => (k, i, m, d, ng) ∈ [(0, 1, [[4, 6], [2, 8]], (1 : Int), false), (0, 2, [[4, 6], [0, 20]], 1, false), (1, 2, [[4, 6], [0, 20]], 4, false)]) where
  sp := by
    intro k m d ng h
    simp at h
    rcases h with ⟨rfl, rfl, rfl, rfl⟩ | ⟨rfl, rfl, rfl, rfl⟩ | ⟨rfl, rfl, rfl, rfl⟩ <;> exact ⟨shB_out (by decide), smB_out (by decide), by decide, by decide⟩
  sq := by
    intro k i m d ng h
    simp at h
    rcases h with ⟨rfl, rfl, rfl, rfl, rfl⟩ | ⟨rfl, rfl, rfl, rfl, rfl⟩ | ⟨rfl, rfl, rfl, rfl, rfl⟩ <;> exact ⟨shB_out (by decide), smB_out (by decide), by decide, by decide⟩
  piv0 := by
    intro k m d ng h hk _
    simp at h
    rcases h with ⟨rfl, rfl, rfl, rfl⟩ | ⟨rfl, rfl, rfl, rfl⟩ | ⟨rfl, rfl, rfl, rfl⟩
    · decide
    · decide
    · omega
  piv := by
    intro k m d ng p h hk hi hp hkp
    simp at h
    rcases h with ⟨rfl, rfl, rfl, rfl⟩ | ⟨rfl, rfl, rfl, rfl⟩ | ⟨rfl, rfl, rfl, rfl⟩
    · have : p = 1 := by omega
      subst this
      exact absurd hi (by decide)
    · omega
    · omega
  elim := by
    intro k i m d ng h hk hi
    simp at h
    rcases h with ⟨rfl, rfl, rfl, rfl, rfl⟩ | ⟨rfl, rfl, rfl, rfl, rfl⟩ | ⟨rfl, rfl, rfl, rfl, rfl⟩
    · decide
    · omega
    · omega
  next := by
    intro k m d ng h
    simp at h
    rcases h with ⟨rfl, rfl, rfl, rfl⟩ | ⟨rfl, rfl, rfl, rfl⟩ <;> decide

theorem exDet (v : Value) (w : World) (h : Mx w v [[4, 6], [2, 8]]) :
    Calls Tryz.prog 21 #[v] w fun e w' => ∃ v', e = .returned (.tuple #[v', .int .i64 0]) ∧ It w' v' 20 ∧ Below w.heap.size w w' := by
  refine (Det_ok exDetPlan v _ w h (by decide) (by decide) (by decide)).mono ?_
  rintro e w' ⟨v', z, rfl, hz, hD, hb⟩
  have : z = 20 := by
    rcases hD with ⟨k, m, d, ng, hP, hk, hi, -⟩ | ⟨m, d, ng, hP, rfl⟩
    · simp at hP
      rcases hP with ⟨rfl, rfl, rfl, rfl⟩ | ⟨rfl, rfl, rfl, rfl⟩ | ⟨rfl, rfl, rfl, rfl⟩
      · exact absurd hi (by decide)
      · exact absurd hi (by decide)
      · omega
    · simp at hP
      obtain ⟨rfl, rfl, rfl⟩ := hP
      rfl
  subst this
  exact ⟨v', rfl, hz, hb⟩

theorem exHPlan : HPlan (fun h => h = [[2, 8], [0, 10]] ∨ h = [[2, 0], [0, 10]]) (fun h => if h = [[2, 8], [0, 10]] then 1 else 0) where
  s := by
    rintro h (rfl | rfl)
    · exact .inr ⟨2, 2, by decide, by decide, by decide, shB_out (by decide)⟩
    · exact .inr ⟨2, 2, by decide, by decide, by decide, shB_out (by decide)⟩
  step := by
    rintro h (rfl | rfl) hd
    · obtain ⟨P1, P2, P3, pl, h0, h1⟩ := plan_one ex_tr
      refine ⟨2, 2, P1, P2, P3, pl, by decide, by decide, by decide, h0, fun r c B hP hc _ => ?_⟩
      obtain ⟨rfl, rfl⟩ := h1 r c B hP hc
      exact ⟨.inr rfl, by decide⟩
    · exact absurd hd (by decide)

theorem exSmith (v : Value) (w : World) (h : Mx w v [[4, 6], [2, 8]]) :
    Calls Tryz.prog 11 #[v] w fun e w' => ∃ v', e = .returned (.tuple #[v', .int .i64 0]) ∧ Rw w' v' [2, 10] ∧ Below w.heap.size w w' := by
  refine (Smith_ok v _ w h (by decide) (by decide) _ _ exHPlan ?_ (fun _ _ _ l => l = [2, 10]) ?_).mono ?_
  · intro W hW
    obtain ⟨P1, P2, P3, pl, h0, h1⟩ := plan_one ex_her
    refine (hermite_any pl v _ W (h.up hW) h0 (by decide) (by decide) (by decide)).mono ?_
    rintro e w' ⟨v', r, c, B, rfl, hP, hc, -, hM, hb⟩
    obtain ⟨rfl, rfl⟩ := h1 r c B hP hc
    exact ⟨v', _, rfl, .inl rfl, hM, hb⟩
  · rintro h (rfl | rfl) hd
    · exact absurd hd (by decide)
    · refine ⟨⟨?_, ?_, fun h _ => h⟩, by decide⟩
      · rintro i k l rfl
        refine ⟨rfl, fun j => ?_, fun j hj => ?_⟩
        · rcases j with _ | _ | j
          · decide
          · decide
          · simp; decide
        · have : j < 2 := hj
          rcases j with _ | _ | j
          · decide
          · decide
          · omega
      · rintro i k l rfl hik hk
        have : k < 2 := hk
        have e1 : k = 1 := by omega
        have e2 : i = 0 := by omega
        subst e1 e2
        decide
  · rintro e w' ⟨v', h, k, l, rfl, -, -, rfl, hM, hb⟩
    exact ⟨v', rfl, hM, hb⟩
end Go.Proofs.YtdbpkoddfcdhdaaGreat
