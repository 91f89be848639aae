/-
  Slices of numbers of a machine's size, and slices of these: read, and built by append.
  append to an empty literal makes a new array: nothing old is touched.
  Choices of k numbers out of n; what divides all chosen minors divides all minors. No program.
  The elementary divisors by the divisors of the minors. No program.
  The reference: Gcd.
-/
import Derived.Deep.AppendSrc
import Derived.Test.YtdbpkoddfcdhdaaGreatPN
import Derived.Test.YtdbpkoddfcdhdaaGreatPU
import Derived.Test.YtdbpkoddfcdhdaaGreatPL
import Derived.Test.YtdbpkoddfcdhdaaGreatQA
import Derived.Test.YtdbpkoddfcdhdaaGreatPS
import Derived.Test.YtdbpkoddfcdhdaaGreatRC
set_option linter.unusedSimpArgs false
set_option linter.unusedVariables false

namespace Go.Proofs.YtdbpkoddfcdhdaaGreat
open Go.RowKit

theorem infoN : (Tryz.prog.info? 3).map (fun i => (i.zero, i.size, i.bytes)) = some (some (.int .i64 0), 1, 8) := by kernel_rfl
theorem infoNs : (Tryz.prog.info? 69).map (fun i => (i.zero, i.size, i.bytes)) = some (some (.slice none 0 0), 1, 24) := by kernel_rfl

def nv1 (x : Nat) : Value := .int .i64 (x : Int)

/-- v reads as the numbers l. -/
def Nw (w : World) (v : Value) (l : List Nat) : Prop :=
  ∃ b off cap, v = .slice (some ⟨b, off, none⟩) l.length cap ∧ l.length ≤ cap ∧ b < w.heap.size ∧ ∀ i, i < l.length → w.cell? ⟨b, off + i, none⟩ = some (nv1 (l.getD i 0))
theorem Nw.up {w w' : World} {v : Value} {l : List Nat} (h : Nw w v l) (hb : Below w.heap.size w w') : Nw w' v l := by
  obtain ⟨b, off, cap, e, hc, hlt, h1⟩ := h
  exact ⟨b, off, cap, e, hc, Nat.lt_of_lt_of_le hlt hb.size, fun i hi => keepc hb (h1 i hi)⟩
theorem Nw.lit0 (w : World) (T : Nat) : Nw (w.alloc (.cells #[] T)) (.slice (some ⟨w.heap.size, 0, none⟩) 0 0) [] :=
  ⟨_, 0, 0, rfl, Nat.le_refl _, by simp, fun i hi => absurd hi (Nat.not_lt_zero i)⟩
theorem Nw.len {w : World} {a : Option Addr} {n c : Nat} {l : List Nat} (h : Nw w (.slice a n c) l) : l.length = n := by
  obtain ⟨b, off, cap, e, -⟩ := h
  injection e with e1 e2 e3
  exact e2.symm

/-- Numbers of the call's own, from block base on. -/
def On (w : World) (base : Nat) (v : Value) (l : List Nat) : Prop := w.ownsRow base 3 1 v l.length (l.map nv1)
theorem On.lit0 (w : World) {base : Nat} (hb : base ≤ w.heap.size) : On (w.alloc (.cells #[] 3)) base (.slice (some ⟨w.heap.size, 0, none⟩) 0 0) [] := World.ownsRow_lit w #[] 0 hb (by decide) rfl
theorem On.up {w w' : World} {base : Nat} {v : Value} {l : List Nat} (h : On w base v l) (hb : Below w.heap.size w w') : On w' base v l := by
  refine World.ownsRow.kept h (row := none) ⟨hb.os, hb.tape, hb.output, hb.size, fun k hk _ => hb.block k hk⟩ ?_
  cases hv : v.ownBlock with
  | none => exact .inl rfl
  | some k => exact .inr (by simp)
theorem On.alloc {w : World} {base : Nat} {v : Value} {l : List Nat} (h : On w base v l) (ob : Obj) : On (w.alloc ob) base v l := h.up (below_new _ _)
theorem On.drew {w : World} {base : Nat} {v : Value} {l : List Nat} (h : On w base v l) : On w.drew base v l := h
theorem On.nw {w : World} {base : Nat} {v : Value} {l : List Nat} (h : On w base v l) (h0 : 0 < l.length) : Nw w v l := by
  rcases World.ownsRow.form h h0 with ⟨g, cap, rfl, hb, hlt⟩
  have hx := h.2
  rcases hx with ⟨e, -⟩ | ⟨g', cap', cur, e, h3, h4, h5, -⟩
  · cases e
  · injection e with e1 e2 e3
    injection e1 with e1
    injection e1 with e1
    subst e1 e3
    refine ⟨g, 0, cap, rfl, h5, hlt, fun j hj => ?_⟩
    have e0 := World.ownsRow.cellAt h j (by omega)
    rw [Nat.zero_add, e0, List.getElem?_map, List.getD_eq_getElem?_getD, List.getElem?_eq_getElem hj]
    rfl

theorem wpl_apN {ops : Array Oper} {rest : List Oper} {o : Oper} {a : Act} {Q : Exit → Act → World → Prop} {w : World} (hgd : o.guard = none) (su sx : Operand) (t : TypeId)
    (ho : o.op = .call { callee := .builtin .append, args := #[su, sx], argTypes := #[t, t] }) (ht : Tryz.prog.underlying t = some (.slice 3)) (base : Nat) (v : Value) (l : List Nat) (hs : a.eval su = v) (h : On w base v l) (hbase : base ≤ w.heap.size)
    (vx : Value) (x : List Nat) (hxv : a.eval sx = vx) (hx : Nw w vx x) (hl : l.length + x.length ≤ 1099511627776)
    (hK : ∀ v' w', On w' base v' (l ++ x) → Below base w w' → wpList Tryz.prog ops Q rest (a.put o.dst v') w') :
    wpList Tryz.prog ops Q (o :: rest) a w := by
  obtain ⟨i0, hi, hz0, hz1, hz2⟩ := info_parts infoN
  have hlt := World.ownsRow.lt h
  obtain ⟨b, off, cap, rfl, hc, hb, hcell⟩ := hx
  refine wpList_append_own w hgd su sx t ho base 3 i0 _ 1 8 ht hi hz0 hz1 hz2 rfl (by omega) v l.length (l.map nv1) hs h ⟨b, off, none⟩ x.length cap (x.map nv1) hxv (by simp)
    (fun j u hu => ?_) (fun u hu => ?_) (by unfold maxLen; omega) (by omega) hbase fun v' w' h2 h3 _ => hK v' w' ?_ (Below.of_grown h3 hbase (fun k hk => (hlt k hk).1))
  · rw [addr_add]
    obtain ⟨y, hy, rfl⟩ : ∃ y, x[j]? = some y ∧ nv1 y = u := by
      rw [List.getElem?_map] at hu
      cases hj : x[j]? with
      | none => rw [hj] at hu; cases hu
      | some y => rw [hj] at hu; exact ⟨y, rfl, by injection hu⟩
    have hjl : j < x.length := (List.getElem?_eq_some_iff.1 hy).1
    rw [hcell j hjl, List.getD_eq_getElem?_getD, hy]
    rfl
  · obtain ⟨y, -, rfl⟩ := List.mem_map.1 hu
    rfl
  · rw [← List.map_append, ← List.length_append] at h2
    exact h2

theorem nw_grown {w w' : World} {row : Option Nat} (hg : w.grownBy w' row) (hr : ∀ g, row = some g → Alc isSl w g) {v : Value} {l : List Nat} (h : Nw w v l) : Nw w' v l := by
  obtain ⟨b, off, cap, e, hc, hlt, h1⟩ := h
  refine ⟨b, off, cap, e, hc, Nat.lt_of_lt_of_le hlt hg.size, fun i hi => ?_⟩
  have hne : row ≠ some b := fun hh => by
    have := hr b hh (off + i) _ (h1 i hi)
    simp [nv1, isSl] at this
  rw [World.cell?_of_block (a := ⟨b, off + i, none⟩) (hg.block b hlt (fun hh => hne hh.symm))]
  exact h1 i hi

/-- All numbers read as before. -/
def KeepN (w w' : World) : Prop := ∀ v l, Nw w v l → Nw w' v l
theorem KeepN.refl (w : World) : KeepN w w := fun _ _ h => h
theorem KeepN.trans {a b c : World} (h : KeepN a b) (k : KeepN b c) : KeepN a c := fun v l hh => k v l (h v l hh)
theorem KeepN.of {w w' : World} (h : Below w.heap.size w w') : KeepN w w' := fun _ _ hh => hh.up h

/-- Lists of numbers of the call's own, from block base on. -/
def Om2 (w : World) (base : Nat) (v : Value) (L : List (List Nat)) : Prop :=
  (∃ xs, w.ownsRow base 69 1 v L.length xs ∧ ∀ i, i < L.length → ∃ c k, xs[i]? = some (.slice c (L.getD i []).length k) ∧ Nw w (.slice c (L.getD i []).length k) (L.getD i [])) ∧ ∀ g, v.ownBlock = some g → Alc isSl w g
theorem Om2.lit0 (w : World) {base : Nat} (hb : base ≤ w.heap.size) : Om2 (w.alloc (.cells #[] 69)) base (.slice (some ⟨w.heap.size, 0, none⟩) 0 0) [] := by
  refine ⟨⟨_, World.ownsRow_lit w #[] 0 hb (by decide) rfl, fun i hi => absurd hi (Nat.not_lt_zero i)⟩, fun g hg => ?_⟩
  simp [Value.ownBlock] at hg
  subst hg
  exact Alc.of (heap_alloc_new w _) (by simp)
theorem Om2.up {w w' : World} {base : Nat} {v : Value} {L : List (List Nat)} (h : Om2 w base v L) (hb : Below w.heap.size w w') : Om2 w' base v L := by
  obtain ⟨⟨xs, k1, k2⟩, h2⟩ := h
  refine ⟨⟨xs, World.ownsRow.kept k1 (row := none) ⟨hb.os, hb.tape, hb.output, hb.size, fun k hk _ => hb.block k hk⟩ ?_, fun i hi => ?_⟩, fun g hg => (h2 g hg).up (k1.lt g hg).2 hb⟩
  · cases hv : v.ownBlock with
    | none => exact .inl rfl
    | some k => exact .inr (by simp)
  · obtain ⟨c, k, c0, c1⟩ := k2 i hi
    exact ⟨c, k, c0, c1.up hb⟩
theorem Om2.alloc {w : World} {base : Nat} {v : Value} {L : List (List Nat)} (h : Om2 w base v L) (o : Obj) : Om2 (w.alloc o) base v L := h.up (below_new _ _)
theorem Om2.drew {w : World} {base : Nat} {v : Value} {L : List (List Nat)} (h : Om2 w base v L) : Om2 w.drew base v L := h
theorem Om2.base {w : World} {base base' : Nat} {v : Value} {L : List (List Nat)} (h : Om2 w base v L) (hb : base' ≤ base) : Om2 w base' v L := by
  obtain ⟨⟨xs, k1, k2⟩, h2⟩ := h
  refine ⟨⟨xs, ⟨k1.1, ?_⟩, k2⟩, h2⟩
  rcases k1.2 with h3 | ⟨g, cap, cur, e, h3, h4⟩
  · exact .inl h3
  · exact .inr ⟨g, cap, cur, e, Nat.le_trans hb h3, h4⟩

/-- v reads as lists of numbers. -/
def Nm (w : World) (v : Value) (L : List (List Nat)) : Prop :=
  ∃ a cap, v = .slice a L.length cap ∧ L.length ≤ cap ∧ ∀ i, i < L.length → ∃ b off c k, a = some ⟨b, off, none⟩ ∧ b < w.heap.size ∧ w.cell? ⟨b, off + i, none⟩ = some (.slice c (L.getD i []).length k) ∧ Nw w (.slice c (L.getD i []).length k) (L.getD i [])
theorem Nm.up {w w' : World} {v : Value} {L : List (List Nat)} (h : Nm w v L) (hb : Below w.heap.size w w') : Nm w' v L := by
  obtain ⟨a, cap, e, hc, h1⟩ := h
  refine ⟨a, cap, e, hc, fun i hi => ?_⟩
  obtain ⟨b, off, c, k, ea, hlt, h2, h3⟩ := h1 i hi
  exact ⟨b, off, c, k, ea, Nat.lt_of_lt_of_le hlt hb.size, keepc hb h2, h3.up hb⟩
theorem Om2.nm {w : World} {base : Nat} {v : Value} {L : List (List Nat)} (h : Om2 w base v L) : Nm w v L := by
  obtain ⟨⟨xs, k1, k2⟩, -⟩ := h
  rcases k1.2 with ⟨rfl, h0⟩ | ⟨g, cap, cur, rfl, h3, h4, h5, -⟩
  · exact ⟨none, 0, by rw [h0], by rw [h0]; exact Nat.le_refl _, fun i hi => absurd hi (by rw [h0]; exact Nat.not_lt_zero i)⟩
  · refine ⟨_, cap, rfl, h5, fun i hi => ?_⟩
    obtain ⟨c, k, c0, c1⟩ := k2 i hi
    have hxl := k1.1
    have e0 := World.ownsRow.cellAt k1 i (by omega)
    exact ⟨g, 0, c, k, rfl, (Array.getElem?_eq_some_iff.1 h4).1, by rw [Nat.zero_add, e0]; exact c0, c1⟩

theorem run_apNs {w : World} {base : Nat} {v : Value} {L : List (List Nat)} (t ty : TypeId) (ht : Tryz.prog.underlying t = some (.slice 69)) (h : Om2 w base v L) (hbase : base ≤ w.heap.size) {B T c1 : Nat} {fr : Nat × Nat} {c : Option Addr} {k : Nat} {x : List Nat}
    (hB : w.heap[B]? = some (.cells #[.slice c x.length k] T fr)) (hx : Nw w (.slice c x.length k) x) (hl : L.length ≤ 1099511627776) :
    ∃ g cap w', (Builtin.append_ #[t, t] ty #[v, .slice (some ⟨B, 0, none⟩) 1 c1]).run Tryz.prog w = .ok (.slice (some ⟨g, 0, none⟩) (L.length + 1) cap) w' ∧
      Om2 w' base (.slice (some ⟨g, 0, none⟩) (L.length + 1) cap) (L ++ [x]) ∧ Below base w w' ∧ KeepN w w' := by
  obtain ⟨i0, hi, hz0, hz1, hz2⟩ := info_parts infoNs
  obtain ⟨⟨xs, h1, h2⟩, h3⟩ := h
  have hlt := h1.lt
  obtain ⟨g, cap, w', hr, k1, k2, k3, k4, k5⟩ := run_app_all isSl w t ty base 69 i0 _ 1 24 ht hi hz0 hz1 hz2 rfl (by omega) v L.length xs h1 ⟨B, 0, none⟩ 1 c1 [.slice c x.length k] rfl
    (World.news_of_block hB) (by simp [Value.oneCell']) (by omega) (by unfold maxLen; omega) (by omega) hbase h3 (by simp [isSl]) (by simp [Value.cells, isSl])
  have hxl := h1.1
  refine ⟨g, cap, w', hr, ⟨⟨xs ++ [.slice c x.length k], by simpa using k1, fun i hi => ?_⟩, fun g' hg' => ?_⟩, Below.of_grown k2 hbase (fun k hk => (hlt k hk).1), fun _ _ h => nw_grown k2 h3 h⟩
  · simp only [List.length_append, List.length_cons, List.length_nil] at hi
    by_cases e : i < L.length
    · obtain ⟨c', k', c0, c1⟩ := h2 i e
      have eg : (L ++ [x]).getD i [] = L.getD i [] := by simp only [List.getD_eq_getElem?_getD, List.getElem?_append_left e]
      rw [eg]
      exact ⟨c', k', by rw [List.getElem?_append_left (by omega)]; exact c0, nw_grown k2 h3 c1⟩
    · have : i = L.length := by omega
      subst this
      have eg : (L ++ [x]).getD L.length [] = x := by simp [List.getD_eq_getElem?_getD]
      rw [eg]
      exact ⟨c, k, by rw [List.getElem?_append_right (by omega)]; simp [hxl], nw_grown k2 h3 hx⟩
  · simp [Value.ownBlock] at hg'
    subst hg'
    exact k5

theorem wpl_apNs {ops : Array Oper} {rest : List Oper} {o : Oper} {a : Act} {Q : Exit → Act → World → Prop} {w : World} (hgd : o.guard = none) (su sx : Operand) (t : TypeId)
    (ho : o.op = .call { callee := .builtin .append, args := #[su, sx], argTypes := #[t, t] }) (ht : Tryz.prog.underlying t = some (.slice 69)) (base : Nat) (v : Value) (L : List (List Nat)) (hs : a.eval su = v) (h : Om2 w base v L) (hbase : base ≤ w.heap.size)
    (B T c1 : Nat) (fr : Nat × Nat) (c : Option Addr) (n k : Nat) (x : List Nat) (hn : x.length = n) (hxv : a.eval sx = .slice (some ⟨B, 0, none⟩) 1 c1)
    (hB : w.heap[B]? = some (.cells #[.slice c n k] T fr)) (hx : Nw w (.slice c n k) x) (hl : L.length ≤ 1099511627776)
    (hK : ∀ g cap w', Om2 w' base (.slice (some ⟨g, 0, none⟩) (L.length + 1) cap) (L ++ [x]) → Below base w w' → KeepN w w' → wpList Tryz.prog ops Q rest (a.put o.dst (.slice (some ⟨g, 0, none⟩) (L.length + 1) cap)) w') :
    wpList Tryz.prog ops Q (o :: rest) a w := by
  subst hn
  refine wpList_plain hgd fun K hK' => ?_
  obtain ⟨g, cap, w', hr, h2, h3, h4⟩ := run_apNs t o.type ht h hbase (c1 := c1) hB hx hl
  unfold Oper.wp execOp
  simp only [ho, resolve, invoke, builtin, Sem.run_bind, Sem.run_pure, Result.andThen_ok, List.map_toArray, List.map_cons, List.map_nil, hs, hxv, hr]
  exact hK' _ _ (hK g cap w' h2 h3 h4)
end Go.Proofs.YtdbpkoddfcdhdaaGreat

namespace Go.Proofs.YtdbpkoddfcdhdaaGreat
open Go.RowKit

theorem run_app_lit {P : Program} (w : World) (t ty e : TypeId) (i : TypeInfo) (z : Value) (ht : P.underlying t = some (.slice e)) (hi : P.info? e = some i) (hz : i.zero = some z) (hby : Builtin.nextslicecap (0 + 1) 0 * i.bytes ≤ 281474976710656)
    (b : Option Addr) (ad : Addr) (c : Nat) (news : List Value) (hl : news.length = 1 * i.size) (hnews : ∀ j u, news[j]? = some u → w.cell? (ad.add j) = some u) (h1 : ∀ u ∈ news, u.oneCell' = true) :
    (Builtin.append_ #[t, t] ty #[.slice b 0 0, .slice (some ad) 1 c]).run P w = (Builtin.append_ #[t, t] ty #[.slice none 0 0, .slice (some ad) 1 c]).run P w := by
  have hs := Src.ofSlice (P := P) w (size := i.size) (tx := t) ht ad 1 c news hl hnews h1
  have h0 : ∀ b : Option Addr, (Builtin.firstCells i.size 0 (.slice b 0 0)).run P w.drew = .ok ([] : List Value).toArray w.drew := fun b => by
    cases b with
    | none => exact run_firstCells_none w.drew i.size 0 0 0
    | some a => exact run_firstCells_some w.drew i.size 0 a 0 0 [] (by simp) (by simp)
  rw [run_append_grow_src w t t ty e i z ht hi hz b 0 0 [] (h0 b) _ 1 news hs (by omega) (by decide) hby, run_append_grow_src w t t ty e i z ht hi hz none 0 0 [] (h0 none) _ 1 news hs (by omega) (by decide) hby]

theorem Vx.grown {w w' : World} {row : Option Nat} (hg : w.grownBy w' row) (hr : ∀ g, row = some g → Alc noW w g) {B : Nat} {z : Int} (hne : row ≠ some B) (h : Vx w B z) : Vx w' B z := by
  cases row with
  | none => exact h.up ⟨hg.os, hg.tape, hg.output, hg.size, fun k hk => hg.block k hk (by simp)⟩
  | some g =>
    refine h.but (g := g) ⟨hg.os, hg.tape, hg.output, hg.size, fun k hk hne => hg.block k hk (by simp [hne])⟩ (fun e => hne (by rw [e])) (fun o x e => ?_)
    have := hr g rfl o _ e
    simp [noW] at this

/-- Variables below base, and from N0 on, read as before. -/
def KeepV (base N0 : Nat) (w w' : World) : Prop := ∀ B z, (B < base ∨ N0 ≤ B) → Vx w B z → Vx w' B z

/-- Integers that an append lays: an empty literal, or a row of the call's own from block base on. -/
def ApL (w : World) (base : Nat) (v : Value) (l : List Int) : Prop := (l = [] ∧ ∃ g, v = .slice (some ⟨g, 0, none⟩) 0 0 ∧ g < w.heap.size) ∨ Ap w base v l
theorem ApL.lit {w : World} (base : Nat) {g : Nat} (hg : g < w.heap.size) : ApL w base (.slice (some ⟨g, 0, none⟩) 0 0) [] := .inl ⟨rfl, g, rfl, hg⟩
theorem ApL.up {w w' : World} {base : Nat} {v : Value} {l : List Int} (h : ApL w base v l) (hb : Below w.heap.size w w') : ApL w' base v l := by
  rcases h with ⟨h1, g, h2, h3⟩ | h
  · exact .inl ⟨h1, g, h2, Nat.lt_of_lt_of_le h3 hb.size⟩
  · exact .inr (h.up hb)
theorem ApL.lt {w : World} {base : Nat} {v : Value} {l : List Int} (h : ApL w base v l) : ∀ g, v.ownBlock = some g → g < w.heap.size := by
  rcases h with ⟨-, g, rfl, h3⟩ | ⟨⟨xs, k1, -⟩, -⟩
  · intro g' hg'; simp [Value.ownBlock] at hg'; subst hg'; exact h3
  · exact fun g hg => (k1.lt g hg).2
theorem Ap.base {w : World} {base base' : Nat} {v : Value} {l : List Int} (h : Ap w base v l) (hb : base' ≤ base) : Ap w base' v l := by
  obtain ⟨⟨xs, k1, k2⟩, h2⟩ := h
  refine ⟨⟨xs, ⟨k1.1, ?_⟩, k2⟩, h2⟩
  rcases k1.2 with h3 | ⟨g, cap, cur, e, h3, h4⟩
  · exact .inl h3
  · exact .inr ⟨g, cap, cur, e, Nat.le_trans hb h3, h4⟩
theorem ApL.rw {w : World} {base : Nat} {v : Value} {l : List Int} (h : ApL w base v l) : Rw w v l := by
  rcases h with ⟨rfl, g, rfl, -⟩ | h
  · exact ⟨_, 0, rfl, Nat.le_refl _, .inl rfl⟩
  · exact h.rw

theorem run_apI2 {w : World} {base : Nat} {v : Value} {l : List Int} (t ty : TypeId) (ht : Tryz.prog.underlying t = some (.slice 56)) (h : Ap w base v l) (hbase : base ≤ w.heap.size) {B T c1 : Nat} {fr : Nat × Nat} {s : Bool} {c : Option Addr} {n k : Nat} {x : Int}
    (hB : w.heap[B]? = some (.cells #[.bool s, .slice c n k] T fr)) (hx : It w (.agg #[.bool s, .slice c n k]) x) (hl : l.length ≤ 1099511627776) (N0 : Nat) (hN0 : ∀ g, v.ownBlock = some g → g < N0) :
    ∃ g cap w', (Builtin.append_ #[t, t] ty #[v, .slice (some ⟨B, 0, none⟩) 1 c1]).run Tryz.prog w = .ok (.slice (some ⟨g, 0, none⟩) (l.length + 1) cap) w' ∧
      Ap w' base (.slice (some ⟨g, 0, none⟩) (l.length + 1) cap) (l ++ [x]) ∧ Below base w w' ∧ KeepV base N0 w w' := by
  obtain ⟨i0, hi, hz0, hz1, hz2⟩ := info_parts infoI
  obtain ⟨⟨xs, h1, h2⟩, h3⟩ := id h
  have hlt := h1.lt
  obtain ⟨g, cap, w', hr, k1, k2, k3, k4, k5⟩ := run_app_all noW w t ty base 56 i0 _ 2 32 ht hi hz0 hz1 hz2 rfl (by omega) v l.length xs h1 ⟨B, 0, none⟩ 1 c1 [.bool s, .slice c n k] rfl
    (World.news_of_block hB) (by simp [Value.oneCell']) (by omega) (by unfold maxLen; omega) (by omega) hbase h3 (by simp [noW]) (by simp [Value.cells, noW])
  obtain ⟨g', cap', w'', hr', q1, q2⟩ := run_apI t ty ht h hbase (c1 := c1) hB hx hl
  rw [hr] at hr'
  injection hr' with e1 e2
  injection e1 with e3 e4 e5
  injection e3 with e3
  injection e3 with e3
  subst e3 e5 e2
  exact ⟨g, cap, w', hr, q1, q2, fun B' z hB' hV => hV.grown k2 h3 (fun e => by have := (hlt B' e).1; have := hN0 B' e; omega)⟩

theorem run_apL {w : World} {base : Nat} {v : Value} {l : List Int} (t ty : TypeId) (ht : Tryz.prog.underlying t = some (.slice 56)) (h : ApL w base v l) (hbase : base ≤ w.heap.size) {B T c1 : Nat} {fr : Nat × Nat} {s : Bool} {c : Option Addr} {n k : Nat} {x : Int}
    (hB : w.heap[B]? = some (.cells #[.bool s, .slice c n k] T fr)) (hx : It w (.agg #[.bool s, .slice c n k]) x) (hl : l.length ≤ 1099511627776) (N0 : Nat) (hN0 : ∀ g, v.ownBlock = some g → g < N0) :
    ∃ g cap w', (Builtin.append_ #[t, t] ty #[v, .slice (some ⟨B, 0, none⟩) 1 c1]).run Tryz.prog w = .ok (.slice (some ⟨g, 0, none⟩) (l.length + 1) cap) w' ∧
      Ap w' base (.slice (some ⟨g, 0, none⟩) (l.length + 1) cap) (l ++ [x]) ∧ Below base w w' ∧ KeepV base N0 w w' := by
  rcases h with ⟨rfl, g0, rfl, -⟩ | h
  · obtain ⟨i0, hi, hz0, hz1, hz2⟩ := info_parts infoI
    rw [run_app_lit w t ty 56 i0 _ ht hi hz0 (by rw [hz2]; decide) (some ⟨g0, 0, none⟩) ⟨B, 0, none⟩ c1 [.bool s, .slice c n k] (by rw [hz1]; rfl) (World.news_of_block hB) (by simp [Value.oneCell'])]
    have hnil : Ap w w.heap.size (.slice none 0 0) [] := ⟨Ar.nil w w _, fun g hg => by cases hg⟩
    obtain ⟨g, cap, w', hr, q1, q2, q3⟩ := run_apI2 t ty ht hnil (Nat.le_refl _) (c1 := c1) hB hx hl 0 (fun g hg => by cases hg)
    exact ⟨g, cap, w', hr, q1.base hbase, q2.mono hbase, fun B z _ hV => q3 B z (.inr (Nat.zero_le _)) hV⟩
  · exact run_apI2 t ty ht h hbase hB hx hl N0 hN0

theorem wpl_apL {ops : Array Oper} {rest : List Oper} {o : Oper} {a : Act} {Q : Exit → Act → World → Prop} {w : World} (hgd : o.guard = none) (su sx : Operand) (t : TypeId)
    (ho : o.op = .call { callee := .builtin .append, args := #[su, sx], argTypes := #[t, t] }) (ht : Tryz.prog.underlying t = some (.slice 56)) (base : Nat) (v : Value) (l : List Int) (hs : a.eval su = v) (h : ApL w base v l) (hbase : base ≤ w.heap.size)
    (B T c1 : Nat) (fr : Nat × Nat) (s : Bool) (c : Option Addr) (n k : Nat) (x : Int) (hxv : a.eval sx = .slice (some ⟨B, 0, none⟩) 1 c1)
    (hB : w.heap[B]? = some (.cells #[.bool s, .slice c n k] T fr)) (hx : It w (.agg #[.bool s, .slice c n k]) x) (hl : l.length ≤ 1099511627776) (N0 : Nat) (hN0 : ∀ g, v.ownBlock = some g → g < N0)
    (hK : ∀ g cap w', Ap w' base (.slice (some ⟨g, 0, none⟩) (l.length + 1) cap) (l ++ [x]) → Below base w w' → KeepV base N0 w w' → wpList Tryz.prog ops Q rest (a.put o.dst (.slice (some ⟨g, 0, none⟩) (l.length + 1) cap)) w') :
    wpList Tryz.prog ops Q (o :: rest) a w := by
  refine wpList_plain hgd fun K hK' => ?_
  obtain ⟨g, cap, w', hr, h2, h3, h4⟩ := run_apL t o.type ht h hbase (c1 := c1) hB hx hl N0 hN0
  unfold Oper.wp execOp
  simp only [ho, resolve, invoke, builtin, Sem.run_bind, Sem.run_pure, Result.andThen_ok, List.map_toArray, List.map_cons, List.map_nil, hs, hxv, hr]
  exact hK' _ _ (hK g cap w' h2 h3 h4)

/-- Lists of numbers that an append lays. -/
def OmL (w : World) (base : Nat) (v : Value) (L : List (List Nat)) : Prop := (L = [] ∧ ∃ g, v = .slice (some ⟨g, 0, none⟩) 0 0) ∨ Om2 w base v L
theorem OmL.lit (w : World) (base g : Nat) : OmL w base (.slice (some ⟨g, 0, none⟩) 0 0) [] := .inl ⟨rfl, g, rfl⟩
theorem OmL.up {w w' : World} {base : Nat} {v : Value} {L : List (List Nat)} (h : OmL w base v L) (hb : Below w.heap.size w w') : OmL w' base v L := h.imp id fun h => h.up hb
theorem OmL.nm {w : World} {base : Nat} {v : Value} {L : List (List Nat)} (h : OmL w base v L) : Nm w v L := by
  rcases h with ⟨rfl, g, rfl⟩ | h
  · exact ⟨_, 0, rfl, Nat.le_refl _, fun i hi => absurd hi (Nat.not_lt_zero i)⟩
  · exact h.nm
theorem run_apNsL {w : World} {base : Nat} {v : Value} {L : List (List Nat)} (t ty : TypeId) (ht : Tryz.prog.underlying t = some (.slice 69)) (h : OmL w base v L) (hbase : base ≤ w.heap.size) {B T c1 : Nat} {fr : Nat × Nat} {c : Option Addr} {k : Nat} {x : List Nat}
    (hB : w.heap[B]? = some (.cells #[.slice c x.length k] T fr)) (hx : Nw w (.slice c x.length k) x) (hl : L.length ≤ 1099511627776) :
    ∃ g cap w', (Builtin.append_ #[t, t] ty #[v, .slice (some ⟨B, 0, none⟩) 1 c1]).run Tryz.prog w = .ok (.slice (some ⟨g, 0, none⟩) (L.length + 1) cap) w' ∧
      Om2 w' base (.slice (some ⟨g, 0, none⟩) (L.length + 1) cap) (L ++ [x]) ∧ Below base w w' ∧ KeepN w w' := by
  rcases h with ⟨rfl, g0, rfl⟩ | h
  · obtain ⟨i0, hi, hz0, hz1, hz2⟩ := info_parts infoNs
    rw [run_app_lit w t ty 69 i0 _ ht hi hz0 (by rw [hz2]; decide) (some ⟨g0, 0, none⟩) ⟨B, 0, none⟩ c1 [.slice c x.length k] (by rw [hz1]; rfl) (World.news_of_block hB) (by simp [Value.oneCell'])]
    have hnil : Om2 w w.heap.size (.slice none 0 0) [] := ⟨⟨[], World.ownsRow_nil _ _ _ _, fun i hi => absurd hi (Nat.not_lt_zero i)⟩, fun g hg => by cases hg⟩
    obtain ⟨g, cap, w', hr, q1, q2, q3⟩ := run_apNs t ty ht hnil (Nat.le_refl _) (c1 := c1) hB hx hl
    exact ⟨g, cap, w', hr, q1.base hbase, q2.mono hbase, q3⟩
  · exact run_apNs t ty ht h hbase hB hx hl
theorem wpl_apNsL {ops : Array Oper} {rest : List Oper} {o : Oper} {a : Act} {Q : Exit → Act → World → Prop} {w : World} (hgd : o.guard = none) (su sx : Operand) (t : TypeId)
    (ho : o.op = .call { callee := .builtin .append, args := #[su, sx], argTypes := #[t, t] }) (ht : Tryz.prog.underlying t = some (.slice 69)) (base : Nat) (v : Value) (L : List (List Nat)) (hs : a.eval su = v) (h : OmL w base v L) (hbase : base ≤ w.heap.size)
    (B T c1 : Nat) (fr : Nat × Nat) (c : Option Addr) (n k : Nat) (x : List Nat) (hn : x.length = n) (hxv : a.eval sx = .slice (some ⟨B, 0, none⟩) 1 c1)
    (hB : w.heap[B]? = some (.cells #[.slice c n k] T fr)) (hx : Nw w (.slice c n k) x) (hl : L.length ≤ 1099511627776)
    (hK : ∀ g cap w', Om2 w' base (.slice (some ⟨g, 0, none⟩) (L.length + 1) cap) (L ++ [x]) → Below base w w' → KeepN w w' → wpList Tryz.prog ops Q rest (a.put o.dst (.slice (some ⟨g, 0, none⟩) (L.length + 1) cap)) w') :
    wpList Tryz.prog ops Q (o :: rest) a w := by
  subst hn
  refine wpList_plain hgd fun K hK' => ?_
  obtain ⟨g, cap, w', hr, h2, h3, h4⟩ := run_apNsL t o.type ht h hbase (c1 := c1) hB hx hl
  unfold Oper.wp execOp
  simp only [ho, resolve, invoke, builtin, Sem.run_bind, Sem.run_pure, Result.andThen_ok, List.map_toArray, List.map_cons, List.map_nil, hs, hxv, hr]
  exact hK' _ _ (hK g cap w' h2 h3 h4)
end Go.Proofs.YtdbpkoddfcdhdaaGreat

namespace Go.Proofs.YtdbpkoddfcdhdaaGreat

/-- The choices of k numbers from n - d on, behind those of now (fewer than k). -/
def chA (n k : Nat) : Nat → List Nat → List (List Nat)
  | 0, _ => []
  | d + 1, now => (if now.length + 1 = k then [now ++ [n - (d + 1)]] else chA n k d (now ++ [n - (d + 1)])) ++ chA n k d now
def chC (n k d : Nat) (now : List Nat) : List (List Nat) := if now.length = k then [now] else chA n k d now
theorem chA_succ (n k d : Nat) (now : List Nat) : chA n k (d + 1) now = chC n k d (now ++ [n - (d + 1)]) ++ chA n k d now := by
  rw [chA, chC, List.length_append, List.length_singleton]

theorem chA_mem {n k : Nat} : ∀ (d : Nat) (now l : List Nat), d ≤ n → (∀ x ∈ now, x < n) → l ∈ chA n k d now → l.length = k ∧ ∀ x ∈ l, x < n
  | 0, now, l, _, _, h => by simp [chA] at h
  | d + 1, now, l, hd, hn, h => by
    have hn' : ∀ x ∈ now ++ [n - (d + 1)], x < n := fun x hx => by
      rw [List.mem_append] at hx
      rcases hx with hx | hx
      · exact hn x hx
      · simp at hx; omega
    rw [chA, List.mem_append] at h
    rcases h with h | h
    · split at h
      · rename_i he
        simp at h
        subst h
        exact ⟨by simpa using he, hn'⟩
      · exact chA_mem d _ l (by omega) hn' h
    · exact chA_mem d now l (by omega) hn h

theorem chA_all {n k : Nat} {s : Nat → Nat} (hs : ∀ a, a < k → s a < n) (hm : ∀ a b, a < b → b < k → s a < s b) : ∀ (d t : Nat), t < k → d ≤ n → n - d ≤ s t → (List.range k).map s ∈ chA n k d ((List.range t).map s)
  | 0, t, ht, _, h => by have := hs t ht; omega
  | d + 1, t, ht, hd, h => by
    rw [chA, List.mem_append]
    rcases Nat.eq_or_lt_of_le h with e | e
    · left
      have e2 : (List.range t).map s ++ [n - (d + 1)] = (List.range (t + 1)).map s := by rw [e, List.range_succ, List.map_append]; rfl
      rw [e2]
      split
      · rename_i hk
        have : k = t + 1 := by simpa using hk.symm
        subst this
        exact List.mem_singleton.2 rfl
      · rename_i hk
        have hk' : ¬ t + 1 = k := by simpa using hk
        refine chA_all hs hm d (t + 1) (by omega) (by omega) ?_
        have := hm t (t + 1) (by omega) (by omega)
        omega
    · right
      exact chA_all hs hm d t ht (by omega) (by omega)

/-- All choices. -/
def chs (n k : Nat) : List (List Nat) := chA n k n []

/-- The minor of some rows and columns. -/
def mnL (m : List (List Int)) (k : Nat) (rows cols : List Nat) : Int := det k fun a b => en m (rows.getD a 0) (cols.getD b 0)

theorem getD_mem_lt {l : List Nat} {n a : Nat} (h : ∀ x ∈ l, x < n) (ha : a < l.length) : l.getD a 0 < n := by
  rw [List.getD_eq_getElem?_getD, List.getElem?_eq_getElem ha]
  exact h _ (List.getElem_mem ha)

theorem md_chosen {R N k : Nat} (hk : 0 < k) (m : List (List Int)) (c : Int) : (∀ rows ∈ chs R k, ∀ cols ∈ chs N k, c ∣ mnL m k rows cols) ↔ MD k R N (en m) c := by
  constructor
  · intro h f g hf hg
    rcases (am_cols hg).sort (en m) R _ f (fun a ha => Nat.le_of_lt (hf a ha)) (Nat.le_refl _) with e | ⟨s, t, -, hs, hm, e⟩
    · rw [show (det k fun a b => en m (f a) (g b)) = 0 from e]; exact Int.dvd_zero _
    · rw [show (det k fun a b => en m (f a) (g b)) = t * det k fun a b => en m (s a) (g b) from e]
      refine Int.dvd_trans ?_ (Int.dvd_mul_left _ _)
      have hsR : ∀ a, a < k → s a < R := fun a ha => by
        obtain ⟨b, hb, e⟩ := hs a ha
        rw [e]; exact hf b hb
      rw [← det_trn]
      rcases (am_cols hsR).sort (trn (en m)) N _ g (fun a ha => Nat.le_of_lt (hg a ha)) (Nat.le_refl _) with e | ⟨s', t', -, hs', hm', e⟩
      · rw [show (det k (trn fun a b => en m (s a) (g b))) = 0 from e]; exact Int.dvd_zero _
      · rw [show (det k (trn fun a b => en m (s a) (g b))) = t' * det k fun a b => trn (en m) (s' a) (s b) from e]
        refine Int.dvd_trans ?_ (Int.dvd_mul_left _ _)
        have hsN : ∀ a, a < k → s' a < N := fun a ha => by
          obtain ⟨b, hb, e⟩ := hs' a ha
          rw [e]; exact hg b hb
        rw [← det_trn]
        have := h _ (chA_all hsR hm R 0 hk (Nat.le_refl _) (by omega)) _ (chA_all hsN hm' N 0 hk (Nat.le_refl _) (by omega))
        unfold mnL at this
        rw [det_congr k (M' := trn fun a b => trn (en m) (s' a) (s b)) (fun i j hi hj => by
          simp [trn, List.getD_eq_getElem?_getD, hi, hj])] at this
        exact this
  · intro h rows hr cols hc
    obtain ⟨l1, r1⟩ := chA_mem R [] rows (Nat.le_refl _) (by simp) hr
    obtain ⟨l2, r2⟩ := chA_mem N [] cols (Nat.le_refl _) (by simp) hc
    exact h (fun a => rows.getD a 0) (fun b => cols.getD b 0) (fun a ha => getD_mem_lt r1 (by omega)) (fun b hb => getD_mem_lt r2 (by omega))

/-- g is what all minors up to here have in common. -/
def GcdTo (m : List (List Int)) (k : Nat) (rows cols : List (List Nat)) (i j : Nat) (g : Int) : Prop :=
  0 ≤ g ∧ ∀ c, c ∣ g ↔ (∀ a, a < i → ∀ b, b < cols.length → c ∣ mnL m k (rows.getD a []) (cols.getD b [])) ∧ ∀ b, b < j → c ∣ mnL m k (rows.getD i []) (cols.getD b [])
theorem GcdTo.start (m : List (List Int)) (k : Nat) (rows cols : List (List Nat)) : GcdTo m k rows cols 0 0 0 :=
  ⟨Int.le_refl _, fun c => ⟨fun _ => ⟨fun a ha => absurd ha (Nat.not_lt_zero a), fun b hb => absurd hb (Nat.not_lt_zero b)⟩, fun _ => Int.dvd_zero c⟩⟩
theorem GcdTo.step {m : List (List Int)} {k : Nat} {rows cols : List (List Nat)} {i j : Nat} {g : Int} (h : GcdTo m k rows cols i j g) :
    GcdTo m k rows cols i (j + 1) (Int.gcd g (mnL m k (rows.getD i []) (cols.getD j [])) : Int) := by
  refine ⟨Int.natCast_nonneg _, fun c => ?_⟩
  rw [Int.dvd_coe_gcd_iff, h.2 c]
  constructor
  · rintro ⟨⟨h1, h2⟩, h3⟩
    refine ⟨h1, fun b hb => ?_⟩
    rcases Nat.eq_or_lt_of_le (Nat.le_of_lt_succ hb) with e | e
    · rw [e]; exact h3
    · exact h2 b e
  · rintro ⟨h1, h2⟩
    exact ⟨⟨h1, fun b hb => h2 b (by omega)⟩, h2 j (by omega)⟩
theorem GcdTo.row {m : List (List Int)} {k : Nat} {rows cols : List (List Nat)} {i : Nat} {g : Int} (h : GcdTo m k rows cols i cols.length g) : GcdTo m k rows cols (i + 1) 0 g := by
  refine ⟨h.1, fun c => ?_⟩
  rw [h.2 c]
  constructor
  · rintro ⟨h1, h2⟩
    refine ⟨fun a ha b hb => ?_, fun b hb => absurd hb (Nat.not_lt_zero b)⟩
    rcases Nat.eq_or_lt_of_le (Nat.le_of_lt_succ ha) with e | e
    · rw [e]; exact h2 b hb
    · exact h1 a e b hb
  · rintro ⟨h1, -⟩
    exact ⟨fun a ha b hb => h1 a (by omega) b hb, fun b hb => h1 i (by omega) b hb⟩
theorem GcdTo.done {m : List (List Int)} {R N k : Nat} (hk : 0 < k) {g : Int} (h : GcdTo m k (chs R k) (chs N k) (chs R k).length 0 g) (c : Int) : c ∣ g ↔ MD k R N (en m) c := by
  rw [h.2 c, ← md_chosen hk]
  constructor
  · rintro ⟨h1, -⟩ rows hr cols hc
    obtain ⟨a, ha, rfl⟩ := List.mem_iff_getElem.1 hr
    obtain ⟨b, hb, rfl⟩ := List.mem_iff_getElem.1 hc
    have := h1 a ha b hb
    simp only [List.getD_eq_getElem?_getD, List.getElem?_eq_getElem ha, List.getElem?_eq_getElem hb, Option.getD_some] at this
    exact this
  · intro h1
    refine ⟨fun a ha b hb => ?_, fun b hb => absurd hb (Nat.not_lt_zero b)⟩
    refine h1 _ ?_ _ ?_
    · rw [List.getD_eq_getElem?_getD, List.getElem?_eq_getElem ha]; exact List.getElem_mem ha
    · rw [List.getD_eq_getElem?_getD, List.getElem?_eq_getElem hb]; exact List.getElem_mem hb
end Go.Proofs.YtdbpkoddfcdhdaaGreat

namespace Go.Proofs.YtdbpkoddfcdhdaaGreat

theorem Bt.gcd {x y : Int} {E : Nat} (hx : Bt x E) (hy : Bt y E) : Bt (Int.gcd x y : Int) E := by
  unfold Bt at *
  rw [Int.natAbs_natCast]
  unfold Int.gcd
  rcases Nat.eq_zero_or_pos x.natAbs with h | h
  · rw [h, Nat.gcd_zero_left]; exact hy
  · have := Nat.gcd_le_left y.natAbs h
    omega

section
variable {R N E : Nat} {m : List (List Int)} {l : List Int}
theorem Elem.prod (h : Elem R N m l E) {k : Nat} (hk0 : 0 < k) (hk : k ≤ l.length) {x : List (List Int)} {r : Nat} (e : ∀ k c, MD k r N (en x) c ↔ MD k R N (en m) c) {g : Int} (hg : GcdTo x k (chs r k) (chs N k) (chs r k).length 0 g) : g = prodN k (lf l) := by
  have key : ∀ c, c ∣ g ↔ c ∣ prodN k (lf l) := fun c => (hg.done hk0 c).trans (((e k c).trans (h.md k c).symm).trans (h.ch.md (Nat.le_refl _) hk c))
  have hp := prodN_pos (n := k) (f := lf l) fun i hi => h.ch.pos i (by omega)
  exact Int.dvd_antisymm hg.1 (Int.le_of_lt hp) ((key g).1 (Int.dvd_refl _)) ((key _).2 (Int.dvd_refl _))
theorem Elem.len (h : Elem R N m l E) {x : List (List Int)} {r : Nat} {piv : Nat → Nat} (hx : Hnf r N (en x) piv) (e : ∀ k c, MD k r N (en x) c ↔ MD k R N (en m) c) : l.length = r := by
  have e' : ∀ k c, MD k l.length l.length (dg (lf l)) c ↔ MD k r N (en x) c := fun k c => (h.md k c).trans (e k c).symm
  rcases Nat.lt_trichotomy l.length r with hl | hl | hl
  · exact absurd ((e' r 0).1 (MD.many hl)) hx.md
  · exact hl
  · have := (h.ch.md (Nat.le_refl _) (Nat.le_refl _) 0).1 ((e' l.length 0).2 (MD.many hl))
    exact absurd (Int.zero_dvd.1 this) (prodN_ne fun i hi => by have := h.ch.pos i hi; omega)
theorem Elem.next (h : Elem R N m l E) {k : Nat} (hk : k < l.length) : prodN (k + 1) (lf l) / prodN k (lf l) = l.getD k 0 := by
  have hp := prodN_pos (n := k) (f := lf l) fun i hi => h.ch.pos i (by omega)
  show prodN k (lf l) * lf l k / _ = _
  rw [Int.mul_ediv_cancel_left _ (by omega)]
  rfl
end
end Go.Proofs.YtdbpkoddfcdhdaaGreat

namespace Go.Proofs.YtdbpkoddfcdhdaaGreat
open Go.RowKit
attribute [local go_sem ↓] Go.wp_at_zero Go.wp_at_succ

theorem rgcd_any (va vb : Value) (x y : Int) (w : World) (hx : It w va x) (hy : It w vb y) (hsx : sz x ≤ 1099511627776) (hsy : sz y ≤ 1099511627776) :
    Calls Tryz.prog 37 #[va, vb] w fun e w' => ∃ v, e = .returned v ∧ It w' v (Int.gcd x y) ∧ Below w.heap.size w w' := by
  obtain ⟨W, s1, a1, n1, c1, s2, a2, n2, c2, rfl, rfl, hW, b, vX, vY, vR, hs, p0, p1, q0, q1, hx', hy'⟩ := boxes3 w hx hy
  clear hx hy
  go_enter Tryz.func37, Tryz.ntmps37
  go_wp2_with fail
  rw [← hW]
  clear hW
  refine (rabs_any _ x W hx' (by omega)).mono ?_
  rintro e w1 ⟨v1, rfl, hv1, hb1⟩
  have hvX1 := vX.up hb1
  have hvY1 := vY.up hb1
  have hvR1 := vR.up hb1
  have hy1 := hy'.up hb1
  have hB1 := Bl.up b hb1
  obtain ⟨s3, a3, n3, c3, rfl⟩ := hv1.shape
  obtain ⟨s5, a5, n5, c5, j0, j1, j2, j3, -⟩ := hvX1.cells
  obtain ⟨s4, a4, n4, c4, r0, r1, r2, r3, ir⟩ := hvY1.cells
  clear p0 p1 q0 q1 hx' vX vY vR b hb1
  have vX2 := Vx.put hvX1.va hv1
  have vY2 := hvY1.other hvX1.va (s := s3) (a := a3) (n := n3) (c := c3) (by omega)
  have vR2 := hvR1.other hvX1.va (s := s3) (a := a3) (n := n3) (c := c3) (by omega)
  have hB2 := Bl.st hB1 (s := s3) (a := a3) (n := n3) (c := c3) (Nat.le_refl _)
  obtain ⟨s6, a6, n6, c6, k0, k1, k2, k3, iy⟩ := vY2.cells
  have hszw := hvR1.lt
  go_wp2_with fail
  clear hB1 hvX1 hvY1 hvR1 hy1 hv1 j0 j1 j2 j3 r0 r1 r2 r3 ir
  generalize (w1.setCell ⟨w.heap.size, 0, none⟩ (.bool s3)).setCell ⟨w.heap.size, 1, none⟩ (.slice a3 n3 c3) = W2 at *
  refine (rabs_any _ y W2 iy (by omega)).mono ?_
  rintro e w3 ⟨v3, rfl, hv3, hb3⟩
  replace vX2 := vX2.up hb3
  replace vY2 := vY2.up hb3
  replace vR2 := vR2.up hb3
  replace hB2 := Bl.up hB2 hb3
  obtain ⟨s7, a7, n7, c7, rfl⟩ := hv3.shape
  clear k0 k1 k2 k3 iy hb3 hszw
  obtain ⟨s6, a6, n6, c6, k0, k1, k2, k3, iy⟩ := vY2.cells
  have vX4 := vX2.other vY2.va (s := s7) (a := a7) (n := n7) (c := c7) (by omega)
  have vY4 := Vx.put vY2.va hv3
  have vR4 := vR2.other vY2.va (s := s7) (a := a7) (n := n7) (c := c7) (by omega)
  have hB4 := Bl.st hB2 (s := s7) (a := a7) (n := n7) (c := c7) (Nat.le_succ _)
  go_wp2_with fail
  clear vX2 vY2 vR2 hB2 hv3 k0 k1 k2 k3 iy
  generalize (w3.setCell ⟨w.heap.size + 1, 0, none⟩ (.bool s7)).setCell ⟨w.heap.size + 1, 1, none⟩ (.slice a7 n7 c7) = W4 at *
  have e0 : Int.gcd (x.natAbs : Int) (y.natAbs : Int) = Int.gcd x y := by unfold Int.gcd; simp
  go_loopg [] (y.natAbs) (fun k wr => ∃ p q : Nat, k = q ∧ Below w.heap.size w wr ∧ Vx wr w.heap.size (p : Int) ∧ Vx wr (w.heap.size + 1) (q : Int) ∧ Vx wr (w.heap.size + 1 + 1) 0 ∧ Int.gcd (p : Int) (q : Int) = Int.gcd x y ∧ sz (p : Int) ≤ 1099511627776 ∧ sz (q : Int) ≤ 1099511627776)
  case atStart => exact ⟨x.natAbs, y.natAbs, rfl, hB4, vX4, vY4, vR4, e0, Nat.le_trans (sz_mono (by simp)) hsx, Nat.le_trans (sz_mono (by simp)) hsy⟩
  case round =>
    clear vX4 vY4 vR4 hB4 e0
    obtain ⟨p, q, hk, hb, vp, vq, vr, hg, hsp, hsq⟩ := hrel
    have HG := Lib.hid hg
    have HK := Lib.hid hk
    clear hg hk
    obtain ⟨ap, cp, p0, p1, p2, p3, ip⟩ := vp.szs
    obtain ⟨aq, cq, q0, q1, q2, q3, iq⟩ := vq.szs
    by_cases hq0 : q = 0
    · subst hq0
      rw [show sz ((0 : Nat) : Int) = 0 from rfl] at *
      obtain ⟨ar, cr, r0, r1, r2, r3, ir⟩ := vr.szs
      have e1 : (p : Int) = Int.gcd x y := by rw [← HG.out]; simp [Int.gcd]
      have HE := Lib.hid e1
      clear e1 ir
      go_wp2_with fail
      refine ret_vx (B := w.heap.size + 1 + 1) (z := (p : Int)) rfl rfl rfl ?_ (fun v hv => ⟨v, rfl, by rw [← HE.out]; exact hv, ?_⟩)
      · exact Vx.put vr.va ip
      · exact Bl.st hb (by omega)
    · have hq1 : (q : Int) ≠ 0 := by omega
      have hz : (0 : Int) < (sz (q : Int) : Int) := by have := mt sz_zero.1 hq1; omega
      go_wp2_with fail
      refine (rmod_any _ _ (p : Int) (q : Int) _ ip iq hq1 hsp hsq).mono ?_
      rintro e w4 ⟨v4, rfl, hv4, hb4⟩
      replace vp := vp.up hb4
      replace vq := vq.up hb4
      replace vr := vr.up hb4
      replace hb := Bl.up hb hb4
      obtain ⟨s4, a4, n4, c4, rfl⟩ := hv4.shape
      have iq' := iq.up hb4
      clear p0 p1 p2 p3 ip q0 q1 q2 q3 iq hb4 hz
      obtain ⟨ap, cp, p0, p1, p2, p3, ip⟩ := vp.szs
      obtain ⟨aq, cq, q0, q1, q2, q3, iq⟩ := vq.szs
      have z4 := vr.lt
      have y4 := Nat.lt_of_succ_lt z4
      have x4 := Nat.lt_of_succ_lt y4
      go_wp2_with fail
      have em : ((p : Int) % (q : Int)) = ((p % q : Nat) : Int) := by simp
      have eg : Int.gcd (q : Int) ((p % q : Nat) : Int) = Int.gcd x y := by rw [← em]; exact (gcd_step (p : Int) (q : Int) hq1).trans HG.out
      have es : sz ((p % q : Nat) : Int) ≤ 1099511627776 := Nat.le_trans (sz_mono (by rw [← em]; exact Nat.le_of_lt (mod_less _ _ hq1))) hsq
      rw [em] at hv4
      clear em
      go_roundg (p % q)
      all_goals first
        | (show p % q < gk; rw [HK.out]; exact Nat.mod_lt _ (by omega))
        | (refine ⟨q, p % q, rfl, ?_, ?_, ?_, ?_, eg, hsq, es⟩ <;> exact srch)
end Go.Proofs.YtdbpkoddfcdhdaaGreat
