/-
  append of all rows of a matrix; a row of a matrix of the call's own replaced.
  For LatticeSame: the normal form of a matrix with changed rows; its rows and the matrix's.
-/
import Derived.Test.YtdbpkoddfcdhdaaGreatPN
import Derived.Test.YtdbpkoddfcdhdaaGreatPH
import Derived.Test.YtdbpkoddfcdhdaaGreatPV
set_option linter.unusedSimpArgs false
set_option linter.unusedVariables false

namespace Go.Proofs.YtdbpkoddfcdhdaaGreat
open Go.RowKit

theorem keepf {w w' : World} (hb : Below w.heap.size w w') {B o : Nat} {v : Value} (h : w.cell? ⟨B, o, none⟩ = some v) (hf : w.frozen? ⟨B, o, none⟩ = false) : w'.frozen? ⟨B, o, none⟩ = false :=
  (hb.frozen (p := ⟨B, o, none⟩) (World.block_lt_of_cell? w ⟨B, o, none⟩ h)).trans hf

theorem isSl_out {v : Value} (h : isSl v = true) : ∃ a n c, v = .slice a n c := by
  cases v <;> simp [isSl] at h
  exact ⟨_, _, _, rfl⟩

theorem Alc.sl {w : World} {g : Nat} (h : Alc isSl w g) : Sl w g := fun o v e => isSl_out (h o v e)

theorem Alc.set {p : Value → Bool} {w : World} {g T : Nat} {fr : Nat × Nat} {cs : Array Value} (hg : w.heap[g]? = some (.cells cs T fr)) (h : Alc p w g) (i : Nat) {u : Value} (hu : p u = true) : Alc p (w.setCell ⟨g, i, none⟩ u) g := by
  have hm := h.mem hg
  refine Alc.of (cs := cs.setIfInBounds i u) (T := T) (fr := fr) (by simp [World.setCell, Array.getElem?_modify, hg]) fun x hx => ?_
  rw [Array.toList_setIfInBounds] at hx
  rcases List.mem_or_eq_of_mem_set hx with h1 | h1
  · exact hm x h1
  · rw [h1]; exact hu

theorem Am2.set {w : World} {base g n cap : Nat} {m : List (List Int)} (h : Am2 w base (.slice (some ⟨g, 0, none⟩) n cap) m) {i : Nat} {x : List Int} {c : Option Addr} {k : Nat} (hi : i < m.length) (hr : Rw w (.slice c x.length k) x) :
    Am2 (w.setCell ⟨g, i, none⟩ (.slice c x.length k)) base (.slice (some ⟨g, 0, none⟩) n cap) (m.set i x) := by
  obtain ⟨⟨xs, h1, h2⟩, h3⟩ := h
  have ha := h3 g rfl
  have hxl := h1.1
  have hn : n = m.length ∧ ∃ cur, w.heap[g]? = some (.cells cur 36 (0, 0)) := by
    rcases h1.2 with ⟨h', _⟩ | ⟨g', cap', cur, h', _, hg, _⟩
    · simp at h'
    · injection h' with e1 h'
      injection e1 with e1
      injection e1 with e1
      subst e1
      exact ⟨h', cur, hg⟩
  obtain ⟨rfl, cur, hg⟩ := hn
  have hbut : But g w (w.setCell ⟨g, i, none⟩ (.slice c x.length k)) := (But.refl g w).set _ _
  refine ⟨⟨xs.set i (.slice c x.length k), by rw [List.length_set]; exact (World.ownsRow.stored h1 i _).1, fun j hj => ?_⟩, fun g' hg' => ?_⟩
  · rw [List.length_set] at hj
    by_cases e : i = j
    · subst e
      have eg : (m.set i x).getD i [] = x := by simp [List.getD_eq_getElem?_getD, hj]
      rw [eg]
      exact ⟨c, k, by simp [hxl, hj], hr.but ha.sl hbut⟩
    · obtain ⟨c', k', c0, c1⟩ := h2 j hj
      have eg : (m.set i x).getD j [] = m.getD j [] := by simp [List.getD_eq_getElem?_getD, e]
      rw [eg]
      exact ⟨c', k', by rw [List.getElem?_set_ne e]; exact c0, c1.but ha.sl hbut⟩
  · simp [Value.ownBlock] at hg'
    subst hg'
    exact Alc.set hg ha i rfl

theorem Am2.slot {w : World} {base g n cap : Nat} {m : List (List Int)} (h : Am2 w base (.slice (some ⟨g, 0, none⟩) n cap) m) {i : Nat} (hi : i < m.length) :
    base ≤ g ∧ (∃ c k, w.cell? ⟨g, i, none⟩ = some (.slice c (m.getD i []).length k)) ∧ w.frozen? ⟨g, i, none⟩ = false := by
  obtain ⟨⟨xs, h1, h2⟩, h3⟩ := h
  have hlt := h1.lt
  rcases h1.2 with ⟨h', _⟩ | ⟨g', cap', cur, h', hbg, hg, hc, hk⟩
  · simp at h'
  · injection h' with e1 h'
    injection e1 with e1
    injection e1 with e1
    subst e1 h'
    obtain ⟨c, k, c0, -⟩ := h2 i hi
    have e0 := World.ownsRow.cellAt h1 i (by omega)
    exact ⟨hbg, ⟨c, k, by rw [e0]; exact c0⟩, by simp [World.frozen?, hg]⟩

theorem run_apM {w : World} {base : Nat} {v : Value} {m0 m : List (List Int)} (t ty : TypeId) (ht : Tryz.prog.underlying t = some (.slice 36)) (h : Am2 w base v m0) (hbase : base ≤ w.heap.size) {a : Option Addr} {c1 : Nat}
    (hm : Mx w (.slice a m.length c1) m) (h0 : 0 < m.length) (hl : m0.length + m.length ≤ 1099511627776) :
    ∃ g cap w', (Builtin.append_ #[t, t] ty #[v, .slice a m.length c1]).run Tryz.prog w = .ok (.slice (some ⟨g, 0, none⟩) (m0.length + m.length) cap) w' ∧
      Am2 w' base (.slice (some ⟨g, 0, none⟩) (m0.length + m.length) cap) (m0 ++ m) ∧ Below base w w' := by
  obtain ⟨i0, hi, hz0, hz1, hz2⟩ := info_parts infoR
  obtain ⟨⟨xs, h1, h2⟩, h3⟩ := h
  have hlt := h1.lt
  obtain ⟨a', c', e, hc, hmi⟩ := hm
  injection e with e1 e2 e3
  subst e1 e3
  clear e2
  obtain ⟨b, off, rfl, hb, hrows⟩ := hmi.at h0
  have hex : ∀ i, ∃ ck : Option Addr × Nat, i < m.length → w.cell? ⟨b, off + i, none⟩ = some (.slice ck.1 (m.getD i []).length ck.2) ∧ Rw w (.slice ck.1 (m.getD i []).length ck.2) (m.getD i []) := fun i => by
    by_cases hh : i < m.length
    · obtain ⟨c, k, r0, r1⟩ := hrows i hh
      exact ⟨(c, k), fun _ => ⟨r0, r1⟩⟩
    · exact ⟨(none, 0), fun h => absurd h hh⟩
  obtain ⟨F, hF⟩ := Classical.axiomOfChoice hex
  have hnews : ∀ j u, ((List.range m.length).map fun i => Value.slice (F i).1 (m.getD i []).length (F i).2)[j]? = some u → w.cell? ((⟨b, off, none⟩ : Addr).add j) = some u := by
    intro j u hu
    rw [List.getElem?_map] at hu
    rcases Nat.lt_or_ge j m.length with hj | hj
    · rw [List.getElem?_range hj] at hu
      simp only [Option.map_some, Option.some.injEq] at hu
      subst hu
      rw [addr_add]
      exact (hF j hj).1
    · rw [List.getElem?_eq_none (by simpa using hj)] at hu
      cases hu
  have hall : ∀ u ∈ ((List.range m.length).map fun i => Value.slice (F i).1 (m.getD i []).length (F i).2), isSl u = true := by
    intro u hu
    obtain ⟨i, _, rfl⟩ := List.mem_map.1 hu
    rfl
  obtain ⟨g, cap, w', hr, k1, k2, k3, k4, k5⟩ := run_app_all isSl w t ty base 36 i0 _ 1 24 ht hi hz0 hz1 hz2 rfl (by omega) v m0.length xs h1 ⟨b, off, none⟩ m.length c1 ((List.range m.length).map fun i => Value.slice (F i).1 (m.getD i []).length (F i).2) (by simp)
    hnews (by intro u hu; obtain ⟨i, _, rfl⟩ := List.mem_map.1 hu; rfl) h0 (by unfold maxLen; omega) (by omega) hbase h3 hall (by simp [Value.cells, isSl])
  have hxl := h1.1
  refine ⟨g, cap, w', hr, ⟨⟨xs ++ (List.range m.length).map fun i => Value.slice (F i).1 (m.getD i []).length (F i).2, by rw [List.length_append]; exact k1, fun i hi => ?_⟩, fun g' hg' => ?_⟩, Below.of_grown k2 hbase (fun k hk => (hlt k hk).1)⟩
  · simp only [List.length_append] at hi
    by_cases e : i < m0.length
    · obtain ⟨c', k', c0, c1⟩ := h2 i e
      have eg : (m0 ++ m).getD i [] = m0.getD i [] := by simp only [List.getD_eq_getElem?_getD, List.getElem?_append_left e]
      rw [eg]
      exact ⟨c', k', by rw [List.getElem?_append_left (by omega)]; exact c0, rw_grown k2 h3 c1⟩
    · have hj : i - m0.length < m.length := by omega
      have eg : (m0 ++ m).getD i [] = m.getD (i - m0.length) [] := by simp only [List.getD_eq_getElem?_getD]; rw [List.getElem?_append_right (by omega)]
      rw [eg]
      refine ⟨(F (i - m0.length)).1, (F (i - m0.length)).2, ?_, rw_grown k2 h3 (hF _ hj).2⟩
      rw [List.getElem?_append_right (by omega)]
      rw [show xs.length = m0.length by omega, List.getElem?_map, List.getElem?_range hj]; rfl
  · simp [Value.ownBlock] at hg'
    subst hg'
    exact k5

theorem wpl_apM {ops : Array Oper} {rest : List Oper} {o : Oper} {a : Act} {Q : Exit → Act → World → Prop} {w : World} (hgd : o.guard = none) (su sx : Operand) (t : TypeId)
    (ho : o.op = .call { callee := .builtin .append, args := #[su, sx], argTypes := #[t, t] }) (ht : Tryz.prog.underlying t = some (.slice 36)) (base : Nat) (v : Value) (m0 m : List (List Int)) (hs : a.eval su = v) (h : Am2 w base v m0) (hbase : base ≤ w.heap.size)
    (b : Option Addr) (n c1 : Nat) (hn : m.length = n) (hxv : a.eval sx = .slice b n c1) (hm : Mx w (.slice b n c1) m) (h0 : 0 < n) (hl : m0.length + n ≤ 1099511627776)
    (hK : ∀ g cap w', Am2 w' base (.slice (some ⟨g, 0, none⟩) (m0.length + n) cap) (m0 ++ m) → Below base w w' → wpList Tryz.prog ops Q rest (a.put o.dst (.slice (some ⟨g, 0, none⟩) (m0.length + n) cap)) w') :
    wpList Tryz.prog ops Q (o :: rest) a w := by
  subst hn
  refine wpList_plain hgd fun K hK' => ?_
  obtain ⟨g, cap, w', hr, h2, h3⟩ := run_apM t o.type ht h hbase hm h0 hl
  unfold Oper.wp execOp
  simp only [ho, resolve, invoke, builtin, Sem.run_bind, Sem.run_pure, Result.andThen_ok, List.map_toArray, List.map_cons, List.map_nil, hs, hxv, hr]
  exact hK' _ _ (hK g cap w' h2 h3)
end Go.Proofs.YtdbpkoddfcdhdaaGreat

namespace Go.Proofs.YtdbpkoddfcdhdaaGreat
open Go.RowKit

theorem en_list_ext {r N : Nat} {h h' : List (List Int)} (s : Shape r N h) (s' : Shape r N h') (e : ∀ i k, i < r → k < N → en h i k = en h' i k) : h = h' := by
  refine mat_ext (by rw [s.1, s'.1]) fun i hi => ?_
  rw [s.1] at hi
  refine row_ext (by rw [s.2 i hi, s'.2 i hi]) fun k hk => ?_
  rw [s.2 i hi] at hk
  exact e i k hi hk

/-- One lattice, one normal form. -/
theorem Herm.same {R R' N : Nat} {m m' h h' : List (List Int)} {E E' : Nat} {piv piv' : Nat → Nat} (hh : Herm R N m h E piv) (hh' : Herm R' N m' h' E' piv') (sl : ∀ v, Lat R' N (en m') v ↔ Lat R N (en m) v) : h' = h := by
  obtain ⟨e, he⟩ := hh'.hn.uniq hh.hn (fun i hi => (hh.lat _).2 ((sl _).1 ((hh'.lat _).1 (Lat.row hi)))) (fun i hi => (hh'.lat _).2 ((sl _).2 ((hh.lat _).1 (Lat.row hi))))
  have s' := hh'.sh
  rw [e] at s'
  exact en_list_ext s' hh.sh fun i k hi hk => he i k (by omega) hk

/-- Is a row of the lattice in the normal form's? -/
theorem herm_in {R n E F : Nat} {m h : List (List Int)} {piv : Nat → Nat} (hh : Herm R n m h E piv) (hR : R ≤ 5) (hn0 : 0 < n) (hn : n ≤ 12) (hE0 : 2 ≤ E) (hb : F + 20 * E ≤ 4398046511104) (v u : Value) (l : List Int) (w : World) (hv : Mx w v h) (hu : Rw w u l) (hl : l.length = n) (hF : ∀ k, Bt (l.getD k 0) F)
    (hL : Lat R n (en m) (fun k => l.getD k 0)) : Calls Tryz.prog 16 #[v, u] w fun e w' => e = .returned (.tuple #[.bool true, .int .i64 0]) ∧ Below w.heap.size w w' := by
  have hL' := (hh.lat _).2 hL
  have hle := hh.le
  rcases Nat.eq_zero_or_pos h.length with h0 | h0
  · have e : h = [] := List.eq_nil_of_length_eq_zero h0
    subst e
    have : (!l.any nz) = true := by
      rw [Bool.not_eq_true']
      obtain ⟨c, hc⟩ := hL'
      refine any_false (d := 0) fun j hj => ?_
      have h2 : l.getD j 0 = 0 := hc j (by omega)
      rw [h2]; decide
    rw [← this]
    exact In_n v u l w hv hu (by omega)
  · refine (In_g (trkplan_c hh.sh hh.hn (by omega) hE0 hh.bt) v u l w hv hu hh.sh hl h0 (by omega) hn0 hn hF (by omega) (by
      have := Nat.mul_le_mul_right E (show h.length ≤ 5 by omega)
      omega)).mono ?_
    rintro e w' ⟨b, rfl, hbl, hb⟩
    rw [hbl.2 hL']
    exact ⟨rfl, hb⟩

section
variable {R n : Nat} {m : List (List Int)}

theorem same_neg (hs : Shape R n m) {a : Nat} (ha : a < R) : Shape R n (m.set a (timesR (-1) (m.getD a []))) ∧ SameL R n (en (m.set a (timesR (-1) (m.getD a [])))) (en m) := by
  have hen : ∀ i k, en (m.set a (timesR (-1) (m.getD a []))) i k = if i = a then - en m a k else en m i k := fun i k => by
    rw [en_set (by rw [hs.1]; exact ha), timesR_at]
    split
    · show -1 * en m a k = _
      omega
    · rfl
  refine ⟨hs.set ha (by rw [timesR_len]; exact hs.2 a ha), (SameL.refl _).step (fun j hj => ?_) (fun j hj => ?_)⟩
  · by_cases e : j = a
    · subst e
      exact ((Lat.row ha).smul (-1)).congr fun k _ => by rw [hen, if_pos rfl]; omega
    · exact (Lat.row hj).congr fun k _ => by rw [hen, if_neg e]
  · by_cases e : j = a
    · subst e
      exact ((Lat.row (m := en (m.set j (timesR (-1) (m.getD j [])))) ha).smul (-1)).congr fun k _ => by rw [hen, if_pos rfl]; omega
    · exact (Lat.row (m := en (m.set a (timesR (-1) (m.getD a [])))) hj).congr fun k _ => by rw [hen, if_neg e]

theorem same_mix (hs : Shape R n m) {a b : Nat} (ha : a < R) (hb : b < R) (hab : a ≠ b) (k0 : Int) (x : List Int) :
    Shape R n (((m.set a x).set a (plusR (m.getD b []) k0 (m.getD a []))).set b (m.getD a [])) ∧ SameL R n (en (((m.set a x).set a (plusR (m.getD b []) k0 (m.getD a []))).set b (m.getD a []))) (en m) := by
  rw [List.set_set]
  have hla := hs.2 a ha
  have hlb := hs.2 b hb
  have hen : ∀ i k, k < n → en ((m.set a (plusR (m.getD b []) k0 (m.getD a []))).set b (m.getD a [])) i k = if i = b then en m a k else if i = a then en m b k + k0 * en m a k else en m i k := fun i k hk => by
    rw [en_set (by rw [List.length_set, hs.1]; exact hb), en_set (by rw [hs.1]; exact ha), plusR_at, hlb, if_pos hk]
    rfl
  have hsh : Shape R n ((m.set a (plusR (m.getD b []) k0 (m.getD a []))).set b (m.getD a [])) := (hs.set ha (by rw [plusR_len]; exact hlb)).set hb hla
  generalize (m.set a (plusR (m.getD b []) k0 (m.getD a []))).set b (m.getD a []) = m' at *
  refine ⟨hsh, (SameL.refl _).step (fun j hj => ?_) (fun j hj => ?_)⟩
  · by_cases e : j = b
    · subst e
      exact (Lat.row ha).congr fun k hk => by rw [hen _ k hk, if_pos rfl]
    · by_cases e2 : j = a
      · subst e2
        exact ((Lat.row hb).add ((Lat.row ha).smul k0)).congr fun k hk => by rw [hen _ k hk, if_neg e, if_pos rfl]
      · exact (Lat.row hj).congr fun k hk => by rw [hen _ k hk, if_neg e, if_neg e2]
  · have eb : ∀ k, k < n → en m' b k = en m a k := fun k hk => by rw [hen _ k hk, if_pos rfl]
    have ea : ∀ k, k < n → en m' a k = en m b k + k0 * en m a k := fun k hk => by rw [hen _ k hk, if_neg hab, if_pos rfl]
    by_cases e : j = a
    · subst e
      exact (Lat.row (m := en m') hb).congr fun k hk => eb k hk
    · by_cases e2 : j = b
      · subst e2
        exact ((Lat.row (m := en m') ha).sub ((Lat.row hb).smul k0)).congr fun k hk => by rw [ea k hk, eb k hk]; omega
      · exact (Lat.row (m := en m') hj).congr fun k hk => by rw [hen _ k hk, if_neg e2, if_neg e]

theorem bt_set {E : Nat} (hb : ∀ j k, Bt (en m j k) E) {a : Nat} {x : List Int} (hx : ∀ k, Bt (x.getD k 0) E) (j k : Nat) : Bt (en (m.set a x) j k) E := by
  by_cases ha : a < m.length
  · rw [en_set ha]
    split
    · exact hx k
    · exact hb j k
  · rw [List.set_eq_of_length_le (by omega)]
    exact hb j k
theorem bt_times {l : List Int} {E : Nat} (h : ∀ k, Bt (l.getD k 0) E) (k : Nat) : Bt ((timesR (-1) l).getD k 0) E := by
  rw [timesR_at, show -1 * l.getD k 0 = - l.getD k 0 by omega]
  exact (h k).neg
theorem bt_plus {a b : List Int} {k0 : Int} (hk : -32768 ≤ k0 ∧ k0 ≤ 32767) (ha : ∀ k, Bt (a.getD k 0) 9) (hb : ∀ k, Bt (b.getD k 0) 9) (k : Nat) : Bt ((plusR a k0 b).getD k 0) 25 := by
  rw [plusR_at]
  split
  · have h1 := ha k
    have h2 := hb k
    generalize a.getD k 0 = x at *
    generalize b.getD k 0 = y at *
    unfold Bt at *
    have e : (k0 * y).natAbs ≤ 32768 * 256 := by
      rw [Int.natAbs_mul]
      exact Nat.mul_le_mul (by omega) (by omega)
    have := Int.natAbs_add_le x (k0 * y)
    omega
  · exact Bt.zero
end
end Go.Proofs.YtdbpkoddfcdhdaaGreat
