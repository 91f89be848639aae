/-
  lattice.diagonal
  lattice.transposed
  A row that was built by append and is then written in place; what Smith asks of its invariants.
  lattice.Smith
-/
import Derived.Deep.LoopGhost
import Derived.Test.YtdbpkoddfcdhdaaGreatPI
import Derived.Test.YtdbpkoddfcdhdaaGreatPK
import Derived.Test.YtdbpkoddfcdhdaaGreatPH
set_option linter.unusedSimpArgs false
set_option linter.unusedVariables false

namespace Go.Proofs.YtdbpkoddfcdhdaaGreat
open Go.RowKit
attribute [local go_sem ↓] Go.wp_at_zero Go.wp_at_succ

def diagB (m : List (List Int)) : Bool := (List.range m.length).all fun i => (List.range (m.getD i []).length).all fun k => decide (i = k) || decide ((m.getD i []).getD k 0 = 0)

theorem diagB_iff (m : List (List Int)) : diagB m = true ↔ ∀ i, i < m.length → ∀ k, k < (m.getD i []).length → i ≠ k → (m.getD i []).getD k 0 = 0 := by
  unfold diagB
  simp only [List.all_eq_true, List.mem_range, Bool.or_eq_true, decide_eq_true_eq]
  constructor
  · intro h i hi k hk hne; exact (h i hi k hk).resolve_left hne
  · intro h i hi k hk
    by_cases e : i = k
    · exact .inl e
    · exact .inr (h i hi k hk e)

set_option maxHeartbeats 2000000 in
theorem diagonal_any (v : Value) (m : List (List Int)) (w : World) (h : Mx w v m) (hN : m.length ≤ 1099511627776) (hrow : ∀ i, i < m.length → (m.getD i []).length ≤ 1099511627776) :
    Calls Tryz.prog 31 #[v] w fun e w' => e = .returned (.bool (diagB m)) ∧ Below w.heap.size w w' := by
  obtain ⟨a, ca, rfl, hca, hra⟩ := h
  go_enter Tryz.func31, Tryz.ntmps31
  go_wp2_with fail
  go_loopw [9] (fun s wr => ∃ (i : Nat), i ≤ m.length ∧ s = .int .i64 i ∧ (∀ j, j < i → ∀ k, k < (m.getD j []).length → j ≠ k → (m.getD j []).getD k 0 = 0) ∧ Below w.heap.size w wr)
    (fun s _ => m.length - (intOf s).toNat)
  case atStart => exact ⟨0, Nat.zero_le _, rfl, fun j hj => absurd hj (Nat.not_lt_zero _), Below.refl _ _⟩
  case round =>
    obtain ⟨i, hi, rfl, hval, hbl⟩ := hrel
    have HV := Lib.hid hval
    clear hval
    by_cases hlt : i < m.length
    · obtain ⟨ba, offa, rfl, hba, hla⟩ := hra.at hlt
      obtain ⟨c1, k1, p0, p1⟩ := hla i hlt
      have hn := hrow i hlt
      clear hla hra hrow
      replace p0 := keepc hbl p0
      replace p1 := p1.up hbl
      obtain ⟨rr, hrr⟩ : ∃ rr, rr = m.getD i [] := ⟨_, rfl⟩
      rw [← hrr] at p0 p1 hn
      replace hrr := Lib.hid hrr
      obtain ⟨_, _, e, -, hr1⟩ := p1
      injection e with e1 e2 e3
      subst e1 e3
      clear e2
      go_wp2_with fail
      go_loopw [16] (fun s wq => ∃ (k : Nat), k ≤ rr.length ∧ s = .int .i64 k ∧ (∀ j, j < k → i ≠ j → rr.getD j 0 = 0) ∧ Below wr.heap.size wr wq)
        (fun s _ => rr.length - (intOf s).toNat)
      case atStart => exact ⟨0, Nat.zero_le _, rfl, fun j hj => absurd hj (Nat.not_lt_zero _), Below.refl _ _⟩
      case round =>
        obtain ⟨k, hk, rfl, hval', hbl'⟩ := hrel
        have HW := Lib.hid hval'
        clear hval'
        by_cases hkl : k < rr.length
        · obtain ⟨bb, offb, rfl, hbb, hlb⟩ := hr1.at hkl
          obtain ⟨s2, a2, n2, k2, q0, q1, q2⟩ := hlb k hkl
          clear hlb hr1
          replace q0 := keepc hbl' q0
          replace q1 := keepc hbl' q1
          replace q2 := q2.up hbl'
          have hbB := Bl.up hbl hbl'
          by_cases hik : i = k
          · subst hik
            have hb : ((i : Int) != (i : Int)) = false := by simp
            clear q2
            go_wp2_with fail
            go_roundw
            case rel => exact ⟨i + 1, by omega, by go_num, fun j hj hne => HW.out j (by omega) hne, Bl.alloc hbl' _⟩
            case measure => simp [intOf]; omega
          · have hb : ((i : Int) != (k : Int)) = true := by rw [bne_iff_ne]; omega
            have q3 := q2.alloc (.cells #[.bool s2, .slice a2 n2 k2] 56)
            generalize hx : rr.getD k 0 = x at q2 q3
            have HX := Lib.hid hx
            clear hx q2
            by_cases h0 : x = 0
            · have hc : (cmpI x 0 != 0) = false := by rw [h0]; rfl
              have H0 := Lib.hid h0
              clear h0
              go_wp2_with (go_at_call 46; refine (sign_any _ x _ q3).mono ?_; rintro e w2 ⟨rfl, hb2⟩)
              go_roundw
              case rel =>
                refine ⟨k + 1, by omega, by go_num, fun j hj hne => ?_, (Bl.alloc hbl' _).trans (hb2.mono (by have := hbl'.size; simp; omega))⟩
                by_cases e : j = k
                · subst e; rw [HX.out, H0.out]
                · exact HW.out j (by omega) hne
              case measure => simp [intOf]; omega
            · have hc : (cmpI x 0 != 0) = true := by rw [bne_iff_ne]; exact fun h => h0 (cmpI_zero.1 h)
              have hD : diagB m = false := by
                rw [Bool.eq_false_iff]
                intro hh
                exact h0 (by rw [← HX.out, hrr.out]; exact (diagB_iff m).1 hh i hlt k (by rw [← hrr.out]; exact hkl) hik)
              have HD := Lib.hid hD
              clear hD h0
              go_wp2_with (go_at_call 46; refine (sign_any _ x _ q3).mono ?_; rintro e w2 ⟨rfl, hb2⟩)
              go_ret
              exact ⟨ret_of (by rw [HD.out]; rfl), (Bl.alloc hbB _).trans (hb2.mono (by have := hbB.size; simp; omega))⟩
        · have hkn : k = rr.length := by omega
          subst hkn
          go_wp2_with fail
          go_roundw
          case rel =>
            refine ⟨i + 1, by omega, by go_num, fun j hj k hk hne => ?_, Bl.up hbl hbl'⟩
            by_cases e : j = i
            · subst e; rw [← hrr.out] at hk ⊢; exact HW.out k hk hne
            · exact HV.out j (by omega) k hk hne
          case measure => simp [intOf]; omega
    · have hin : i = m.length := by omega
      subst hin
      go_wp2_with fail
      go_ret
      exact ⟨ret_of (by rw [(diagB_iff m).2 HV.out]; rfl), hbl⟩
end Go.Proofs.YtdbpkoddfcdhdaaGreat

namespace Go.Proofs.YtdbpkoddfcdhdaaGreat
open Go.RowKit
attribute [local go_sem ↓] Go.wp_at_zero Go.wp_at_succ

/-- Column k. -/
def colM (m : List (List Int)) (k : Nat) : List Int := m.map fun r => r.getD k 0
/-- The transposed matrix. -/
def trM (m : List (List Int)) : List (List Int) := (List.range (m.getD 0 []).length).map (colM m)

theorem colM_take (m : List (List Int)) (k i : Nat) (h : i < m.length) : (colM m k).take (i + 1) = (colM m k).take i ++ [(m.getD i []).getD k 0] := by
  have hl : i < (colM m k).length := by simpa [colM] using h
  rw [List.take_succ_eq_append_getElem hl]
  simp [colM, List.getD_eq_getElem?_getD, h]

theorem PutAt.same {w : World} {g i : Nat} {v : Value} (h : ∃ cur, w.heap[g]? = some (.cells cur 36 (0, 0))) (hc : w.cell? ⟨g, i, none⟩ = some v) : PutAt g i v w w := by
  obtain ⟨cur, h⟩ := h
  refine ⟨cur, h, ?_⟩
  simp only [World.cell?, h] at hc
  have e : cur.setIfInBounds i v = cur := by
    apply Array.ext_getElem?
    intro j
    by_cases e : i = j
    · subst e
      simp at hc
      obtain ⟨hl, hv⟩ := Array.getElem?_eq_some_iff.1 hc
      rw [Array.getElem?_setIfInBounds_self_of_lt hl, hc]
    · rw [Array.getElem?_setIfInBounds_ne e]
  rw [e]; exact h

theorem PutAt.again {w w1 w2 : World} {g i : Nat} {u : Value} (h : PutAt g i u w w1) (hb : w2.heap[g]? = w1.heap[g]?) (v : Value) : PutAt g i v w (w2.setCell ⟨g, i, none⟩ v) := by
  obtain ⟨cur, h1, h2⟩ := h
  refine ⟨cur, h1, ?_⟩
  simp [World.setCell, Array.getElem?_modify, hb, h2]

set_option maxHeartbeats 2000000 in
theorem transposed_any (v : Value) (m : List (List Int)) (n : Nat) (w : World) (h : Mx w v m) (hN : m.length ≤ 1099511627776) (hm : 0 < m.length) (hrow : ∀ i, i < m.length → (m.getD i []).length = n) (hn : n ≤ 1099511627776) :
    Calls Tryz.prog 32 #[v] w fun e w' => ∃ g, e = .returned (.slice (some ⟨g, 0, none⟩) n n) ∧ w.heap.size ≤ g ∧ Om w' g ((List.range n).map (colM m)) ∧ Below w.heap.size w w' := by
  obtain ⟨a, ca, rfl, hca, hra⟩ := h
  obtain ⟨ba, offa, rfl, hba, hla⟩ := hra.at hm
  clear hra
  have hb0 : ((m.length : Int) == 0) = false := by rw [beq_eq_false_iff_ne]; omega
  obtain ⟨c0, k0, p0, -⟩ := hla 0 hm
  rw [hrow 0 hm] at p0
  replace p0 : w.cell? ⟨ba, offa, none⟩ = some (.slice c0 n k0) := p0
  have hm' : (0 : Int) < (m.length : Int) := by omega
  have hmk := mk_mat (n : Int) n rfl hn
  go_enter Tryz.func32, Tryz.ntmps32
  go_wp2_with fail
  clear hmk p0
  go_loopw [4, 16] (fun s4 s wr => ∃ (k : Nat) (o : List (List Int)), k ≤ n ∧ s = .int .i64 k ∧ Om wr w.heap.size o ∧ o.length = n ∧ (∀ j, j < k → o.getD j [] = colM m j) ∧ (∀ j, k ≤ j → j < n → wr.cell? ⟨w.heap.size, j, none⟩ = some (.slice none 0 0)) ∧ Below w.heap.size w wr)
    (fun _ s _ => n - (intOf s).toNat)
  case atStart =>
    refine ⟨0, List.replicate n [], Nat.zero_le _, rfl, Om.zeros w _, by simp, fun j hj => absurd hj (Nat.not_lt_zero _), fun j _ hj => ?_, below_new _ _⟩
    rw [World.cell?_alloc_at _ _ _ _ rfl]
    simp [madeCells, Array.getElem?_range, hj, Nat.mod_one]
  case round =>
    obtain ⟨k, o, hk, rfl, hown, hlen, hval, hnil, hbl⟩ := hrel
    have HV := Lib.hid hval
    have HL := Lib.hid hlen
    have HNI := Lib.hid hnil
    have hkl' : k < n → k < o.length := fun h => by rw [hlen]; exact h
    clear hval hlen
    by_cases hlt : k < n
    · have hkl := hkl' hlt
      have r0 := hnil k (Nat.le_refl _) hlt
      clear hkl' hnil
      have hsl := hown.sl
      have hglt := hown.lt
      have i0 : (0 : Int) ≤ (k : Int) := by omega
      have i1 : (k : Int) < (n : Int) := by omega
      obtain ⟨wo, rfl⟩ : ∃ wo : World, wo = wr := ⟨_, rfl⟩
      go_wp2_with fail
      go_loopw [21] (fun s wq => ∃ (i : Nat) (u : Value) (cl : List Int), i ≤ m.length ∧ s = .int .i64 i ∧ cl = (colM m k).take i ∧ wq.cell? ⟨w.heap.size, k, none⟩ = some u ∧ Ar w wq wo.heap.size u cl ∧ But w.heap.size wo wq ∧ PutAt w.heap.size k u wo wq ∧ wq.frozen? ⟨w.heap.size, k, none⟩ = false)
        (fun s _ => m.length - (intOf s).toNat)
      case atStart =>
        exact ⟨0, _, [], Nat.zero_le _, rfl, rfl, r0, Ar.nil _ _ _, But.refl _ _, PutAt.same hown.block r0, hown.free k⟩
      case round =>
        obtain ⟨i, u, cl, hi, rfl, hcl, q0, hAr, hbut, hput, f0⟩ := hrel
        have hl0 : cl.length ≤ 1099511627776 := by rw [hcl, List.length_take]; omega
        replace hcl := Lib.hid hcl
        have hsz := hbut.size
        have hbl' : Below w.heap.size w wr := But.below hbl (Nat.le_refl _) hbut
        by_cases hil : i < m.length
        · obtain ⟨c1, k1, p0, p1⟩ := hla i hil
          rw [hrow i hil] at p0
          have hlr := hrow i hil
          have htk := colM_take m k i hil
          replace p0 := keepc hbl' p0
          obtain ⟨rr, hrr⟩ : ∃ rr, rr = m.getD i [] := ⟨_, rfl⟩
          rw [← hrr] at p1 hlr htk
          replace hrr := Lib.hid hrr
          obtain ⟨_, _, e, -, hr1⟩ := p1
          injection e with e1 e2 e3
          subst e1 e3
          clear e2
          have i2 : (0 : Int) ≤ (i : Int) := by omega
          have i3 : (i : Int) < (m.length : Int) := by omega
          obtain ⟨bb, offb, rfl, hbb, hlb⟩ := hr1.at (i := k) (by omega)
          obtain ⟨s2, a2, n2, k2, q1, q2, hu⟩ := hlb k (by omega)
          clear hlb hr1
          replace q1 := keepc hbl' q1
          replace q2 := keepc hbl' q2
          have HT := Lib.hid htk
          have HR := Lib.hid hlr
          clear htk hlr hrow
          have q0' : ∀ o, (wr.alloc o).cell? ⟨w.heap.size, k, none⟩ = some u := fun o => cellN q0 o
          go_upto_region 10 with fail
          go_region_law ((refine step_appI (by rfl) (.tmp 29) (.tmp 37) _ (by rfl) Tryz.underlying36 wo.heap.size u cl (by rfl) (hAr.drew.alloc _) (by simp; omega) wr.heap.size _ _ _ s2 a2 n2 k2 (rr.getD k 0) (by rfl) (by exact heap_alloc_new _ _) hu hl0 ?_; intro g cap w2 hAr2 hb2; have t0 := (hb2.cell (p := ⟨w.heap.size, k, none⟩) hglt).trans (cellN (cellD q0) _); have t1 := (hb2.frozen (p := ⟨w.heap.size, k, none⟩) hglt).trans (((below_new wr.drew _).frozen (p := ⟨w.heap.size, k, none⟩) (by show w.heap.size < wr.heap.size; omega)).trans f0)))
          all_goals clear q0' p0 q1 q2 q0
          all_goals go_wp2_with fail
          all_goals go_roundw
          all_goals first
            | (refine ⟨i + 1, _, _, by omega, by go_num, ?_, World.cell?_setCell_same _ _ _ t0, hAr2.far hglt _, (But.upB ((hbut.alloc _).drew) hb2).set _ _, PutAt.again hput ((hb2.block _ hglt).trans (Below.heap_alloc _ _ _ (by omega))) _, by simpa using t1⟩
               rw [HT.out, hcl.out])
            | (simp [intOf]; omega)
        · have hin : i = m.length := by omega
          subst hin
          go_wp2_with fail
          have hcl' : cl = colM m k := by rw [hcl.out]; exact List.take_of_length_le (by simp [colM])
          subst hcl'
          go_roundw
          case rel =>
            refine ⟨k + 1, o.set k (colM m k), by omega, by go_num, hown.put hkl hbut hput (hAr.rw hbl'), by rw [List.length_set]; exact HL.out, fun j hj => ?_, fun j hj hjn => ?_, hbl'⟩
            · by_cases e : k = j
              · subst e; rw [mgetD_set_same hkl]
              · rw [mgetD_set_other e]; exact HV.out j (by omega)
            · obtain ⟨cur, h1, h2⟩ := hput
              have h3 := HNI.out j (by omega) hjn
              simp only [World.cell?, h1] at h3
              simp only [World.cell?, h2]
              rw [Array.getElem?_setIfInBounds_ne (by omega)]
              exact h3
          case measure => simp [intOf]; omega
    · have hkn : k = n := by omega
      subst hkn
      go_wp2_with fail
      go_ret
      have e : o = (List.range k).map (colM m) := mat_ext (by rw [HL.out]; simp) (fun j hj => by
        have hj' : j < k := by rw [← HL.out]; exact hj
        rw [HV.out j hj']
        simp [List.getD_eq_getElem?_getD, hj'])
      rw [e] at hown
      exact ⟨_, rfl, Nat.le_refl _, hown, hbl⟩
end Go.Proofs.YtdbpkoddfcdhdaaGreat

namespace Go.Proofs.YtdbpkoddfcdhdaaGreat
open Go.RowKit

theorem Wd.setAt {w : World} {a : Option Addr} {n : Nat} {f : Nat → Nat} (h : Wd w a n f) {B i : Nat} {u : Value} (hc : w.cell? ⟨B, i, none⟩ = some u) (hu : noW u = true) (v : Value) : Wd (w.setCell ⟨B, i, none⟩ v) a n f := by
  rcases h with h | ⟨b, off, h1, h2, h3⟩
  · exact .inl h
  · refine .inr ⟨b, off, h1, by simpa using h2, fun j hj => ?_⟩
    rw [World.cell?_setCell_other]
    · exact h3 j hj
    · intro e
      have := h3 j hj
      rw [← e, hc] at this
      cases this
      simp [noW, wv] at hu

theorem It.setAt {w : World} {v : Value} {z : Int} (h : It w v z) {B i : Nat} {u : Value} (hc : w.cell? ⟨B, i, none⟩ = some u) (hu : noW u = true) (x : Value) : It (w.setCell ⟨B, i, none⟩ x) v z := by
  obtain ⟨a, n, cap, f, h1, h2, h3, h4⟩ := h
  exact ⟨a, n, cap, f, h1, h2, h3.setAt hc hu x, h4⟩

/-- v is a row of the call's own, from block base on, to be written. -/
def Od (w : World) (base : Nat) (v : Value) (l : List Int) : Prop :=
  ∃ a cap, v = .slice a l.length cap ∧ l.length ≤ cap ∧ (l = [] ∨ ∃ g, a = some ⟨g, 0, none⟩ ∧ base ≤ g ∧ g < w.heap.size ∧
    ∀ i, i < l.length → ∃ s c n k, w.cell? ⟨g, i * 2, none⟩ = some (.bool s) ∧ w.cell? ⟨g, i * 2 + 1, none⟩ = some (.slice c n k) ∧ w.frozen? ⟨g, i * 2, none⟩ = false ∧ w.frozen? ⟨g, i * 2 + 1, none⟩ = false ∧ It w (.agg #[.bool s, .slice c n k]) (l.getD i 0))

theorem Od.at {w : World} {base : Nat} {v : Value} {l : List Int} (h : Od w base v l) {i : Nat} (hi : i < l.length) :
    ∃ g cap, v = .slice (some ⟨g, 0, none⟩) l.length cap ∧ base ≤ g ∧ g < w.heap.size ∧
    ∀ i, i < l.length → ∃ s c n k, w.cell? ⟨g, i * 2, none⟩ = some (.bool s) ∧ w.cell? ⟨g, i * 2 + 1, none⟩ = some (.slice c n k) ∧ w.frozen? ⟨g, i * 2, none⟩ = false ∧ w.frozen? ⟨g, i * 2 + 1, none⟩ = false ∧ It w (.agg #[.bool s, .slice c n k]) (l.getD i 0) := by
  obtain ⟨a, cap, rfl, h1, h2⟩ := h
  rcases h2 with rfl | ⟨g, rfl, h3, h4, h5⟩
  · simp at hi
  · exact ⟨g, cap, rfl, h3, h4, h5⟩

theorem Od.up {w w' : World} {base : Nat} {v : Value} {l : List Int} (h : Od w base v l) (hb : Below w.heap.size w w') : Od w' base v l := by
  obtain ⟨a, cap, h0, h1, h2⟩ := h
  refine ⟨a, cap, h0, h1, ?_⟩
  rcases h2 with h | ⟨g, e, h3, h4, h5⟩
  · exact .inl h
  · refine .inr ⟨g, e, h3, Nat.lt_of_lt_of_le h4 hb.size, fun i hi => ?_⟩
    obtain ⟨s, c, n, k, c0, c1, c2, c3, c4⟩ := h5 i hi
    exact ⟨s, c, n, k, (hb.cell (p := ⟨g, _, none⟩) h4).trans c0, (hb.cell (p := ⟨g, _, none⟩) h4).trans c1, (hb.frozen (p := ⟨g, _, none⟩) h4).trans c2, (hb.frozen (p := ⟨g, _, none⟩) h4).trans c3, c4.up hb⟩
theorem Od.drew {w : World} {base : Nat} {v : Value} {l : List Int} (h : Od w base v l) : Od w.drew base v l := h

theorem Od.of {w0 w : World} {base : Nat} {v : Value} {l : List Int} (h : Ar w0 w base v l) (hb : Below w0.heap.size w0 w) : Od w base v l := by
  obtain ⟨xs, h1, h2⟩ := h
  have hx := h1.1
  rcases h1.2 with ⟨rfl, h0⟩ | ⟨g, cap, cur, rfl, h3, h4, h5, -⟩
  · have : l = [] := List.eq_nil_of_length_eq_zero h0
    subst this
    exact ⟨none, 0, rfl, Nat.le_refl _, .inl rfl⟩
  · refine ⟨_, cap, rfl, h5, .inr ⟨g, rfl, h3, (Array.getElem?_eq_some_iff.1 h4).1, fun i hi => ?_⟩⟩
    obtain ⟨s, c, n, k, c0, c1, c2⟩ := h2 i hi
    have e0 := h1.cellAt (i * 2) (by omega)
    have e1 := h1.cellAt (i * 2 + 1) (by omega)
    exact ⟨s, c, n, k, e0.trans c0, e1.trans c1, h1.frozenAt _, h1.frozenAt _, c2.up hb⟩

theorem Od.rw {w : World} {base : Nat} {v : Value} {l : List Int} (h : Od w base v l) : Rw w v l := by
  obtain ⟨a, cap, h0, h1, h2⟩ := h
  refine ⟨a, cap, h0, h1, ?_⟩
  rcases h2 with h | ⟨g, e, h3, h4, h5⟩
  · exact .inl h
  · refine .inr ⟨g, 0, e, h4, fun i hi => ?_⟩
    obtain ⟨s, c, n, k, c0, c1, c2, c3, c4⟩ := h5 i hi
    exact ⟨s, c, n, k, by rw [Nat.zero_add]; exact c0, by rw [Nat.zero_add]; exact c1, c4⟩

/-- An integer is stored at place i. -/
theorem Od.set {w : World} {base g cap N : Nat} {l : List Int} (h : Od w base (.slice (some ⟨g, 0, none⟩) N cap) l) {i : Nat} (hi : i < l.length) {s : Bool} {a : Option Addr} {n c : Nat} {z : Int} (hv : It w (.agg #[.bool s, .slice a n c]) z) :
    Od ((w.setCell ⟨g, i * 2, none⟩ (.bool s)).setCell ⟨g, i * 2 + 1, none⟩ (.slice a n c)) base (.slice (some ⟨g, 0, none⟩) N cap) (l.set i z) := by
  obtain ⟨a0, cap0, e, h1, h2⟩ := h
  injection e with e1 e2 e3
  subst e1 e3
  rcases h2 with rfl | ⟨g', e, h3, h4, h5⟩
  · simp at hi
  injection e with e
  injection e with e
  subst e
  obtain ⟨s0, c0, n0, k0, p0, p1, p2, p3, p4⟩ := h5 i hi
  have q1 : (w.setCell ⟨g, i * 2, none⟩ (.bool s)).cell? ⟨g, i * 2 + 1, none⟩ = some (.slice c0 n0 k0) := by rw [World.cell?_setCell_other _ _ _ _ (by simp)]; exact p1
  have keep : ∀ {v z}, It w v z → It ((w.setCell ⟨g, i * 2, none⟩ (.bool s)).setCell ⟨g, i * 2 + 1, none⟩ (.slice a n c)) v z := fun hv => (hv.setAt p0 rfl _).setAt q1 rfl _
  refine ⟨_, _, by rw [List.length_set, ← e2], by simpa using h1, .inr ⟨g, rfl, h3, by simpa using h4, fun j hj => ?_⟩⟩
  rw [List.length_set] at hj
  by_cases e : i = j
  · subst e
    refine ⟨s, a, n, c, ?_, ?_, by simp [p2], by simp [p3], ?_⟩
    · rw [World.cell?_setCell_other _ _ _ _ (by simp)]; exact World.cell?_setCell_same _ _ _ p0
    · exact World.cell?_setCell_same _ _ _ q1
    · rw [getD_set_same hi]; exact keep hv
  · obtain ⟨s', c', n', k', c0', c1', c2', c3', c4'⟩ := h5 j hj
    refine ⟨s', c', n', k', ?_, ?_, by simp [c2'], by simp [c3'], ?_⟩
    · rw [World.cell?_setCell_other _ _ _ _ (by first | (simp; done) | (simp; omega)), World.cell?_setCell_other _ _ _ _ (by first | (simp; done) | (simp; omega))]; exact c0'
    · rw [World.cell?_setCell_other _ _ _ _ (by first | (simp; done) | (simp; omega)), World.cell?_setCell_other _ _ _ _ (by first | (simp; done) | (simp; omega))]; exact c1'
    · rw [getD_set_other e]; exact keep c4'

/-- The diagonal. -/
def diagL (h : List (List Int)) : List Int := (List.range h.length).map fun i => (h.getD i []).getD i 0

def gcdStep (l : List Int) (i k : Nat) : List Int := (l.set i (Int.gcd (l.getD i 0) (l.getD k 0))).set k (l.getD i 0 / Int.gcd (l.getD i 0) (l.getD k 0) * l.getD k 0)

/-- The states of Smith's matrix: HS; a measure that goes down. -/
structure HPlan (HS : List (List Int) → Prop) (mu : List (List Int) → Nat) : Prop where
  s : ∀ {h}, HS h → h = [] ∨ ∃ R N, 0 < R ∧ R ≤ N ∧ N ≤ 12 ∧ Shape R N h
  step : ∀ {h}, HS h → diagB h = false → ∃ (R N : Nat) (P1 : Nat → Nat → List (List Int) → Prop) (P2 P3 : Nat → Nat → Nat → List (List Int) → Prop), Plan R N N P1 P2 P3 ∧ 0 < R ∧ R ≤ 12 ∧ N ≤ 12 ∧ P1 0 0 (trM h) ∧
    ∀ row col A, P1 row col A → (col = N ∨ row = R) → row ≤ R → HS (A.take row) ∧ mu (A.take row) < mu h

/-- The states of the list of divisors. -/
structure DPlan (n : Nat) (DS : Nat → Nat → List Int → Prop) : Prop where
  s : ∀ {i k l}, DS i k l → l.length = n ∧ (∀ j, sz (l.getD j 0) ≤ 137438953472) ∧ ∀ j, j < n → l.getD j 0 ≠ 0
  step : ∀ {i k l}, DS i k l → i < k → k < n → DS i (k + 1) (gcdStep l i k)
  next : ∀ {i k l}, DS i k l → n ≤ k → DS (i + 1) (i + 2) l
end Go.Proofs.YtdbpkoddfcdhdaaGreat

namespace Go.Proofs.YtdbpkoddfcdhdaaGreat
open Go.RowKit
attribute [local go_sem ↓] Go.wp_at_zero Go.wp_at_succ

theorem Smith_bad (v : Value) (m : List (List Int)) (w : World) (h : Mx w v m) (hN : m.length ≤ 1099511627776) (hr : refM m ≠ 0) :
    Calls Tryz.prog 11 #[v] w fun e w' => e = .returned (.tuple #[.slice none 0 0, .int .i64 (refM m)]) ∧ Below w.heap.size w w' := by
  have hC := refused_any v m w h hN
  rcases refM_cases m with h0 | h0 | h0
  · exact absurd h0 hr
  all_goals
    rw [h0] at hC ⊢
    clear hr h0
    go_enter Tryz.func11, Tryz.ntmps11
    go_wp2_with (go_at_call 29; refine hC.mono ?_; rintro e w1 ⟨rfl, hb1⟩)
    go_ret2
    exact ⟨rfl, hb1⟩

/-- What hermite gives of the matrix that came in. -/
def HerOk (w : World) (v : Value) (HS : List (List Int) → Prop) : Prop :=
  ∀ W, Below w.heap.size w W → Calls Tryz.prog 30 #[v] W fun e w' => ∃ (v' : Value) (h : List (List Int)), e = .returned v' ∧ HS h ∧ Mx w' v' h ∧ Below W.heap.size W w'

set_option maxRecDepth 100000 in
set_option maxHeartbeats 8000000 in
theorem Smith_ok (v : Value) (m : List (List Int)) (w : World) (h : Mx w v m) (hN : m.length ≤ 1099511627776) (hr : refM m = 0)
    (HS : List (List Int) → Prop) (mu : List (List Int) → Nat) (hp : HPlan HS mu) (hH : HerOk w v HS)
    (DS : List (List Int) → Nat → Nat → List Int → Prop) (hD : ∀ h, HS h → diagB h = true → DPlan h.length (DS h) ∧ DS h 0 1 (diagL h)) :
    Calls Tryz.prog 11 #[v] w fun e w' => ∃ (v' : Value) (h : List (List Int)) (k : Nat) (l : List Int), e = .returned (.tuple #[v', .int .i64 0]) ∧ HS h ∧ diagB h = true ∧ DS h h.length k l ∧ Rw w' v' l ∧ Below w.heap.size w w' := by
  have hC := refused_any v m w h hN
  rw [hr] at hC
  have HD := Lib.hid hD
  have HH := Lib.hid hH
  clear hD hr h hH
  go_enter Tryz.func11, Tryz.ntmps11
  go_wp2_with fail
  refine hC.mono ?_
  rintro e w1 ⟨rfl, hb1⟩
  go_wp2_with fail
  refine (HH.out _ hb1).mono ?_
  rintro e w2 ⟨v2, h, rfl, hh, hM, hb2⟩
  have hbw := Bl.up hb1 hb2
  clear hb1 hb2 hC
  go_wp2_with fail
  go_loopg [5] (mu h) (fun kk s5 wr => ∃ (h : List (List Int)) (u : Value), kk = mu h ∧ s5 = u ∧ HS h ∧ Mx wr u h ∧ Below w.heap.size w wr)
  case atStart => exact ⟨h, _, rfl, rfl, hh, hM, hbw⟩
  case round =>
    obtain ⟨h, u, rfl, rfl, hh, hM, hb⟩ := hrel
    have hlen12 : h.length ≤ 12 ∧ ∀ i, i < h.length → (h.getD i []).length ≤ 12 := by
      rcases hp.s hh with rfl | ⟨R, N, h1, h2, h3, h4⟩
      · exact ⟨by simp, fun i hi => by simp at hi⟩
      · exact ⟨by rw [h4.1]; omega, fun i hi => by rw [h4.1] at hi; rw [h4.2 i hi]; omega⟩
    have hdc := diagonal_any _ h wr hM (by omega) (fun i hi => by have := hlen12.2 i hi; omega)
    cases hd : diagB h with
    | false =>
      rw [hd] at hdc
      have hs1 : ∃ R N, 0 < R ∧ R ≤ N ∧ N ≤ 12 ∧ Shape R N h := by
        rcases hp.s hh with rfl | hs
        · exact absurd hd (by decide)
        · exact hs
      obtain ⟨R, N, hR0, hRN, hN12, hsh⟩ := hs1
      obtain ⟨R', N', P1, P2, P3, pl, k0, k1, k2, k3, k4⟩ := hp.step hh hd
      have htr : trM h = (List.range N).map (colM h) := by unfold trM; rw [hsh.2 0 hR0]
      have HT := Lib.hid htr
      have HK := Lib.hid k4
      have htc := fun W (hW : Below wr.heap.size wr W) => transposed_any _ h N W (hM.up hW) (by omega) (by rw [hsh.1]; exact hR0) (fun i hi => hsh.2 i (by rw [← hsh.1]; exact hi)) (by omega)
      have hhc := fun W v (hv : Mx W v (trM h)) => hermite_any pl v (trM h) W hv k3 k0 (by omega) (by omega)
      have HTC := Lib.hid htc
      have HHC := Lib.hid hhc
      have hNle : (trM h).length = N := by rw [htr]; simp
      have HNL := Lib.hid hNle
      clear hd htr k4 htc hhc hlen12 hNle
      go_wp2_with fail
      refine hdc.mono ?_
      rintro e w3 ⟨rfl, hb3⟩
      go_wp2_with fail
      refine (HTC.out _ hb3).mono ?_
      rintro e w4 ⟨g, rfl, hg, hO, hb4⟩
      rw [← HT.out] at hO
      have hMt := hO.mat (cap := N) (by rw [HNL.out]; exact Nat.le_refl _)
      rw [HNL.out] at hMt
      go_wp2_with fail
      refine (HHC.out _ _ hMt).mono ?_
      rintro e w5 ⟨v5, row, col, A, rfl, hP, hrc, hrow, hM5, hb5⟩
      obtain ⟨q1, q2⟩ := HK.out row col A hP hrc hrow
      have hb' := Bl.up (Bl.up (Bl.up hb hb3) hb4) hb5
      clear hb3 hb4 hb5 hO hMt hM hg
      go_wp2_with fail
      go_roundg (mu (A.take row))
      case measure => exact q2
      case rel => exact ⟨A.take row, v5, rfl, rfl, q1, hM5, hb'⟩
    | true =>
      rw [hd] at hdc
      obtain ⟨hdp, hds⟩ := HD.out h hh hd
      have HDG := Lib.hid hd
      clear hd
      obtain ⟨ah, ch, rfl, hch, hMi⟩ := hM
      have hlr : ∀ i, i < h.length → i < (h.getD i []).length := by
        rcases hp.s hh with rfl | ⟨R, N, h1, h2, h3, h4⟩
        · intro i hi; simp at hi
        · intro i hi; rw [h4.1] at hi; rw [h4.2 i hi]; omega
      have HLR := Lib.hid hlr
      have hl12 := hlen12.1
      clear hlr hlen12 hch
      go_wp2_with fail
      refine hdc.mono ?_
      rintro e w3 ⟨rfl, hb3⟩
      replace hMi := hMi.up hb3
      replace hb := Bl.up hb hb3
      clear hb3 hdc
      go_wp2_with fail
      go_loopw [6, 26] (fun s6 s wq => ∃ (i : Nat) (o : List Int) (u : Value), i ≤ h.length ∧ s = .int .i64 i ∧ o = (diagL h).take i ∧ s6 = u ∧ Ar w3 wq w3.heap.size u o ∧ Below w3.heap.size w3 wq)
        (fun _ s _ => h.length - (intOf s).toNat)
      case atStart => exact ⟨0, [], _, Nat.zero_le _, rfl, rfl, rfl, Ar.nil _ _ _, Below.refl _ _⟩
      case round =>
        obtain ⟨i, o, u, hi, rfl, ho, rfl, hAr, hbl⟩ := hrel
        have HO := Lib.hid ho
        have hol : o.length ≤ 1099511627776 := by rw [ho, List.length_take]; omega
        clear ho
        by_cases hlt : i < h.length
        · obtain ⟨ba, offa, rfl, hba, hla⟩ := hMi.at hlt
          obtain ⟨c1, k1, p0, p1⟩ := hla i hlt
          have hil := HLR.out i hlt
          clear hla
          have htk : (diagL h).take (i + 1) = (diagL h).take i ++ [(h.getD i []).getD i 0] := by
            have hl : i < (diagL h).length := by simpa [diagL] using hlt
            rw [List.take_succ_eq_append_getElem hl]
            simp [diagL]
          have HTK := Lib.hid htk
          clear htk
          obtain ⟨rr, hrr⟩ : ∃ rr, rr = h.getD i [] := ⟨_, rfl⟩
          rw [← hrr] at p0 p1 hil HTK
          clear hrr
          obtain ⟨bb, offb, cb, hv⟩ := p1.some (by omega)
          injection hv with e1 e2 e3
          subst e1 e3
          clear e2
          obtain ⟨-, -, s2, a2, n2, q2, x0, x1, x2⟩ := p1.elem hil
          have i0 : (0 : Int) ≤ (i : Int) := by omega
          have i1 : (i : Int) < (rr.length : Int) := by omega
          replace p0 := keepc hbl p0
          replace x0 := keepc hbl x0
          replace x1 := keepc hbl x1
          have hsz := hbl.size
          go_wp2_with (at_builtin; go_must (refine wpl_appI rfl (.tmp 29) (.tmp 37) _ rfl Tryz.underlying36 w3.heap.size _ o rfl (hAr.alloc _) (by simp; omega) wr.heap.size _ _ _ s2 a2 n2 q2 (rr.getD i 0) rfl (heap_alloc_new _ _) x2 hol ?_); intro g cap w4 hAr4 hb4)
          go_roundw
          case rel => exact ⟨i + 1, _, _, by omega, by go_num, by rw [HTK.out, ← HO.out], rfl, hAr4, (Bl.alloc hbl _).trans hb4⟩
          case measure => simp [intOf]; omega
        · have hin : i = h.length := by omega
          have ho2 : o = diagL h := by rw [HO.out, hin]; exact List.take_of_length_le (by simp [diagL])
          subst ho2
          have hOd := Od.of hAr hbl
          have hbw2 := Bl.up hb hbl
          have hdl : (diagL h).length = h.length := by simp [diagL]
          have HDL := Lib.hid hdl
          obtain ⟨ad, cd, hud, hcd, -⟩ := id hOd
          rw [hdl] at hud
          subst hud
          subst hin
          clear hAr hdl hcd HO hol HLR hMi
          have hsz3 := hb.size
          go_wp2_with fail
          go_loopw [42] (fun s wq => ∃ (i k : Nat) (l : List Int), i ≤ h.length ∧ s = .int .i64 i ∧ DS h i (i + 1) l ∧ Od wq w3.heap.size (.slice ad h.length cd) l ∧ Below w.heap.size w wq)
            (fun s _ => h.length - (intOf s).toNat)
          case atStart => exact ⟨0, 0, diagL h, Nat.zero_le _, rfl, hds, hOd, hbw2⟩
          case round =>
            obtain ⟨i, -, l, hi, rfl, hds, hOd, hbl⟩ := hrel
            clear hbw2 hb hbw
            by_cases hlt : i < h.length
            · obtain ⟨wo, rfl⟩ : ∃ wo : World, wo = wr := ⟨_, rfl⟩
              have i0 : (0 : Int) ≤ (i : Int) := by omega
              have i1 : (i : Int) < (h.length : Int) := by omega
              go_wp2_with fail
              go_loopw [9] (fun s wq => ∃ (k : Nat) (l : List Int), s = .int .i64 k ∧ i < k ∧ (k ≤ h.length ∨ k = i + 1) ∧ DS h i k l ∧ Od wq w3.heap.size (.slice ad h.length cd) l ∧ Below w.heap.size w wq)
                (fun s _ => h.length - (intOf s).toNat)
              case atStart => exact ⟨i + 1, l, by go_num, by omega, .inr rfl, hds, hOd, hbl⟩
              case round =>
                clear hbl
                obtain ⟨k, l, rfl, hik, hkl, hds, hOd, hbl⟩ := hrel
                by_cases hkn : k < h.length
                · obtain ⟨hll, hsm, hnz⟩ := hdp.s hds
                  have hst := hdp.step hds hik hkn
                  obtain ⟨g, cap, hv, hgb, hgl, hcs⟩ := hOd.at (i := i) (by omega)
                  rw [hll] at hv
                  injection hv with e1 e2 e3
                  subst e1 e3
                  clear e2
                  obtain ⟨s1, c1, n1, q1, p0, p1, p2, p3, p4⟩ := hcs i (by omega)
                  obtain ⟨s2, c2, n2, q2, r0, r1, r2, r3, r4⟩ := hcs k (by omega)
                  have k0 : (0 : Int) ≤ (k : Int) := by omega
                  have k1 : (k : Int) < (h.length : Int) := by omega
                  have hsx := hsm i
                  have hsy := hsm k
                  have hnx := hnz i hlt
                  unfold gcdStep at hst
                  generalize hx : l.getD i 0 = x at p4 hsx hnx hst
                  generalize hy : l.getD k 0 = y at r4 hsy hst
                  clear hx hy hcs
                  have HLL := Lib.hid hll
                  have HBL := Lib.hid hbl
                  clear hll hsm hnz hbl
                  go_upto_region 19 with fail
                  go_cut [10] (fun s10 wd => ∃ B : Nat, s10 = .pointer (some ⟨B, 0, none⟩) ∧ wr.heap.size ≤ B ∧ Below wr.heap.size wr wd ∧ Vx wd B (Int.gcd x y))
                  case first =>
                    go_region_held3 (fun w' => w'.cell? ⟨g, i * 2, none⟩ = some (.bool s1) ∧ w'.cell? ⟨g, i * 2 + 1, none⟩ = some (.slice c1 n1 q1) ∧ w'.cell? ⟨g, k * 2, none⟩ = some (.bool s2) ∧ w'.cell? ⟨g, k * 2 + 1, none⟩ = some (.slice c2 n2 q2))
                      ((repeat' (first | with_reducible assumption | (with_reducible refine And.intro ?_ ?_) | (with_reducible refine cellD ?_) | (with_reducible refine cellN ?_ _) | (with_reducible refine cellS ?_ (by omega)) | (with_reducible refine keepc (by with_reducible assumption) ?_))))
                      (first
                        | (go_at_call 33; with_reducible (refine (gcd_any _ _ x y _ (by exact srch) (by exact srch) (by exact Nat.le_trans hsx (by decide)) (by exact Nat.le_trans hsy (by decide))).mono ?_); rintro e w5 ⟨vq, rfl, hq, hb5⟩; obtain ⟨hc5, hf5⟩ := bcell hb5; have z5 := hb5.size; (try simp only [World.size_alloc, World.size_drew, World.size_setCell] at z5); (try have y5 := Nat.lt_of_succ_le z5); (try have x5 := Nat.lt_of_succ_le (Nat.le_of_succ_le z5)); obtain ⟨s6, a6, n6, c6, rfl⟩ := hq.shape))
                    all_goals go_wp2_with fail
                    all_goals (go_meet; case rel => (refine ⟨_, rfl, by omega, ?_, ?_⟩ <;> exact srch))
                  case rest =>
                    obtain ⟨B, rfl, hlB, hbc, vG⟩ := hcut
                    replace p0 := keepc hbc p0
                    replace p1 := keepc hbc p1
                    replace p4 := p4.up hbc
                    replace r0 := keepc hbc r0
                    replace r1 := keepc hbc r1
                    replace r4 := r4.up hbc
                    replace hOd := hOd.up hbc
                    have hbl := Bl.up HBL.out hbc
                    have hgB : g ≠ B := by omega
                    have hgl2 := Nat.lt_of_lt_of_le hgl hbc.size
                    clear hbc p2 p3 r2 r3
                    have hg0 : (Int.gcd x y : Int) ≠ 0 := by
                      intro h0; have h2 : Int.gcd x y = 0 := by omega
                      rw [Int.gcd_eq_zero_iff] at h2; exact hnx h2.1
                    have hsg : sz (Int.gcd x y : Int) ≤ 1099511627776 := Nat.le_trans (sz_mono (by rw [Int.natAbs_natCast]; exact Int.gcd_le_natAbs_left _ hnx)) (Nat.le_trans hsx (by decide))
                    have hsd : sz (x / (Int.gcd x y : Int)) ≤ 137438953472 := Nat.le_trans (sz_mono (natAbs_div_le x _)) hsx
                    generalize hgg : (Int.gcd x y : Int) = gg at *
                    clear hgg
                    obtain ⟨aG, mG, t0, t1, t2, t3, it⟩ := vG.szs
                    go_upto_region 20 with fail
                    refine wp_region_T (by kernel_rfl) [17, 19] (S := fun w' => w'.cell? ⟨g, i * 2, none⟩ = some (.bool s1) ∧ w'.cell? ⟨g, i * 2 + 1, none⟩ = some (.slice c1 n1 q1) ∧ w'.cell? ⟨g, k * 2, none⟩ = some (.bool s2) ∧ w'.cell? ⟨g, k * 2 + 1, none⟩ = some (.slice c2 n2 q2) ∧ w'.cell? ⟨B, 0, none⟩ = some (.bool (decide (gg < 0))) ∧ w'.cell? ⟨B, 1, none⟩ = some (.slice aG (sz gg) mG)) ⟨p0, p1, r0, r1, t0, t1⟩ (fun hHeld => ?_)
                    (refine tK 0 rfl ?_; (try simp only [lay, List.getElem_toArray, List.getElem_cons_succ, List.getElem_cons_zero]))
                    (refine tK 1 rfl ?_; (try simp only [lay, List.getElem_toArray, List.getElem_cons_succ, List.getElem_cons_zero]))
                    (refine tP 2 rfl ?_; (try simp only [lay, List.getElem_toArray, List.getElem_cons_succ, List.getElem_cons_zero]))
                    (refine tP 3 rfl ?_; (try simp only [lay, List.getElem_toArray, List.getElem_cons_succ, List.getElem_cons_zero]))
                    (refine tK 4 rfl ?_; (try simp only [lay, List.getElem_toArray, List.getElem_cons_succ, List.getElem_cons_zero]))
                    (refine tK 5 rfl ?_; (try simp only [lay, List.getElem_toArray, List.getElem_cons_succ, List.getElem_cons_zero]))
                    (refine tK 6 rfl ?_; (try simp only [lay, List.getElem_toArray, List.getElem_cons_succ, List.getElem_cons_zero]))
                    (refine tK 7 rfl ?_; (try simp only [lay, List.getElem_toArray, List.getElem_cons_succ, List.getElem_cons_zero]))
                    (refine tK 8 rfl ?_; (try simp only [lay, List.getElem_toArray, List.getElem_cons_succ, List.getElem_cons_zero]))
                    (refine tK 9 rfl ?_; (try simp only [lay, List.getElem_toArray, List.getElem_cons_succ, List.getElem_cons_zero]))
                    (refine tK 11 rfl ?_; (try simp only [lay, List.getElem_toArray, List.getElem_cons_succ, List.getElem_cons_zero]))
                    (refine tK 12 rfl ?_; (try simp only [lay, List.getElem_toArray, List.getElem_cons_succ, List.getElem_cons_zero]))
                    (refine tK 13 rfl ?_; (try simp only [lay, List.getElem_toArray, List.getElem_cons_succ, List.getElem_cons_zero]))
                    (refine tK 14 rfl ?_; (try simp only [lay, List.getElem_toArray, List.getElem_cons_succ, List.getElem_cons_zero]))
                    (refine wpAnyT_one (i := 10) (by as_aux_lemma => kernel_rfl) rfl (fun K hK => ?_); (try simp only [lay, List.getElem_toArray, List.getElem_cons_succ, List.getElem_cons_zero]); go_simp)
                    refine (exact_any _ _ x gg _ p4.drew it.drew hg0 (Nat.le_trans hsx (by decide)) hsg).mono ?_
                    rintro e w4 ⟨v1, rfl, hv1, hb4⟩
                    obtain ⟨s5, a5, n5, k5, rfl⟩ := hv1.shape
                    replace p0 := keepc hb4 (cellD p0)
                    replace p1 := keepc hb4 (cellD p1)
                    replace r0 := keepc hb4 (cellD r0)
                    replace r1 := keepc hb4 (cellD r1)
                    replace t0 := keepc hb4 (cellD t0)
                    replace t1 := keepc hb4 (cellD t1)
                    go_wp2_with fail
                    refine hK.out _ _ (fun _ => ⟨p0, p1, r0, r1, t0, t1⟩) ?_
                    clear hK hHeld
                    (try simp only [lay, List.getElem_toArray, List.getElem_cons_succ, List.getElem_cons_zero])
                    (refine wpAnyT_one (i := 15) (by as_aux_lemma => kernel_rfl) rfl (fun K hK => ?_); (try simp only [lay, List.getElem_toArray, List.getElem_cons_succ, List.getElem_cons_zero]); go_simp)
                    refine (mul_any _ _ (x / gg) y _ hv1 (r4.drew.up hb4) (Nat.le_trans hsd (by decide)) (Nat.le_trans hsy (by decide))).mono ?_
                    rintro e w5 ⟨v2, rfl, hv2, hb5⟩
                    obtain ⟨s6, a6, n6, k6, rfl⟩ := hv2.shape
                    replace p0 := keepc hb5 p0
                    replace p1 := keepc hb5 p1
                    replace r0 := keepc hb5 r0
                    replace r1 := keepc hb5 r1
                    replace t0 := keepc hb5 t0
                    replace t1 := keepc hb5 t1
                    have hOd5 := (hOd.drew.up hb4).up hb5
                    have hbl5 := Bl.up (Bl.up (Bl.drew hbl) hb4) hb5
                    have it5 := (it.drew.up hb4).up hb5
                    obtain ⟨g', cap', hv', -, -, hcs⟩ := hOd5.at (i := i) (by rw [HLL.out]; omega)
                    rw [HLL.out] at hv'
                    injection hv' with e1 e2 e3
                    injection e1 with e1
                    injection e1 with e1
                    subst e1 e3
                    clear e2
                    obtain ⟨-, -, -, -, -, -, f0, f1, -⟩ := hcs i (by rw [HLL.out]; omega)
                    obtain ⟨-, -, -, -, -, -, f2, f3, -⟩ := hcs k (by rw [HLL.out]; omega)
                    clear hcs
                    go_wp2_with fail
                    refine hK.out _ _ (fun _ => ⟨p0, p1, r0, r1, t0, t1⟩) ?_
                    have hHeld5 : w5.cell? ⟨g, i * 2, none⟩ = some (.bool s1) ∧ w5.cell? ⟨g, i * 2 + 1, none⟩ = some (.slice c1 n1 q1) ∧ w5.cell? ⟨g, k * 2, none⟩ = some (.bool s2) ∧ w5.cell? ⟨g, k * 2 + 1, none⟩ = some (.slice c2 n2 q2) ∧ w5.cell? ⟨B, 0, none⟩ = some (.bool (decide (gg < 0))) ∧ w5.cell? ⟨B, 1, none⟩ = some (.slice aG (sz gg) mG) := ⟨p0, p1, r0, r1, t0, t1⟩
                    clear hK
                    (try simp only [lay, List.getElem_toArray, List.getElem_cons_succ, List.getElem_cons_zero])
                    (refine tK 16 rfl ?_; (try simp only [lay, List.getElem_toArray, List.getElem_cons_succ, List.getElem_cons_zero]))
                    (refine wpAnyT_one (i := 17) (by as_aux_lemma => kernel_rfl) rfl (fun K hK => ?_); (try simp only [lay, List.getElem_toArray, List.getElem_cons_succ, List.getElem_cons_zero]); go_simp)
                    go_wp2_with fail
                    refine hK.out _ _ (fun h => absurd h (by decide)) ?_
                    clear hK hHeld5
                    (try simp only [lay, List.getElem_toArray, List.getElem_cons_succ, List.getElem_cons_zero])
                    (refine tP 18 rfl ?_; (try simp only [lay, List.getElem_toArray, List.getElem_cons_succ, List.getElem_cons_zero]))
                    have hik2 : i ≠ k := by omega
                    have hOd6 := hOd5.set (i := i) (by rw [HLL.out]; omega) it5
                    have p1' : (w5.setCell ⟨g, i * 2, none⟩ (.bool (decide (gg < 0)))).cell? ⟨g, i * 2 + 1, none⟩ = some (.slice c1 n1 q1) := by rw [World.cell?_setCell_other _ _ _ _ (by simp)]; exact p1
                    have hv3 := (hv2.setAt p0 rfl (.bool (decide (gg < 0)))).setAt p1' rfl (.slice aG (sz gg) mG)
                    have hbl6 := (hbl5.setCell (p := ⟨g, i * 2, none⟩) (by show w.heap.size ≤ g; omega) (.bool (decide (gg < 0)))).setCell (p := ⟨g, i * 2 + 1, none⟩) (by show w.heap.size ≤ g; omega) (.slice aG (sz gg) mG)
                    have r0' : ((w5.setCell ⟨g, i * 2, none⟩ (.bool (decide (gg < 0)))).setCell ⟨g, i * 2 + 1, none⟩ (.slice aG (sz gg) mG)).cell? ⟨g, k * 2, none⟩ = some (.bool s2) := by
                      rw [World.cell?_setCell_other _ _ _ _ (by first | (simp; done) | (simp; omega)), World.cell?_setCell_other _ _ _ _ (by first | (simp; done) | (simp; omega))]; exact r0
                    have r1' : ((w5.setCell ⟨g, i * 2, none⟩ (.bool (decide (gg < 0)))).setCell ⟨g, i * 2 + 1, none⟩ (.slice aG (sz gg) mG)).cell? ⟨g, k * 2 + 1, none⟩ = some (.slice c2 n2 q2) := by
                      rw [World.cell?_setCell_other _ _ _ _ (by first | (simp; done) | (simp; omega)), World.cell?_setCell_other _ _ _ _ (by first | (simp; done) | (simp; omega))]; exact r1
                    have f2' : ((w5.setCell ⟨g, i * 2, none⟩ (.bool (decide (gg < 0)))).setCell ⟨g, i * 2 + 1, none⟩ (.slice aG (sz gg) mG)).frozen? ⟨g, k * 2, none⟩ = false := by simp [f2]
                    have f3' : ((w5.setCell ⟨g, i * 2, none⟩ (.bool (decide (gg < 0)))).setCell ⟨g, i * 2 + 1, none⟩ (.slice aG (sz gg) mG)).frozen? ⟨g, k * 2 + 1, none⟩ = false := by simp [f3]
                    obtain ⟨W8, hW8⟩ : ∃ W8, W8 = (w5.setCell ⟨g, i * 2, none⟩ (.bool (decide (gg < 0)))).setCell ⟨g, i * 2 + 1, none⟩ (.slice aG (sz gg) mG) := ⟨_, rfl⟩
                    rw [← hW8] at hOd6 hv3 hbl6 r0' r1' f2' f3' ⊢
                    clear hW8 p1' p0 p1 r0 r1 t0 t1 f0 f1 f2 f3 hOd5 hbl5 hv2
                    have hOd7 := hOd6.set (i := k) (by rw [List.length_set, HLL.out]; omega) hv3
                    have hbl7 := (hbl6.setCell (p := ⟨g, k * 2, none⟩) (by show w.heap.size ≤ g; omega) (.bool s6)).setCell (p := ⟨g, k * 2 + 1, none⟩) (by show w.heap.size ≤ g; omega) (.slice a6 n6 k6)
                    (refine wpAnyT_one (i := 19) (by as_aux_lemma => kernel_rfl) rfl (fun K hK => ?_); (try simp only [lay, List.getElem_toArray, List.getElem_cons_succ, List.getElem_cons_zero]); go_simp)
                    go_wp2_with fail
                    refine hK.out _ _ (fun h => absurd h (by decide)) ?_
                    clear hK
                    (try simp only [lay, List.getElem_toArray, List.getElem_cons_succ, List.getElem_cons_zero])
                    refine wpAnyT_done (by kernel_rfl) ?_ _
                    clear r0' r1' f2' f3' hOd6 hbl6
                    go_wp2_with fail
                    go_roundw
                    case rel => exact ⟨k + 1, _, by go_num, by omega, .inl (by omega), hst, hOd7, hbl7⟩
                    case measure => simp [intOf]; omega
                · have hge : h.length ≤ k := by omega
                  have hnx := hdp.next hds hge
                  go_wp2_with fail
                  go_roundw
                  case rel => exact ⟨i + 1, 0, l, by omega, by go_num, hnx, hOd, hbl⟩
                  case measure => simp [intOf]; omega
            · have hin : i = h.length := by omega
              subst hin
              go_wp2_with fail
              go_ret2
              exact ⟨_, h, _, l, rfl, hh, HDG.out, hds, hOd.rw, hbl⟩
end Go.Proofs.YtdbpkoddfcdhdaaGreat
