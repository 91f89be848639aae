/-
  For the laws of layer 12: combinations, small matrices, In of a kernel.
  For the laws of layer 12: Combined, and SameRow with zeros, at small matrices.
-/
import Derived.Test.YtdbpkoddfcdhdaaGreatPT
import Derived.Test.YtdbpkoddfcdhdaaGreatPU
set_option linter.unusedSimpArgs false
set_option linter.unusedVariables false

namespace Go.Proofs.YtdbpkoddfcdhdaaGreat
open Go.RowKit

/-! Combinations. -/
theorem plusR_at (l : List Int) (k : Int) (m : List Int) (i : Nat) : (plusR l k m).getD i 0 = if i < l.length then l.getD i 0 + k * m.getD i 0 else 0 := range_at _ _ _
theorem timesR_at (k : Int) (l : List Int) (i : Nat) : (timesR k l).getD i 0 = k * l.getD i 0 := by
  rw [timesR, range_at]
  split
  · rfl
  · rename_i h
    have : l.getD i 0 = 0 := by simp [List.getD_eq_getElem?_getD, List.getElem?_eq_none (show l.length ≤ i by omega)]
    rw [this]; omega
theorem timesR_len (k : Int) (l : List Int) : (timesR k l).length = l.length := by simp [timesR]
theorem plusR_len (l : List Int) (k : Int) (m : List Int) : (plusR l k m).length = l.length := by simp [plusR]

theorem combR_at (m : List (List Int)) (c : List Int) (n : Nat) : ∀ (t k : Nat), k < n → (combR m c n t).getD k 0 = sumN t fun i => c.getD i 0 * en m i k := by
  intro t
  induction t with
  | zero => intro k hk; simp [combR, sumN, List.getD_eq_getElem?_getD, hk]
  | succ t ih =>
    intro k hk
    rw [combR, plusR_at, combR_len, if_pos hk, ih k hk]
    rfl
theorem combR_sz (m : List (List Int)) (c : List Int) (n S T : Nat) (hc : ∀ i, sz (c.getD i 0) ≤ S) (hm : ∀ i k, sz ((m.getD i []).getD k 0) ≤ T) : ∀ (t k : Nat), sz ((combR m c n t).getD k 0) ≤ S + T + t := by
  intro t
  induction t with
  | zero =>
    intro k
    have : (combR m c n 0).getD k 0 = 0 := zRow_at n k
    rw [this]; simp [sz, words]
  | succ t ih =>
    intro k
    rw [combR, plusR_at]
    split
    · refine Nat.le_trans (sz_add _ _) ?_
      have h1 := ih k
      have h2 := sz_mul (c.getD t 0) ((m.getD t []).getD k 0)
      have h3 := hc t
      have h4 := hm t k
      omega
    · simp [sz, words]

/-- Is a combination zero? -/
def zb (R n : Nat) (m : List (List Int)) (l : List Int) : Bool := decide (∀ k, k < n → sumN R (fun i => l.getD i 0 * en m i k) = 0)

theorem same_zb (R n : Nat) (m : List (List Int)) (l : List Int) : sameRowB (combR m l n R) (List.replicate n 0) = zb R n m l := by
  unfold sameRowB zb
  rw [Bool.eq_iff_iff]
  simp only [decide_eq_true_eq]
  constructor
  · intro h k hk
    rw [← combR_at m l n R k hk, h]
    exact zRow_at n k
  · intro h
    refine row_ext (by rw [combR_len]; simp) fun i hi => ?_
    rw [combR_len] at hi
    rw [combR_at m l n R i hi, h i hi]
    exact (zRow_at n i).symm
theorem zb_times (R n : Nat) (m : List (List Int)) (l : List Int) : zb R n m (timesR 2 l) = zb R n m l := by
  unfold zb
  rw [Bool.eq_iff_iff]
  simp only [decide_eq_true_eq]
  have e : ∀ k, sumN R (fun i => (timesR 2 l).getD i 0 * en m i k) = 2 * sumN R (fun i => l.getD i 0 * en m i k) := fun k => by
    rw [← sumN_mul]
    exact sumN_congr fun i _ => by rw [timesR_at, Int.mul_assoc]
  constructor
  · intro h k hk
    have := h k hk
    rw [e] at this
    omega
  · intro h k hk
    rw [e, h k hk]; rfl

/-! Small matrices. -/
theorem madeM_shape (V : List Int) (R n : Nat) : Shape R n (madeM V R n) := by
  refine ⟨by simp [madeM], fun i hi => ?_⟩
  rw [show (madeM V R n).getD i [] = rowM V i n by simp [madeM, rowM, List.getD_eq_getElem?_getD, hi]]
  exact rowM_len _ _ _
theorem bt_small {x : Int} (h : -128 ≤ x ∧ x ≤ 127) : Bt x 9 := by
  unfold Bt
  have : x.natAbs ≤ 128 := by omega
  omega
theorem madeM_bt (V : List Int) (R n : Nat) (hV : ∀ i, -128 ≤ V.getD i 0 ∧ V.getD i 0 ≤ 127) (j k : Nat) : Bt (en (madeM V R n) j k) 9 := by
  rcases Nat.lt_or_ge j R with hj | hj
  · rcases Nat.lt_or_ge k n with hk | hk
    · have : en (madeM V R n) j k = V.getD (j * n + k) 0 := by
        unfold en
        rw [show (madeM V R n).getD j [] = rowM V j n by simp [madeM, rowM, List.getD_eq_getElem?_getD, hj], rowM, range_at, if_pos hk]
      rw [this]
      exact bt_small (hV _)
    · rw [en_out (madeM_shape V R n) hk]; exact Bt.zero
  · unfold en
    rw [show (madeM V R n).getD j [] = [] by simp [List.getD_eq_getElem?_getD, List.getElem?_eq_none (show (madeM V R n).length ≤ j by rw [(madeM_shape V R n).1]; exact hj)]]
    exact Bt.zero
theorem sz_bt {x : Int} {E : Nat} (h : Bt x E) {n : Nat} (hn : E ≤ 32 * n) : sz x ≤ n := sz_bits h hn
theorem bt_row {l : List Int} (h : ∀ i, -128 ≤ l.getD i 0 ∧ l.getD i 0 ≤ 127) (k : Nat) : Bt (l.getD k 0) 9 := bt_small (h k)

/-! The kernel of a small matrix. -/
/-- K is the kernel of m. -/
structure KerOf (R n : Nat) (m K : List (List Int)) (E : Nat) : Prop where
  ex : ∃ A r0 piv, Trk R n m A E r0 piv ∧ K = kerL n A

theorem KerOf.rank {R n : Nat} {m K h : List (List Int)} {E E' : Nat} {piv : Nat → Nat} (hk : KerOf R n m K E) (hs : Shape R n m) (hh : Herm R n m h E' piv) : h.length + K.length = R := by
  obtain ⟨A, r0, pv, tk, rfl⟩ := hk.ex
  obtain ⟨e, -⟩ := hh.hn.uniq tk.hnf (fun i hi => (tk.lat hs _).2 ((hh.lat _).1 (Lat.row hi))) (fun i hi => (hh.lat _).2 ((tk.lat hs _).1 (Lat.row hi)))
  rw [tk.ker_shape.1]
  have := tk.r
  omega
theorem KerOf.shape {R n : Nat} {m K : List (List Int)} {E : Nat} (hk : KerOf R n m K E) : Shape K.length R K := by
  obtain ⟨A, r0, pv, tk, rfl⟩ := hk.ex
  have := tk.ker_shape
  rw [this.1]; exact this
theorem KerOf.bt {R n : Nat} {m K : List (List Int)} {E : Nat} (hk : KerOf R n m K E) (j k : Nat) : Bt (en K j k) E := by
  obtain ⟨A, r0, pv, tk, rfl⟩ := hk.ex
  exact tk.ker_bt j k
theorem KerOf.lat {R n : Nat} {m K : List (List Int)} {E : Nat} (hk : KerOf R n m K E) (hs : Shape R n m) (c : Nat → Int) : Lat K.length R (en K) c ↔ ∀ k, k < n → sumN R (fun i => c i * en m i k) = 0 := by
  obtain ⟨A, r0, pv, tk, rfl⟩ := hk.ex
  rw [tk.ker_shape.1]
  exact tk.ker_lat hs c
theorem KerOf.row {R n : Nat} {m K : List (List Int)} {E : Nat} (hk : KerOf R n m K E) (hs : Shape R n m) {i : Nat} (hi : i < K.length) : zb R n m (K.getD i []) = true := by
  unfold zb
  rw [decide_eq_true_eq]
  exact (hk.lat hs _).1 (Lat.row hi)

theorem kernel_in {R n E : Nat} {m K : List (List Int)} (hk : KerOf R n m K E) (hs : Shape R n m) (hR0 : 0 < R) (hR : R ≤ 12) (hE0 : 2 ≤ E) (hE : 20 * E ≤ 4398046511104) (v u : Value) (l : List Int) (w : World) (h : Mx w v K) (hu : Rw w u l) (hl : l.length = R) (hb : ∀ k, Bt (l.getD k 0) E) :
    Calls Tryz.prog 16 #[v, u] w fun e w' => e = .returned (.tuple #[.bool (zb R n m l), .int .i64 0]) ∧ Below w.heap.size w w' := by
  rcases Nat.eq_zero_or_pos K.length with h0 | h0
  · have hK : K = [] := List.eq_nil_of_length_eq_zero h0
    have hlat := hk.lat hs (fun i => l.getD i 0)
    subst hK
    have : (!l.any nz) = zb R n m l := by
      unfold zb
      rw [Bool.eq_iff_iff, decide_eq_true_eq, ← hlat]
      rw [Bool.not_eq_true']
      constructor
      · intro hh
        refine Lat.zero.congr fun k hk => ?_
        have hlt : k < l.length := by omega
        have := List.any_eq_false.1 hh _ (List.getElem_mem hlt)
        have e : l[k] = l.getD k 0 := by simp [List.getD_eq_getElem?_getD, hlt]
        rw [e] at this
        have h3 : l.getD k 0 = 0 := by simpa [nz] using this
        exact h3.symm
      · rintro ⟨c, hc⟩
        refine any_false (d := 0) fun j hj => ?_
        have := hc j (by omega)
        have h2 : l.getD j 0 = 0 := this
        rw [h2]; decide
    rw [← this]
    exact In_n v u l w h hu (by omega)
  · obtain ⟨A, r0, pv, tk, rfl⟩ := id hk.ex
    have hlen := tk.ker_shape.1
    rw [hlen] at h0
    have hle := tk.r
    refine (In_g (trkplan_c tk.ker_shape tk.ker_hnf (by omega) hE0 tk.ker_bt) v u l w h hu tk.ker_shape hl h0 (by omega) hR0 hR hb (by omega) (by
      have := Nat.mul_le_mul_right E (show R - r0 ≤ 12 by omega)
      omega)).mono ?_
    rintro e w' ⟨b, rfl, hbl, hb⟩
    refine ⟨?_, hb⟩
    have : b = zb R n m l := by
      unfold zb
      rw [Bool.eq_iff_iff, decide_eq_true_eq, hbl]
      exact tk.ker_lat hs _
    rw [this]
end Go.Proofs.YtdbpkoddfcdhdaaGreat

namespace Go.Proofs.YtdbpkoddfcdhdaaGreat
open Go.RowKit

theorem rw_zr (w : World) (n : Nat) : Rw (w.alloc (.cells (madeCells #[.bool false, .slice none 0 0] (n * 2)) 56)) (.slice (some ⟨w.heap.size, 0, none⟩) n n) (zRow n) := by
  have := (Ow.zeros w n).row (cap := n) (by simp)
  simpa [zRow] using this

theorem rw_front {w : World} {a : Option Addr} {N cap n : Nat} {l : List Int} (h : Rw w (.slice a N cap) l) (hn : n ≤ l.length) : Rw w (.slice a n cap) (l.take n) := by
  obtain ⟨a', cap', e, h1, h2⟩ := h
  injection e with e1 e2 e3
  subst e1 e3
  exact ⟨_, _, by rw [List.length_take, Nat.min_eq_left hn], by rw [List.length_take]; omega, h2.front n⟩
theorem getD_take_bt {l : List Int} {E : Nat} (h : ∀ k, Bt (l.getD k 0) E) (n k : Nat) : Bt ((l.take n).getD k 0) E := by
  rcases Nat.lt_or_ge k n with hk | hk
  · rw [show (l.take n).getD k 0 = l.getD k 0 by simp only [List.getD_eq_getElem?_getD]; rw [List.getElem?_take_of_lt hk]]
    exact h k
  · rw [show (l.take n).getD k 0 = 0 by simp [List.getD_eq_getElem?_getD, List.getElem?_eq_none (show (l.take n).length ≤ k by rw [List.length_take]; omega)]]
    exact Bt.zero
theorem bt_list {l : List Int} {E : Nat} (h : ∀ x ∈ l, Bt x E) (k : Nat) : Bt (l.getD k 0) E := by
  rcases Nat.lt_or_ge k l.length with hk | hk
  · rw [show l.getD k 0 = l[k] by simp [List.getD_eq_getElem?_getD, hk]]
    exact h _ (List.getElem_mem hk)
  · rw [show l.getD k 0 = 0 by simp [List.getD_eq_getElem?_getD, List.getElem?_eq_none hk]]
    exact Bt.zero

theorem bt_double {x : Int} {E : Nat} (h : Bt x E) : Bt (2 * x) (E + 1) := by
  unfold Bt at *
  rw [Int.natAbs_mul, show (2 : Int).natAbs = 2 from rfl, Nat.pow_succ]
  omega

theorem sz30 {x : Int} {E : Nat} (h : Bt x E) (hE : E ≤ 34359738368) : sz x ≤ 1073741824 := sz_bits h (by omega)

theorem combined_g {R n Em Ec : Nat} {m : List (List Int)} {c : List Int} (va vb : Value) (w : World) (ha : Mx w va m) (hb : Rw w vb c) (hs : Shape R n m) (hc : c.length = R) (hR : R ≤ 12) (hn : n ≤ 12)
    (hbm : ∀ j k, Bt (en m j k) Em) (hbc : ∀ k, Bt (c.getD k 0) Ec) (hEm : Em ≤ 34359738368) (hEc : Ec ≤ 34359738368) :
    Calls Tryz.prog 18 #[va, vb, .int .i64 (n : Int)] w fun e w' => ∃ v, e = .returned v ∧ Rw w' v (combR m c n R) ∧ Below w.heap.size w w' := by
  have h1 := fun i => sz30 (hbc i) hEc
  have h2 : ∀ i k, sz ((m.getD i []).getD k 0) ≤ 1073741824 := fun i k => sz30 (hbm i k) hEm
  have hC := combined_any va vb m c n w ha hb (by omega) (by rw [hs.1]; omega) (by omega) (fun i hi => by rw [hs.2 i (by rw [← hs.1]; exact hi)]; exact Nat.le_refl _)
    (fun i => Nat.le_trans (h1 i) (by decide)) (fun i k => Nat.le_trans (h2 i k) (by decide)) (fun t ht k => Nat.le_trans (combR_sz m c n _ _ h1 h2 t k) (by rw [hs.1] at ht; omega))
  rw [hs.1, hc, Nat.min_self] at hC
  exact hC

theorem same0_g {R n Em Ec : Nat} {m : List (List Int)} {c : List Int} (va vb : Value) (w : World) (ha : Rw w va (combR m c n R)) (hb : Rw w vb (zRow n)) (hR : R ≤ 12) (hn : n ≤ 12)
    (hbm : ∀ j k, Bt (en m j k) Em) (hbc : ∀ k, Bt (c.getD k 0) Ec) (hEm : Em ≤ 34359738368) (hEc : Ec ≤ 34359738368) :
    Calls Tryz.prog 13 #[va, vb] w fun e w' => e = .returned (.bool (zb R n m c)) ∧ Below w.heap.size w w' := by
  have h1 := fun i => sz30 (hbc i) hEc
  have h2 : ∀ i k, sz ((m.getD i []).getD k 0) ≤ 1073741824 := fun i k => sz30 (hbm i k) hEm
  have hC := rsameRow_any va vb (combR m c n R) (zRow n) w ha hb (by rw [combR_len]; omega) (by rw [zRow_len]; omega) (fun k => Nat.le_trans (combR_sz m c n _ _ h1 h2 R k) (by omega)) (fun k => by rw [zRow_at]; decide)
  rw [show sameRowB (combR m c n R) (zRow n) = zb R n m c from same_zb R n m c] at hC
  exact hC
end Go.Proofs.YtdbpkoddfcdhdaaGreat
