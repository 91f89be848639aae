/-
  The reference: Refused, RefusedBy.
  lattice's functions at zero matrices.
-/
import Derived.Test.YtdbpkoddfcdhdaaGreatPN
import Derived.Test.YtdbpkoddfcdhdaaGreatPK
import Derived.Test.YtdbpkoddfcdhdaaGreatPL
import Derived.Test.YtdbpkoddfcdhdaaGreatPM
set_option linter.unusedSimpArgs false
set_option linter.unusedVariables false

namespace Go.Proofs.YtdbpkoddfcdhdaaGreat
open Go.RowKit
attribute [local go_sem ↓] Go.wp_at_zero Go.wp_at_succ

theorem any_false {α : Type} {p : α → Bool} {l : List α} {d : α} (h : ∀ j, j < l.length → p (l.getD j d) = false) : l.any p = false := by
  rw [List.any_eq_false]
  intro x hx
  obtain ⟨i, hi, e⟩ := List.mem_iff_getElem.1 hx
  have := h i hi
  simp [List.getD_eq_getElem?_getD, hi, e] at this
  simp [this]
theorem any_true {α : Type} {p : α → Bool} {l : List α} {d : α} {j : Nat} (hj : j < l.length) (h : p (l.getD j d) = true) : l.any p = true := by
  rw [List.any_eq_true]
  refine ⟨l.getD j d, ?_, h⟩
  simp [List.getD_eq_getElem?_getD, hj]

end Go.Proofs.YtdbpkoddfcdhdaaGreat

namespace Go.Proofs.YtdbpkoddfcdhdaaGreat
open Go.RowKit

def zRow (N : Nat) : List Int := List.replicate N 0
def zM (R N : Nat) : List (List Int) := List.replicate R (zRow N)
def zMat (L : List Nat) : List (List Int) := L.map zRow

theorem zRow_at (N k : Nat) : (zRow N).getD k 0 = 0 := by
  unfold zRow
  rcases Nat.lt_or_ge k N with h | h
  · simp [List.getD_eq_getElem?_getD, h]
  · simp [List.getD_eq_getElem?_getD, List.getElem?_eq_none (show (List.replicate N (0 : Int)).length ≤ k by simpa using h)]
theorem zRow_len (N : Nat) : (zRow N).length = N := by simp [zRow]
theorem zRow_any (N : Nat) : (zRow N).any nz = false := by
  rw [List.any_eq_false]
  intro x hx
  rw [zRow, List.mem_replicate] at hx
  rw [hx.2]; decide
theorem zM_row {R N i : Nat} (h : i < R) : (zM R N).getD i [] = zRow N := by simp [zM, List.getD_eq_getElem?_getD, h]
theorem zM_shape (R N : Nat) : Shape R N (zM R N) := ⟨by simp [zM], fun i hi => by rw [zM_row hi, zRow_len]⟩
theorem zM_at (R N i k : Nat) : ((zM R N).getD i []).getD k 0 = 0 := by
  rcases Nat.lt_or_ge i R with h | h
  · rw [zM_row h, zRow_at]
  · rw [show (zM R N).getD i [] = [] by simp [zM, List.getD_eq_getElem?_getD, List.getElem?_eq_none (show (List.replicate R (zRow N)).length ≤ i by simpa using h)]]
    rfl
theorem zM_small (R N : Nat) : SmallM (zM R N) := fun i k => by rw [zM_at]; decide

theorem zplan (R N : Nat) : Plan R N N (fun row _ m => row = 0 ∧ m = zM R N) (fun row _ _ m => row = 0 ∧ m = zM R N) (fun _ _ _ _ => False) where
  s1 := by rintro row col m ⟨-, rfl⟩; exact zM_shape R N
  s2 := by rintro row col i m ⟨-, rfl⟩; exact ⟨zM_shape R N, zM_small R N⟩
  s3 := by rintro row col i m h; exact h.elim
  start := by rintro row col m h - -; exact h
  skip := by rintro row col i m h - -; exact h
  mix := by
    rintro row col i m u v ⟨-, rfl⟩ - - - h0 -
    exact absurd (zM_at ..) h0
  none := by rintro row col m h -; exact h
  pos := by
    rintro row col m ⟨-, rfl⟩ h0
    rw [zM_at] at h0; omega
  neg := by
    rintro row col m ⟨-, rfl⟩ h0
    rw [zM_at] at h0; omega
  red := by rintro row col i m h; exact h.elim
  next := by rintro row col m h; exact h.elim

def uM (R n : Nat) : List (List Int) := unitM (zM R n) n R
theorem uRow {R n i : Nat} (h : i < R) : (uM R n).getD i [] = (zRow (n + R)).set (n + i) 1 := by
  simp only [uM, unitM, List.getD_eq_getElem?_getD, List.getElem?_map, List.getElem?_range h, Option.map_some, Option.getD_some]
  rw [unitRow, zM_row h]
  simp [zRow]
theorem uRow_len {R n i : Nat} (h : i < R) : ((uM R n).getD i []).length = n + R := by rw [uRow h]; simp [zRow]
theorem uM_shape (R n : Nat) : Shape R (n + R) (uM R n) := ⟨by simp [uM, unitM], fun i hi => uRow_len hi⟩
theorem uM_at {R n i k : Nat} (h : i < R) : ((uM R n).getD i []).getD k 0 = if k = n + i then 1 else 0 := by
  rw [uRow h]
  by_cases e : k = n + i
  · subst e; rw [if_pos rfl, getD_set_same (by rw [zRow_len]; omega)]
  · rw [if_neg e, getD_set_other (by omega), zRow_at]
theorem uM_small (R n : Nat) : SmallM (uM R n) := fun i k => by
  rcases Nat.lt_or_ge i R with h | h
  · rw [uM_at h]; split <;> decide
  · rw [show (uM R n).getD i [] = [] by simp [List.getD_eq_getElem?_getD, List.getElem?_eq_none (show (uM R n).length ≤ i by rw [(uM_shape R n).1]; exact h)]]
    simp; decide

theorem lessR_zero (a b : List Int) : lessR a 0 b = a := by
  refine row_ext (by simp [lessR]) fun i hi => ?_
  have hi' : i < a.length := by simpa [lessR] using hi
  rw [lessR, getD_map_range _ hi']
  omega

theorem mset_self {m : List (List Int)} (i : Nat) (h : i < m.length) : m.set i (m.getD i []) = m := by
  refine mat_ext (by simp) fun j hj => ?_
  by_cases e : i = j
  · subst e; rw [mgetD_set_same h]
  · rw [mgetD_set_other e]

theorem uplan (R n : Nat) : Plan R (n + R) (n + R) (fun row col m => m = uM R n ∧ ((row = 0 ∧ col ≤ n) ∨ col = n + row))
    (fun row col i m => m = uM R n ∧ row < i ∧ row < R ∧ ((row = 0 ∧ col < n) ∨ col = n + row)) (fun row col _ m => m = uM R n ∧ row < R ∧ col = n + row) where
  s1 := by rintro row col m ⟨rfl, -⟩; exact uM_shape R n
  s2 := by rintro row col i m ⟨rfl, -⟩; exact ⟨uM_shape R n, uM_small R n⟩
  s3 := by rintro row col i m ⟨rfl, h, rfl⟩; exact ⟨uM_shape R n, uM_small R n, by rw [uM_at h, if_pos rfl]; decide⟩
  start := by rintro row col m ⟨rfl, h⟩ hc hr; exact ⟨rfl, by omega, hr, by omega⟩
  skip := by rintro row col i m ⟨rfl, h1, h2, h3⟩ - -; exact ⟨rfl, by omega, h2, h3⟩
  mix := by
    rintro row col i m u v ⟨rfl, h1, h2, h3⟩ - hi - h0 -
    rw [uM_at hi, if_neg (by omega)] at h0
    exact absurd rfl h0
  none := by
    rintro row col m ⟨rfl, h1, h2, h3⟩ h0
    rw [uM_at h2] at h0
    by_cases e : col = n + row
    · rw [if_pos e] at h0; cases h0
    · exact ⟨rfl, by omega⟩
  pos := by
    rintro row col m ⟨rfl, h1, h2, h3⟩ h0
    rw [uM_at h2] at h0
    by_cases e : col = n + row
    · exact ⟨rfl, h2, e⟩
    · rw [if_neg e] at h0; omega
  neg := by
    rintro row col m ⟨rfl, h1, h2, h3⟩ h0
    rw [uM_at h2] at h0
    split at h0 <;> omega
  red := by
    rintro row col i m ⟨rfl, h1, rfl⟩ - hi
    refine ⟨?_, h1, rfl⟩
    rw [uM_at (show i < R by omega), if_neg (by omega)]
    rw [Int.zero_ediv, lessR_zero, mset_self _ (by rw [(uM_shape R n).1]; omega)]
  next := by rintro row col m ⟨rfl, h1, rfl⟩; exact ⟨rfl, .inr (by omega)⟩

theorem zMat_small (L : List Nat) (h : refM (zMat L) = 0) : zMat L = [] ∨ ∃ R N, 0 < R ∧ R ≤ 12 ∧ 0 < N ∧ N ≤ 12 ∧ zMat L = zM R N := by
  unfold refM at h
  split at h
  · cases h
  · rename_i h1
    split at h
    · cases h
    · rename_i h2
      rcases L with _ | ⟨N, L⟩
      · exact .inl rfl
      · right
        have g0 : (zMat (N :: L)).getD 0 [] = zRow N := rfl
        rw [g0, zRow_len] at h2
        have hall : ∀ k ∈ N :: L, k = N ∧ 0 < k ∧ k ≤ 12 := by
          intro k hk
          have hm : zRow k ∈ zMat (N :: L) := List.mem_map.2 ⟨k, hk, rfl⟩
          have a : ¬ odd N (zRow k) = true := fun hh => h2 (List.any_eq_true.2 ⟨_, hm, hh⟩)
          have b : ¬ big (zRow k) = true := fun hh => h1 (.inr (List.any_eq_true.2 ⟨_, hm, hh⟩))
          unfold odd at a
          unfold big at b
          simp only [zRow_len, decide_eq_true_eq] at a b
          omega
        refine ⟨(N :: L).length, N, by simp, ?_, (hall N (by simp)).2.1, (hall N (by simp)).2.2, ?_⟩
        · have : ¬ 12 < (zMat (N :: L)).length := fun hh => h1 (.inl hh)
          simpa [zMat] using this
        · unfold zMat zM
          rw [List.eq_replicate_iff]
          refine ⟨by simp, fun b hb => ?_⟩
          obtain ⟨k, hk, rfl⟩ := List.mem_map.1 hb
          rw [(hall k hk).1]

theorem zM_rows {R N : Nat} (hN : 0 < N) : ∀ i, i < (zM R N).length → 0 < ((zM R N).getD i []).length := fun i hi => by
  rw [zM_row (by simpa [zM] using hi), zRow_len]; exact hN

/-- What the square functions refuse. -/
def sqM (m : List (List Int)) : Int := if refM m = 0 ∧ 0 < m.length ∧ (m.getD 0 []).length ≠ m.length then 1 else refM m

theorem zRank (v : Value) (L : List Nat) (w : World) (h : Mx w v (zMat L)) (hN : L.length ≤ 1099511627776) :
    Calls Tryz.prog 10 #[v] w fun e w' => ∃ x, e = .returned (.tuple #[.int .i64 x, .int .i64 (refM (zMat L))]) ∧ Below w.heap.size w w' := by
  by_cases h0 : refM (zMat L) = 0
  · rw [h0]
    rcases zMat_small L h0 with e | ⟨R, N, a, b, c, d, e⟩ <;> rw [e] at h
    · exact (Rank_nil v w h).mono fun e w' ⟨he, hb⟩ => ⟨_, he, hb⟩
    · exact (Rank_ok (zplan R N) v _ w h ⟨rfl, rfl⟩ a b c d).mono fun e w' ⟨r, _, _, he, _, _, _, hb⟩ => ⟨_, he, hb⟩
  · exact (Rank_bad v _ w h (by simpa [zMat] using hN) h0).mono fun e w' ⟨he, hb⟩ => ⟨_, he, hb⟩

theorem zHermite (v : Value) (L : List Nat) (w : World) (h : Mx w v (zMat L)) (hN : L.length ≤ 1099511627776) :
    Calls Tryz.prog 25 #[v] w fun e w' => ∃ v' m', e = .returned (.tuple #[v', .int .i64 (refM (zMat L))]) ∧ m' = [] ∧ Mx w' v' m' ∧ Below w.heap.size w w' := by
  have hnil : ∀ w' : World, Mx w' (.slice none 0 0) [] := fun w' => ⟨none, 0, rfl, Nat.le_refl _, .inl rfl⟩
  by_cases h0 : refM (zMat L) = 0
  · rw [h0]
    rcases zMat_small L h0 with e | ⟨R, N, a, b, c, d, e⟩ <;> rw [e] at h
    · exact (Hermite_nil v w h).mono fun e w' ⟨he, hb⟩ => ⟨_, _, he, rfl, hnil _, hb⟩
    · exact (Hermite_ok (zplan R N) v _ w h ⟨rfl, rfl⟩ a b c d).mono fun e w' ⟨v', r, _, _, he, hP, _, _, hM, hb⟩ => ⟨v', _, he, rfl, by rw [hP.1] at hM; exact hM, hb⟩
  · exact (Hermite_bad v _ w h (by simpa [zMat] using hN) h0).mono fun e w' ⟨he, hb⟩ => ⟨_, _, he, rfl, hnil _, hb⟩

theorem zKernel (v : Value) (L : List Nat) (w : World) (h : Mx w v (zMat L)) (hN : L.length ≤ 1099511627776) :
    Calls Tryz.prog 26 #[v] w fun e w' => ∃ v' m', e = .returned (.tuple #[v', .int .i64 (refM (zMat L))]) ∧ ((refM (zMat L) ≠ 0 → m' = []) ∧ ∀ i, i < m'.length → 0 < (m'.getD i []).length) ∧ Mx w' v' m' ∧ Below w.heap.size w w' := by
  have hnil : ∀ w' : World, Mx w' (.slice none 0 0) [] := fun w' => ⟨none, 0, rfl, Nat.le_refl _, .inl rfl⟩
  by_cases h0 : refM (zMat L) = 0
  · rw [h0]
    rcases zMat_small L h0 with e | ⟨R, n, a, b, c, d, e⟩ <;> rw [e] at h
    · exact (Kernel_nil v w h).mono fun e w' ⟨he, hb⟩ => ⟨_, [], he, ⟨fun _ => rfl, fun i hi => absurd hi (Nat.not_lt_zero i)⟩, hnil _, hb⟩
    · refine (Kernel_ok (uplan R n) v _ w h (zM_shape R n) ⟨rfl, .inl ⟨rfl, Nat.zero_le _⟩⟩ a b c d).mono fun e w' ⟨v', r, cc, A, he, hP, _, _, hM, hb⟩ => ⟨v', kerL n A, he, ⟨fun h => absurd rfl h, fun i hi => ?_⟩, hM, hb⟩
      obtain ⟨rfl, -⟩ := hP
      have hmem : (kerL n (uM R n)).getD i [] ∈ kerL n (uM R n) := by rw [List.getD_eq_getElem?_getD, List.getElem?_eq_getElem hi]; exact List.getElem_mem hi
      generalize (kerL n (uM R n)).getD i [] = x at hmem
      unfold kerL at hmem
      obtain ⟨r, hr, rfl⟩ := List.mem_map.1 hmem
      obtain ⟨j, hj, rfl⟩ := getD_mem (List.mem_filter.1 hr).1
      rw [List.length_drop, uRow_len (by rw [(uM_shape R n).1] at hj; exact hj)]
      omega
  · exact (Kernel_bad v _ w h (by simpa [zMat] using hN) h0).mono fun e w' ⟨he, hb⟩ => ⟨_, [], he, ⟨fun _ => rfl, fun i hi => absurd hi (Nat.not_lt_zero i)⟩, hnil _, hb⟩

theorem zSmith (v : Value) (L : List Nat) (w : World) (h : Mx w v (zMat L)) (hN : L.length ≤ 1099511627776) :
    Calls Tryz.prog 11 #[v] w fun e w' => ∃ a c, e = .returned (.tuple #[.slice a 0 c, .int .i64 (refM (zMat L))]) ∧ Below w.heap.size w w' := by
  by_cases h0 : refM (zMat L) = 0
  · have hp : HPlan (fun h => h = []) (fun _ => 0) := ⟨fun h => .inl h, fun h hd => by subst h; cases hd⟩
    have hH : HerOk w v (fun h => h = []) := by
      intro W hW
      rcases zMat_small L h0 with e | ⟨R, N, a, b, c, d, e⟩ <;> rw [e] at h
      · exact (hermite_nil v W (h.up hW)).mono fun e w' ⟨he, hw⟩ => ⟨_, [], he, rfl, ⟨none, 0, rfl, Nat.le_refl _, .inl rfl⟩, hw ▸ Below.refl _ _⟩
      · exact (hermite_any (zplan R N) v _ W (h.up hW) ⟨rfl, rfl⟩ a (by omega) (by omega)).mono fun e w' ⟨v', r, _, m', he, hP, _, _, hM, hb⟩ => ⟨v', m'.take r, he, by rw [hP.1]; rfl, hM, hb⟩
    have := Smith_ok v _ w h (by simpa [zMat] using hN) h0 (fun h => h = []) (fun _ => 0) hp hH (fun _ _ _ l => l = []) (fun h hh _ => by
      subst hh
      exact ⟨⟨fun {i k l} hl => ⟨by rw [hl]; rfl, fun j => by rw [hl]; simp; decide, fun j hj => absurd hj (Nat.not_lt_zero j)⟩, fun {i k l} _ _ hk => absurd hk (Nat.not_lt_zero k), fun {i k l} hl _ => hl⟩, rfl⟩)
    rw [h0]
    refine this.mono fun e w' ⟨v', h, k, l, he, _, _, hl, hM, hb⟩ => ?_
    subst hl
    obtain ⟨a, c, rfl, -⟩ := hM
    exact ⟨a, c, he, hb⟩
  · exact (Smith_bad v _ w h (by simpa [zMat] using hN) h0).mono fun e w' ⟨he, hb⟩ => ⟨_, _, he, hb⟩

theorem zSolve (v u : Value) (L : List Nat) (k : Nat) (w : World) (h : Mx w v (zMat L)) (hu : Rw w u (zRow k)) (hN : L.length ≤ 1099511627776) :
    Calls Tryz.prog 19 #[v, u] w fun e w' => ∃ a n c, e = .returned (.tuple #[.slice a n c, .int .i64 (refBy (zMat L) (zRow k))]) ∧ (refBy (zMat L) (zRow k) ≠ 0 → a = none ∧ n = 0 ∧ c = 0) ∧ Below w.heap.size w w' := by
  by_cases h0 : refBy (zMat L) (zRow k) = 0
  · rw [h0]
    have hM : refM (zMat L) = 0 := by
      unfold refBy at h0
      split at h0
      · cases h0
      · split at h0
        · cases h0
        · exact h0
    have hk12 : (zRow k).length ≤ 12 := by
      unfold refBy at h0
      split at h0
      · cases h0
      · omega
    rcases zMat_small L hM with e | ⟨R, n, a, b, c, d, e⟩ <;> rw [e] at h
    · refine (Solve_nil v u _ w h hu hk12).mono fun e w' ⟨he, hb⟩ => ⟨none, 0, 0, ?_, fun h => absurd rfl h, hb⟩
      rw [zRow_any] at he
      exact he
    · have hkn : (zRow k).length = n := by
        unfold refBy at h0
        split at h0
        · cases h0
        · split at h0
          · cases h0
          · rename_i hn
            rw [e, zM_row a, zRow_len, zRow_len] at hn
            rw [zRow_len]
            by_cases hh : k = n
            · exact hh
            · exact absurd ⟨by rw [← e]; exact hM, by simpa [zM] using a, hh⟩ hn
      have hstep : ∀ i, i < R → idxI nz (((uM R n).getD i []).take n) = -1 := fun i hi => by
        have := idxI_any nz (((uM R n).getD i []).take n)
        have hz : (((uM R n).getD i []).take n).any nz = false := by
          rw [uRow hi, List.take_set_of_le (by omega)]
          rw [show (zRow (n + R)).take n = zRow n by unfold zRow; rw [List.take_replicate]; congr 1; omega]
          exact zRow_any n
        rw [hz] at this
        unfold idxI at this ⊢
        split
        · rename_i hh; rw [if_pos hh] at this; simp at this
        · rfl
      refine (Solve_ok (uplan R n) v u _ _ w h hu (zM_shape R n) hkn ⟨rfl, .inl ⟨rfl, Nat.zero_le _⟩⟩ a b c d (fun _ _ l => l = zRow (n + R)) (fun r cc A hP _ => ?_)).mono ?_
      · obtain ⟨rfl, -⟩ := hP
        refine ⟨uM_small R n, ⟨fun {i l} hl => ⟨by rw [hl, zRow_len], fun j => by rw [hl, zRow_at]; decide⟩, fun {i l k} _ hi hk _ => ?_⟩, ?_⟩
        · rw [hstep i hi] at hk
          omega
        · rw [zRow_len] at hkn
          subst hkn
          simp [zRow]
      · rintro e w' ⟨r, cc, A, i, t, hP, -, -, rfl, -, -, hb, he⟩
        have ht : ((zRow (n + R)).take n).any nz = false := by
          rw [show (zRow (n + R)).take n = zRow n by unfold zRow; rw [List.take_replicate]; congr 1; omega]
          exact zRow_any n
        rcases he with ⟨h1, -⟩ | ⟨-, v', rfl, hv⟩
        · rw [ht] at h1; cases h1
        · obtain ⟨a, c, rfl, -⟩ := hv
          exact ⟨_, _, _, rfl, fun h => absurd rfl h, hb⟩
  · exact (Solve_bad v u _ _ w h hu (by simpa [zMat] using hN) h0).mono fun e w' ⟨he, hb⟩ => ⟨_, _, _, he, fun _ => ⟨rfl, rfl, rfl⟩, hb⟩

theorem refBy_cases (m : List (List Int)) (l : List Int) : refBy m l = 0 ∨ refBy m l = 1 ∨ refBy m l = 2 := by
  unfold refBy
  split
  · exact .inr (.inr rfl)
  · split
    · exact .inr (.inl rfl)
    · exact refM_cases m

theorem zIn (v u : Value) (L : List Nat) (k : Nat) (w : World) (h : Mx w v (zMat L)) (hu : Rw w u (zRow k)) (hN : L.length ≤ 1099511627776) :
    Calls Tryz.prog 16 #[v, u] w fun e w' => ∃ b, e = .returned (.tuple #[.bool b, .int .i64 (refBy (zMat L) (zRow k))]) ∧ (refBy (zMat L) (zRow k) ≠ 0 → b = false) ∧ Below w.heap.size w w' := by
  have hS := zSolve v u L k w h hu hN
  rcases refBy_cases (zMat L) (zRow k) with h0 | h0
  · rw [h0] at hS ⊢
    exact (In_of v u w (fun w' => Below w.heap.size w w') true (hS.mono fun e w' ⟨a, n, c, he, _, hb⟩ => ⟨_, he, hb⟩)).mono fun e w' ⟨he, hb⟩ => ⟨true, he, fun h => absurd rfl h, hb⟩
  · have hne : refBy (zMat L) (zRow k) ≠ 0 := by omega
    exact (In_bad v u w (fun w' => Below w.heap.size w w') _ h0 (hS.mono fun e w' ⟨a, n, c, he, hh, hb⟩ => ⟨by obtain ⟨rfl, rfl, rfl⟩ := hh hne; exact he, hb⟩)).mono fun e w' ⟨he, hb⟩ => ⟨false, he, fun _ => rfl, hb⟩

theorem zDetPlan (R : Nat) (hR : 0 < R) : DetPlan R (fun k m d ng => k = 0 ∧ m = zM R R ∧ d = 1 ∧ ng = false) (fun _ _ _ _ _ => False) := by
  have hi : idxI (nzAt 0) ((zM R R).drop 0) = -1 := by
    unfold idxI
    rw [if_neg]
    intro h
    have := List.findIdx_lt_length.1 h
    obtain ⟨r, hr, hn⟩ := this
    rw [List.drop_zero, zM, List.mem_replicate] at hr
    rw [hr.2, nzAt, zRow_at] at hn
    exact absurd hn (by decide)
  refine ⟨?_, fun h => h.elim, ?_, ?_, fun h => h.elim, fun h => h.elim⟩
  · rintro k m d ng ⟨rfl, rfl, rfl, rfl⟩
    exact ⟨zM_shape R R, zM_small R R, by decide, by decide⟩
  · rintro k m d ng ⟨rfl, rfl, rfl, rfl⟩ - h0
    rw [hi] at h0; cases h0
  · rintro k m d ng p ⟨rfl, rfl, rfl, rfl⟩ - h0
    rw [hi] at h0; omega

theorem zDet (v : Value) (L : List Nat) (w : World) (h : Mx w v (zMat L)) (hN : L.length ≤ 1099511627776) :
    Calls Tryz.prog 21 #[v] w fun e w' => ∃ v' z, e = .returned (.tuple #[v', .int .i64 (sqM (zMat L))]) ∧ It w' v' z ∧ (z = 0 ∨ z = 1) ∧ Below w.heap.size w w' := by
  by_cases h0 : refM (zMat L) = 0
  · by_cases h1 : 0 < (zMat L).length ∧ ((zMat L).getD 0 []).length ≠ (zMat L).length
    · unfold sqM
      rw [if_pos ⟨h0, h1⟩]
      exact (Det_sq v _ w h (by simpa [zMat] using hN) h0 h1.1 h1.2).mono fun e w' ⟨v', he, hi, hb⟩ => ⟨v', 0, he, hi, .inl rfl, hb⟩
    · unfold sqM
      rw [if_neg (fun hh => h1 hh.2), h0]
      rcases zMat_small L h0 with e | ⟨R, N, a, b, c, d, e⟩ <;> rw [e] at h
      · exact (Det_nil v w h).mono fun e w' ⟨v', he, hi, hb⟩ => ⟨v', 1, he, hi, .inr rfl, hb⟩
      · have hNR : N = R := by
          rw [e, zM_row a, zRow_len] at h1
          have hl : (zM R N).length = R := by simp [zM]
          rw [hl] at h1
          omega
        subst hNR
        refine (Det_ok (zDetPlan N a) v _ w h a b ⟨rfl, rfl, rfl, rfl⟩).mono fun e w' ⟨v', z, he, hi, hD, hb⟩ => ⟨v', z, he, hi, .inl ?_, hb⟩
        rcases hD with ⟨_, _, _, _, _, _, _, hz⟩ | ⟨_, _, _, ⟨h, _⟩, _⟩
        · exact hz
        · omega
  · unfold sqM
    rw [if_neg (fun hh => h0 hh.1)]
    exact (Det_bad v _ w h (by simpa [zMat] using hN) h0).mono fun e w' ⟨v', he, hi, hb⟩ => ⟨v', 0, he, hi, .inl rfl, hb⟩

end Go.Proofs.YtdbpkoddfcdhdaaGreat
