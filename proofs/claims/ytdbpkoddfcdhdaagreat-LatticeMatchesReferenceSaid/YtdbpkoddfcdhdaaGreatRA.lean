/-
  Halves, shifts to the left and comparisons of sizes, word by word. No program.
  The reference's division: words of the call's own, word at -1, reaches, half, take.
  The reference's division: half, take, left, Bits.
  The reference's division: left, Bits.
-/
import Derived.IntWalk
import Derived.Test.YtdbpkoddfcdhdaaGreatPA
import Derived.Test.YtdbpkoddfcdhdaaGreatPU
set_option linter.unusedSimpArgs false
set_option linter.unusedVariables false

namespace Go.Proofs.YtdbpkoddfcdhdaaGreat

theorem half_word (x y : Nat) (hx : x < 4294967296) (hy : y < 4294967296) :
    bits BinOp.or IntKind.u64 ((x / 2 : Nat) : Int) ((y * 2147483648 : Nat) : Int) % 4294967296 = (((x + 4294967296 * y) / 2 % 4294967296 : Nat) : Int) := by
  have e : y * 2147483648 = 2 ^ 31 * y := by omega
  rw [e, u64_or_nat _ _ (by omega) (by omega), Nat.or_comm, ← Nat.two_pow_add_eq_or_of_lt (show x / 2 < 2 ^ 31 by omega)]
  omega
theorem half_digit (f : Nat → Nat) (i n : Nat) (hi : i < n) (Hf : Wf f n) : nv f n / 2 / 4294967296 ^ i % 4294967296 = (f i + 4294967296 * pad f n (i + 1)) / 2 % 4294967296 := by
  have := shr_digit f i n 1 hi Hf (by decide)
  rw [Nat.pow_one] at this
  rw [this]
  unfold pad
  rfl

theorem left_word (x c k : Nat) (hx : x < 4294967296) (hc : c < 2 ^ k) (hk : k < 32) :
    bits BinOp.or IntKind.u64 ((x * 2 ^ k : Nat) : Int) (c : Int) % 4294967296 = ((x * 2 ^ k % 4294967296 + c : Nat) : Int) ∧ x * 2 ^ k % 4294967296 + c < 4294967296 ∧ x * 2 ^ k / 4294967296 < 2 ^ k := by
  have h31 : 2 ^ k ≤ 2147483648 := Nat.pow_le_pow_right (n := 2) (by decide) (show k ≤ 31 by omega)
  have hp : 0 < 2 ^ k := Nat.pow_pos (by decide)
  have hb : x * 2 ^ k ≤ 4294967295 * 2147483648 := Nat.mul_le_mul (by omega) h31
  have hlo : x * 2 ^ k % 4294967296 = 2 ^ k * (x % 2 ^ (32 - k)) := by
    have : 4294967296 = 2 ^ k * 2 ^ (32 - k) := by rw [← Nat.pow_add, show k + (32 - k) = 32 by omega]
    rw [this, Nat.mul_comm x, Nat.mul_mod_mul_left]
  have hm : x % 2 ^ (32 - k) + 1 ≤ 2 ^ (32 - k) := Nat.mod_lt _ (Nat.pow_pos (by decide))
  have hm2 : 2 ^ k * (x % 2 ^ (32 - k) + 1) ≤ 2 ^ k * 2 ^ (32 - k) := Nat.mul_le_mul_left _ hm
  rw [← Nat.pow_add, show k + (32 - k) = 32 by omega, Nat.mul_add, Nat.mul_one] at hm2
  have hdiv : x * 2 ^ k / 4294967296 < 2 ^ k := by
    apply Nat.div_lt_of_lt_mul
    exact Nat.mul_lt_mul_of_pos_right hx hp
  have hlt : x * 2 ^ k % 4294967296 + c < 4294967296 := by omega
  refine ⟨?_, hlt, hdiv⟩
  rw [u64_or_nat _ _ (by omega) (by omega)]
  have e : x * 2 ^ k ||| c = x * 2 ^ k + c := by rw [Nat.mul_comm x, ← Nat.two_pow_add_eq_or_of_lt hc]
  rw [e]
  have : (x * 2 ^ k + c) % 4294967296 = x * 2 ^ k % 4294967296 + c := by omega
  omega

theorem left_step (o : Nat → Nat) (V c i j M x k : Nat) (hM : M * 4294967296 ^ j = 2 ^ k * 4294967296 ^ i) (e : nv o i + c * 4294967296 ^ i = V * M) :
    nv (upd o i (x * 2 ^ k % 4294967296 + c)) (i + 1) + x * 2 ^ k / 4294967296 * 4294967296 ^ (i + 1) = (V + x * 4294967296 ^ j) * M := by
  simp only [nv, upd_same, nv_upd _ _ _ (Nat.le_refl _)]
  have hd := Nat.div_add_mod (x * 2 ^ k) 4294967296
  have e1 : x * 4294967296 ^ j * M = x * 2 ^ k * 4294967296 ^ i := by
    rw [Nat.mul_assoc, Nat.mul_comm (4294967296 ^ j), hM, Nat.mul_assoc]
  rw [Nat.add_mul V, e1, ← e, Nat.pow_succ, Nat.add_mul]
  generalize x * 2 ^ k / 4294967296 = q at *
  generalize x * 2 ^ k % 4294967296 = r at *
  rw [← hd, Nat.add_mul]
  have : q * (4294967296 ^ i * 4294967296) = 4294967296 * q * 4294967296 ^ i := by simp only [Nat.mul_assoc, Nat.mul_comm, Nat.mul_left_comm]
  rw [this]
  omega

/-- The highest words that differ decide. -/
theorem cmp_top {f g : Nat → Nat} {n m M i : Nat} (hf : Wf f n) (hg : Wf g m) (hn : n ≤ M) (hm : m ≤ M) (hi : i < M) (he : ∀ j, i < j → j < M → pad f n j = pad g m j) (hne : pad f n i ≠ pad g m i) :
    decide (nv g m ≤ nv f n) = decide (pad g m i < pad f n i) := by
  have e1 := nv_split (pad f n) (i + 1) M hi
  have e2 := nv_split (pad g m) (i + 1) M hi
  have e3 : hv (pad f n) (i + 1) M = hv (pad g m) (i + 1) M := hv_congr fun j hj hj' => he j (by omega) hj'
  rw [nv_pad _ _ _ hn] at e1
  rw [nv_pad _ _ _ hm, ← e3] at e2
  have h1 := nv_lt (wf_pad hf i)
  have h2 := nv_lt (wf_pad hg i)
  simp only [nv] at e1 e2
  generalize 4294967296 ^ (i + 1) * hv (pad f n) (i + 1) M = K at *
  generalize nv (pad f n) i = a at *
  generalize nv (pad g m) i = b at *
  generalize 4294967296 ^ i = P at *
  rw [e1, e2]
  rcases Nat.lt_or_ge (pad g m i) (pad f n i) with c | c
  · have : (pad g m i + 1) * P ≤ pad f n i * P := Nat.mul_le_mul_right _ c
    rw [Nat.add_mul, Nat.one_mul] at this
    rw [decide_eq_true (by omega : b + pad g m i * P + K ≤ a + pad f n i * P + K), decide_eq_true c]
  · have : (pad f n i + 1) * P ≤ pad g m i * P := Nat.mul_le_mul_right _ (by omega)
    rw [Nat.add_mul, Nat.one_mul] at this
    rw [decide_eq_false (by omega : ¬ b + pad g m i * P + K ≤ a + pad f n i * P + K), decide_eq_false (by omega)]
theorem cmp_all {f g : Nat → Nat} {n m M : Nat} (hn : n ≤ M) (hm : m ≤ M) (he : ∀ j, j < M → pad f n j = pad g m j) : decide (nv g m ≤ nv f n) = true := by
  have : nv f n = nv g m := by rw [← nv_pad f n M hn, ← nv_pad g m M hm]; exact nv_congr he
  rw [this]; simp

/-- The binary digits of the highest word. -/
theorem bits_top {f : Nat → Nat} {n j : Nat} (hn : 0 < n) (hf : Wf f n) (h1 : 2 ^ j ≤ f (n - 1)) (h2 : f (n - 1) < 2 ^ (j + 1)) : 2 ^ (32 * (n - 1) + j) ≤ nv f n ∧ nv f n < 2 ^ (32 * (n - 1) + (j + 1)) := by
  obtain ⟨k, rfl⟩ : ∃ k, n = k + 1 := ⟨n - 1, by omega⟩
  simp only [Nat.add_sub_cancel] at *
  have h3 := nv_lt (hf.mono (m := k) (by omega))
  have e : (4294967296 : Nat) ^ k = 2 ^ (32 * k) := by rw [Nat.pow_mul]
  rw [e] at h3
  simp only [nv, e, Nat.pow_add]
  have h4 : 2 ^ (32 * k) * 2 ^ j ≤ f k * 2 ^ (32 * k) := by rw [Nat.mul_comm]; exact Nat.mul_le_mul_right _ h1
  have h5 : (f k + 1) * 2 ^ (32 * k) ≤ 2 ^ (j + 1) * 2 ^ (32 * k) := Nat.mul_le_mul_right _ h2
  rw [Nat.add_mul, Nat.one_mul, Nat.pow_add, Nat.mul_comm (2 ^ j * 2 ^ 1)] at h5
  constructor <;> omega
end Go.Proofs.YtdbpkoddfcdhdaaGreat

namespace Go.Proofs.YtdbpkoddfcdhdaaGreat
open Go.RowKit
attribute [local go_sem ↓] Go.wp_at_zero Go.wp_at_succ

/-- The first n words of block g, of the call's own. -/
def Mo (w : World) (g n : Nat) (f : Nat → Nat) : Prop := ∃ tot F, n ≤ tot ∧ Own w g 85 tot F ∧ ∀ j, j < n → F j = wv f j

theorem Mo.of {w : World} {g n : Nat} {f : Nat → Nat} (h : Own w g 85 n (wv f)) : Mo w g n f := ⟨n, _, Nat.le_refl _, h, fun _ _ => rfl⟩
theorem Mo.lt {w : World} {g n : Nat} {f : Nat → Nat} (h : Mo w g n f) : g < w.heap.size := by obtain ⟨_, _, _, h, _⟩ := h; exact h.lt
theorem Mo.cell {w : World} {g n : Nat} {f : Nat → Nat} (h : Mo w g n f) {i : Nat} (hi : i < n) : w.cell? ⟨g, i, none⟩ = some (.int .u32 (f i : Int)) := by
  obtain ⟨tot, F, h1, h2, h3⟩ := h
  rw [h2.cell (i := i) (by omega), h3 i hi]; rfl
theorem Mo.free {w : World} {g n : Nat} {f : Nat → Nat} (h : Mo w g n f) (i : Nat) : w.frozen? ⟨g, i, none⟩ = false := by obtain ⟨_, _, _, h, _⟩ := h; exact h.free i
theorem Mo.up {w w' : World} {g n : Nat} {f : Nat → Nat} (h : Mo w g n f) (hb : Below w.heap.size w w') : Mo w' g n f := by
  obtain ⟨tot, F, h1, h2, h3⟩ := h
  exact ⟨tot, F, h1, h2.up hb, h3⟩
theorem Mo.only {w w' : World} {g b n : Nat} {f : Nat → Nat} (h : Mo w b n f) (hb : Only g w w') (hne : b ≠ g) : Mo w' b n f := by
  obtain ⟨tot, F, h1, h2, h3⟩ := h
  exact ⟨tot, F, h1, hb.own h2 hne, h3⟩
theorem Mo.wd {w : World} {g n : Nat} {f : Nat → Nat} (h : Mo w g n f) : Wd w (some ⟨g, 0, none⟩) n f :=
  .inr ⟨g, 0, rfl, h.lt, fun i hi => by rw [Nat.zero_add]; exact h.cell hi⟩
theorem Mo.setw {w : World} {g n : Nat} {f : Nat → Nat} (h : Mo w g n f) {i : Nat} (hi : i < n) (x : Nat) : Mo (w.setCell ⟨g, i, none⟩ (.int .u32 (x : Int))) g n (upd f i x) := by
  obtain ⟨tot, F, h1, h2, h3⟩ := h
  refine ⟨tot, _, h1, h2.set (by omega) _, fun j hj => ?_⟩
  unfold updV wv upd
  split
  · rfl
  · exact h3 j hj
theorem Mo.congr {w : World} {g n : Nat} {f f' : Nat → Nat} (h : Mo w g n f) (e : ∀ j, j < n → f j = f' j) : Mo w g n f' := by
  obtain ⟨tot, F, h1, h2, h3⟩ := h
  exact ⟨tot, F, h1, h2, fun j hj => by rw [h3 j hj]; unfold wv; rw [e j hj]⟩

theorem Wd.only {w w' : World} {g : Nat} {a : Option Addr} {n : Nat} {f : Nat → Nat} (h : Wd w a n f) (hb : Only g w w') (hne : ∀ b, a = some b → b.block ≠ g) : Wd w' a n f := by
  rcases h with h | ⟨b, off, e, h1, h2⟩
  · exact .inl h
  · have hn := hne _ e
    refine .inr ⟨b, off, e, by rw [hb.2.2]; exact h1, fun i hi => ?_⟩
    rw [hb.cell hn]; exact h2 i hi

/-- What an append has built, to be written. -/
theorem Aw.own {w : World} {base : Nat} {v : Value} {i : Nat} {o : Nat → Nat} (h : Aw w base v i o) (hi : 0 < i) : ∃ g cap, v = .slice (some ⟨g, 0, none⟩) i cap ∧ i ≤ cap ∧ base ≤ g ∧ Mo w g i o := by
  have hx := h.1
  rcases h.2 with ⟨rfl, h0⟩ | ⟨g, cap, cur, rfl, h3, h4, h5, h6⟩
  · omega
  · have hl : i ≤ cur.size := by
      have e0 := World.ownsRow.cellAt h (i - 1) (by omega)
      rw [lst_get _ _ _ (by omega)] at e0
      simp only [World.cell?, h4] at e0
      rcases Nat.lt_or_ge (i - 1) cur.size with hc | hc
      · omega
      · rw [Array.getElem?_eq_none (by omega)] at e0; simp at e0
    refine ⟨g, cap, rfl, h5, h3, cur.size, fun j => cur.getD j undef, hl, ⟨cur, h4, rfl, fun j hj => ?_⟩, fun j hj => ?_⟩
    · simp [hj]
    · have e0 := World.ownsRow.cellAt h j (by omega)
      rw [lst_get _ _ _ hj] at e0
      simp only [World.cell?, h4] at e0
      have e1 : cur[j]? = some (wv o j) := e0
      simp [e1]

theorem word_m1 (a : Option Addr) (n cap : Nat) (w : World) :
    Calls Tryz.prog 100 #[.slice a n cap, .int .i64 (-1)] w fun e w' => e = .returned (.int .u64 0) ∧ w = w' := by
  go_enter Tryz.func100, Tryz.ntmps100
  go_wp2_with fail
  go_ret
  exact ⟨rfl, rfl⟩

set_option maxRecDepth 100000 in
set_option maxHeartbeats 4000000 in
theorem reaches_any (a b : Option Addr) (n m ca cb : Nat) (f h : Nat → Nat) (w : World) (hn : n ≤ 4398046511104) (hm : m ≤ 4398046511104) (hwf : Wd w a n f) (hwh : Wd w b m h) (hf : Wf f n) (hh : Wf h m) :
    Calls Tryz.prog 103 #[.slice a n ca, .slice b m cb] w fun e w' => e = .returned (.bool (decide (nv h m ≤ nv f n))) ∧ w = w' := by
  have hmx : max (n : Int) (m : Int) = ((max n m : Nat) : Int) := by omega
  obtain ⟨M, hM⟩ : ∃ M, M = max n m := ⟨_, rfl⟩
  have hMn : n ≤ M := by omega
  have hMm : m ≤ M := by omega
  have hMb : M ≤ 4398046511104 := by omega
  rw [← hM] at hmx
  have HMX := Lib.hid hmx
  have hw1 : IntKind.i64.wrap (max (n : Int) (m : Int) - 1) = max (n : Int) (m : Int) - 1 := IntWalk.i64_in _ (by omega)
  clear hM hmx
  go_enter Tryz.func103, Tryz.ntmps103
  go_wp2_with fail
  rw [HMX.out]
  clear hw1
  go_loopw [5] (fun s wq => ∃ k : Nat, k ≤ M ∧ s = .int .i64 ((k : Int) - 1) ∧ (∀ j, k ≤ j → j < M → pad f n j = pad h m j) ∧ w = wq)
    (fun s _ => ((intOf s) + 1).toNat)
  case atStart => exact ⟨M, Nat.le_refl _, rfl, fun j h1 h2 => by omega, rfl⟩
  case round =>
    obtain ⟨k, hk, rfl, he, rfl⟩ := hrel
    rcases k with _ | i
    · have c0 : ¬ (0 : Int) ≤ ((0 : Nat) : Int) - 1 := by omega
      have hres := cmp_all (f := f) (g := h) hMn hMm (fun j hj => he j (Nat.zero_le _) hj)
      have HR := Lib.hid hres
      clear hres he
      go_wp2_with fail
      go_ret
      exact ⟨ret_of (by rw [HR.out]; rfl), rfl⟩
    · rw [show (((i + 1 : Nat) : Int) - 1) = (i : Int) by omega]
      have c0 : (0 : Int) ≤ (i : Int) := by omega
      have b1 := wf_pad hf M i hk
      have b2 := wf_pad hh M i hk
      have HE := Lib.hid he
      clear he
      by_cases hne : pad f n i = pad h m i
      · have c1 : ((pad f n i : Int) != (pad h m i : Int)) = false := by rw [hne]; simp
        go_wp2_with fail
        refine (word_any a n ca f i _ (by omega) (by omega) hwf hf).mono ?_
        rintro e w2 ⟨rfl, rfl⟩
        go_wp2_with fail
        refine (word_any b m cb h i _ (by omega) (by omega) hwh hh).mono ?_
        rintro e w2 ⟨rfl, rfl⟩
        go_wp2_with fail
        go_roundw
        case rel =>
          refine ⟨i, by omega, by first | rfl | go_num, fun j h1 h2 => ?_, by first | rfl | trivial⟩
          rcases Nat.eq_or_lt_of_le h1 with e | e
          · subst e; exact hne
          · exact HE.out j e h2
        case measure => simp [intOf] <;> omega
      · have c1 : ((pad f n i : Int) != (pad h m i : Int)) = true := by rw [bne_iff_ne]; omega
        have hres := cmp_top hf hh hMn hMm hk (fun j h1 h2 => HE.out j (by omega) h2) hne
        have HR := Lib.hid hres
        clear hres
        go_wp2_with fail
        refine (word_any a n ca f i _ (by omega) (by omega) hwf hf).mono ?_
        rintro e w2 ⟨rfl, rfl⟩
        go_wp2_with fail
        refine (word_any b m cb h i _ (by omega) (by omega) hwh hh).mono ?_
        rintro e w2 ⟨rfl, rfl⟩
        go_wp2_with fail
        refine (word_any a n ca f i _ (by omega) (by omega) hwf hf).mono ?_
        rintro e w2 ⟨rfl, rfl⟩
        go_wp2_with fail
        refine (word_any b m cb h i _ (by omega) (by omega) hwh hh).mono ?_
        rintro e w2 ⟨rfl, rfl⟩
        go_wp2_with fail
        go_ret
        exact ⟨ret_of (by rw [HR.out]; simp), rfl⟩
end Go.Proofs.YtdbpkoddfcdhdaaGreat

namespace Go.Proofs.YtdbpkoddfcdhdaaGreat
open Go.RowKit
attribute [local go_sem ↓] Go.wp_at_zero Go.wp_at_succ

set_option maxRecDepth 100000 in
set_option maxHeartbeats 4000000 in
theorem half_any (g n ca : Nat) (f : Nat → Nat) (w : World) (hn : n ≤ 4398046511104) (hO : Mo w g n f) (hf : Wf f n) :
    Calls Tryz.prog 105 #[.slice (some ⟨g, 0, none⟩) n ca] w fun e w' => e = .returned (.tuple #[]) ∧ ∃ f', Mo w' g n f' ∧ Wf f' n ∧ nv f' n = nv f n / 2 ∧ Only g w w' := by
  go_enter Tryz.func105, Tryz.ntmps105
  go_wp2_with fail
  go_loopw [2] (fun s wq => ∃ (i : Nat) (o : Nat → Nat), i ≤ n ∧ s = .int .i64 i ∧ Mo wq g n o ∧ (∀ j, i ≤ j → o j = f j) ∧ Wf o n ∧ nv o i = nv f n / 2 % 4294967296 ^ i ∧ Only g w wq)
    (fun s _ => n - (intOf s).toNat)
  case atStart => exact ⟨0, f, Nat.zero_le _, rfl, hO, fun _ _ => rfl, hf, by simp [nv, Nat.mod_one], Only.refl _ _⟩
  case round =>
    clear hO
    obtain ⟨i, o, hi, rfl, hO, he, hwo, hval, hbl⟩ := hrel
    have HV := Lib.hid hval
    have HE := Lib.hid he
    clear hval he
    have i0 : (0 : Int) ≤ (i : Int) := by omega
    by_cases hlt : i < n
    · have i1 : (i : Int) < (n : Int) := by omega
      have hw1 : IntKind.i64.wrap ((i : Int) + 1) = ((i + 1 : Nat) : Int) := by rw [IntWalk.i64_in _ (by omega)]; omega
      have c0 := hO.cell hlt
      have c1 := hO.free i
      have hd := half_digit f i n hlt hf
      have x0 := hf i hlt
      have y0 := wf_pad hf (i + 2) (i + 1) (by omega)
      have ep : pad o n (i + 1) = pad f n (i + 1) := by
        unfold pad
        split
        · exact HE.out _ (by omega)
        · rfl
      have hw := half_word (f i) (pad f n (i + 1)) x0 y0
      rw [HE.out i (Nat.le_refl _)] at c0
      go_upto_region 3 with fail
      go_wp2_with fail
      refine (word_any _ n ca o i _ (by omega) (by omega) hO.wd hwo).mono ?_
      rintro e w2 ⟨rfl, rfl⟩
      rw [pad_lt hlt, HE.out i (Nat.le_refl _)]
      go_wp2_with fail
      rw [show (i : Int) + 1 = ((i + 1 : Nat) : Int) by omega]
      refine (word_any _ n ca o (i + 1) _ (by omega) (by omega) hO.wd hwo).mono ?_
      rintro e w2 ⟨rfl, rfl⟩
      rw [ep]
      generalize pad f n (i + 1) = y at *
      generalize f i = x at *
      have e1 : (x : Int) / 2 = ((x / 2 : Nat) : Int) := by omega
      have e2 : (y : Int) * 2147483648 = ((y * 2147483648 : Nat) : Int) := by omega
      have HW := Lib.hid (show bits BinOp.or IntKind.u64 ((x : Int) / 2) ((y : Int) * 2147483648) % 4294967296 = (((x + 4294967296 * y) / 2 % 4294967296 : Nat) : Int) by rw [e1, e2]; exact hw)
      clear hw e1 e2
      go_wp2_with fail
      go_roundw
      case rel =>
        rw [HW.out]
        refine ⟨i + 1, upd o i ((x + 4294967296 * y) / 2 % 4294967296), by omega, by go_num, hO.setw hlt _, fun j hj => ?_, fun j hj => ?_, nv_mod_step _ i o HV.out _ hd.symm, hbl.set i _⟩
        · rw [upd_other _ _ _ _ (by omega)]; exact HE.out j (by omega)
        · by_cases e : j = i
          · subst e; rw [upd_same]; exact Nat.mod_lt _ (by decide)
          · rw [upd_other _ _ _ _ e]; exact hwo j hj
      case measure => simp [intOf]; omega
    · have i1 : ¬ (i : Int) < (n : Int) := by omega
      have hin : i = n := by omega
      subst hin
      have hv := HV.out
      rw [Nat.mod_eq_of_lt (Nat.lt_of_le_of_lt (Nat.div_le_self _ _) (nv_lt hf))] at hv
      go_wp2_with fail
      exact bodyPost_end (results_none rfl _ _ _) rfl ⟨rfl, o, hO, hwo, hv, hbl⟩

/-- Words that are left out are zero. -/
theorem nv_cut {h : Nat → Nat} {n m : Nat} (hlt : nv h m < 4294967296 ^ n) : nv (pad h m) n = nv h m := by
  rcases Nat.lt_or_ge n m with c | c
  · have e := nv_split h n m (by omega)
    have h0 : hv h n m = 0 := by
      rcases Nat.eq_zero_or_pos (hv h n m) with e0 | e0
      · exact e0
      · have := Nat.mul_le_mul_left (4294967296 ^ n) e0
        omega
    rw [h0, Nat.mul_zero, Nat.add_zero] at e
    rw [e]
    exact nv_congr fun i hi => pad_lt (by omega)
  · exact nv_pad _ _ _ c

theorem take_end (o f h : Nat → Nat) (n m c : Nat) (hc : c ≤ 1) (ho : Wf o n) (hf : Wf f n) (hle : nv h m ≤ nv f n)
    (e : nv o n + nv (pad h m) n + c * 1 * 0 = nv f n + c * 4294967296 ^ n) : nv o n = nv f n - nv h m := by
  have h1 := nv_lt ho
  have h2 := nv_lt hf
  rw [nv_cut (by omega)] at e
  rcases Nat.eq_zero_or_pos c with h0 | h0
  · subst h0; omega
  · obtain rfl : c = 1 := by omega
    omega

set_option maxRecDepth 100000 in
set_option maxHeartbeats 4000000 in
theorem take_any (g : Nat) (b : Option Addr) (n m ca cb : Nat) (f h : Nat → Nat) (w : World) (hn : n ≤ 4398046511104) (hm : m ≤ 4398046511104) (hO : Mo w g n f) (hf : Wf f n) (hwh : Wd w b m h) (hh : Wf h m)
    (hne : ∀ a, b = some a → a.block ≠ g) (hle : nv h m ≤ nv f n) :
    Calls Tryz.prog 104 #[.slice (some ⟨g, 0, none⟩) n ca, .slice b m cb] w fun e w' => e = .returned (.tuple #[]) ∧ ∃ f', Mo w' g n f' ∧ Wf f' n ∧ nv f' n = nv f n - nv h m ∧ Only g w w' := by
  have HLE := Lib.hid hle
  clear hle
  go_enter Tryz.func104, Tryz.ntmps104
  go_wp2_with fail
  go_loopw [4, 5, 6] (fun s4 s _ wq => ∃ (i c : Nat) (o : Nat → Nat), i ≤ n ∧ s = .int .i64 i ∧ s4 = .int .u64 c ∧ c ≤ 1 ∧ Mo wq g n o ∧ (∀ j, i ≤ j → o j = f j) ∧ Wf o n ∧ nv o i + nv (pad h m) i + c * 1 * 0 = nv f i + c * 4294967296 ^ i ∧ Only g w wq)
    (fun _ s _ _ => n - (intOf s).toNat)
  case atStart => exact ⟨0, 0, f, Nat.zero_le _, rfl, rfl, by omega, hO, fun _ _ => rfl, hf, rfl, Only.refl _ _⟩
  case round =>
    clear hO
    obtain ⟨i, c, o, hi, rfl, rfl, hc, hO, he, hwo, hval, hbl⟩ := hrel
    have HV := Lib.hid hval
    have HE := Lib.hid he
    clear hval he
    have i0 : (0 : Int) ≤ (i : Int) := by omega
    by_cases hlt : i < n
    · have i1 : (i : Int) < (n : Int) := by omega
      have c0 := hO.cell hlt
      have c1 := hO.free i
      have x0 := hf i hlt
      have y0 := wf_pad hh (i + 1) i (by omega)
      rw [HE.out i (Nat.le_refl _)] at c0
      have hstep := sub_step o f (pad h m) i c ((4294967296 + f i - pad h m i - c) % 4294967296) (1 - (4294967296 + f i - pad h m i - c) / 4294967296) (by omega) HV.out
      have HS := Lib.hid hstep
      clear hstep
      have HWD := Lib.hid hwh
      have hwd' := hwh.only hbl hne
      generalize hy : pad h m i = y at *
      generalize hx : f i = x at *
      have hz : ((4294967296 + (x : Int) - (y : Int) - (c : Int)) % 4294967296) = (((4294967296 + x - y - c) % 4294967296 : Nat) : Int) := by omega
      have hz2 : 1 - (4294967296 + (x : Int) - (y : Int) - (c : Int)) / 4294967296 = ((1 - (4294967296 + x - y - c) / 4294967296 : Nat) : Int) := by omega
      have HZ := Lib.hid hz
      have HZ2 := Lib.hid hz2
      have hwa : IntKind.u64.wrap (4294967296 + (x : Int)) = 4294967296 + (x : Int) := IntWalk.u64_in _ (by omega)
      have hwb : IntKind.u64.wrap (4294967296 + (x : Int) - (y : Int)) = 4294967296 + (x : Int) - (y : Int) := IntWalk.u64_in _ (by omega)
      have hwc : IntKind.u64.wrap (4294967296 + (x : Int) - (y : Int) - (c : Int)) = 4294967296 + (x : Int) - (y : Int) - (c : Int) := IntWalk.u64_in _ (by omega)
      have HWY := Lib.hid (show ∀ k, Calls Tryz.prog 100 #[.slice b m cb, .int .i64 (i : Int)] (wr.drewN k) (fun e w' => e = .returned (.int .u64 (y : Int)) ∧ wr.drewN k = w') from fun k => by rw [← hy]; exact word_any b m cb h i _ (by omega) (by omega) (hwd'.drewN k) hh)
      clear hz hz2 hy hx
      go_upto_region 4 with fail
      go_quiet ((go_at_call 100; exact quiet' (HWY.out _)))
      have hbl' := hbl.drewN nq
      replace hO : Mo (wr.drewN nq) g n o := hO
      replace c0 : (wr.drewN nq).cell? ⟨g, i, none⟩ = some (.int .u32 (x : Int)) := c0
      replace c1 : (wr.drewN nq).frozen? ⟨g, i, none⟩ = false := c1
      have hwe : IntKind.u64.wrap (1 - (4294967296 + (x : Int) - (y : Int) - (c : Int)) / 4294967296) = 1 - (4294967296 + (x : Int) - (y : Int) - (c : Int)) / 4294967296 := IntWalk.u64_in _ (by omega)
      clear hbl hwd' HWY hwa hwb hwc HWD
      generalize wr.drewN nq = wr at *
      go_wp2_with fail
      go_roundw
      case rel =>
        rw [HZ.out]
        refine ⟨i + 1, 1 - (4294967296 + x - y - c) / 4294967296, upd o i ((4294967296 + x - y - c) % 4294967296), by omega, by go_num, by rw [HZ2.out], by omega, hO.setw hlt _, fun j hj => ?_, fun j hj => ?_, HS.out, hbl'.set i _⟩
        · rw [upd_other _ _ _ _ (by omega)]; exact HE.out j (by omega)
        · by_cases e : j = i
          · subst e; rw [upd_same]; exact Nat.mod_lt _ (by decide)
          · rw [upd_other _ _ _ _ e]; exact hwo j hj
      case measure => simp [intOf]; omega
    · have i1 : ¬ (i : Int) < (n : Int) := by omega
      have hin : i = n := by omega
      subst hin
      have hv := take_end o f h i m c hc hwo hf HLE.out HV.out
      have HV2 := Lib.hid hv
      clear hv
      go_wp2_with fail
      exact bodyPost_end (results_none rfl _ _ _) rfl ⟨rfl, o, hO, hwo, HV2.out, hbl⟩
end Go.Proofs.YtdbpkoddfcdhdaaGreat

namespace Go.Proofs.YtdbpkoddfcdhdaaGreat
open Go.RowKit
attribute [local go_sem ↓] Go.wp_at_zero Go.wp_at_succ

theorem Aw.zeros (w : World) {base : Nat} (q : Nat) (hb : base ≤ w.heap.size) (hq : q ≤ 4398046511104) : Aw (w.alloc (.cells (madeCells #[.int .u32 0] q) 85)) base (.slice (some ⟨w.heap.size, 0, none⟩) q q) q (fun _ => 0) := by
  have h := World.ownsRow_lit (base := base) (e := 85) (size := 1) w (madeCells #[.int .u32 0] q) q hb (by unfold maxLen; omega) (by simp [madeCells])
  unfold Aw
  have e : (madeCells #[.int .u32 0] q).toList = lst q (wv fun _ => 0) := by
    apply List.ext_getElem?
    intro i
    by_cases hi : i < q
    · rw [lst_get _ _ _ hi]
      simp [madeCells, hi, Nat.mod_one, wv]
    · simp [madeCells, lst, hi]
  rw [← e]
  exact h

/-- The word before. -/
def prev (f : Nat → Nat) (n i : Nat) : Nat := if i = 0 then 0 else pad f n (i - 1)
theorem prev_lt {f : Nat → Nat} {n : Nat} (hf : Wf f n) (i : Nat) : prev f n i < 4294967296 := by
  unfold prev
  split
  · decide
  · exact wf_pad hf (i + 1) (i - 1) (by omega)
theorem prev_succ (f : Nat → Nat) (n i : Nat) : prev f n (i + 1) = pad f n i := by unfold prev; rw [if_neg (by omega)]; rfl
theorem word_prev (a : Option Addr) (n cap : Nat) (f : Nat → Nat) (i : Nat) (w : World) (hn : n ≤ 4611686018427387904) (hi : i ≤ 4611686018427387904) (hw : Wd w a n f) (hf : Wf f n) :
    Calls Tryz.prog 100 #[.slice a n cap, .int .i64 ((i : Int) - 1)] w fun e w' => e = .returned (.int .u64 (prev f n i : Int)) ∧ w = w' := by
  rcases i with _ | i
  · exact word_m1 a n cap w
  · rw [prev_succ, show ((i + 1 : Nat) : Int) - 1 = (i : Int) by omega]
    exact word_any a n cap f i w hn (by omega) hw hf

set_option maxRecDepth 100000 in
set_option maxHeartbeats 4000000 in
theorem left_any (a : Option Addr) (n ca s : Nat) (f : Nat → Nat) (w : World) (hn : n ≤ 1099511627776) (hs : s ≤ 70368744177664) (hwf : Wd w a n f) (hf : Wf f n) :
    Calls Tryz.prog 102 #[.slice a n ca, .int .i64 (s : Int)] w fun e w' => ∃ g L cap f', e = .returned (.slice (some ⟨g, 0, none⟩) L cap) ∧ L ≤ cap ∧ w.heap.size ≤ g ∧ Mo w' g L f' ∧ Wf f' L ∧ L = s / 32 + n + 1 ∧ nv f' L = nv f n * 2 ^ s ∧ Below w.heap.size w w' := by
  obtain ⟨q, hq⟩ : ∃ q, q = s / 32 := ⟨_, rfl⟩
  obtain ⟨k, hk⟩ : ∃ k, k = s % 32 := ⟨_, rfl⟩
  have hk32 : k < 32 := by omega
  have hqb : q ≤ 4398046511104 := by omega
  have hp : 2 ^ s = 2 ^ k * 4294967296 ^ q := by
    rw [show s = k + 32 * q by omega, Nat.pow_add, Nat.pow_mul]
  have HP := Lib.hid hp
  have e1 : (s : Int) / 32 = (q : Int) := by omega
  have e2 : (s : Int) % 32 = (k : Int) := by omega
  have s0 : (0 : Int) ≤ (s : Int) := by omega
  have hmk := mk_w ((s : Int) / 32) q e1 hqb
  have wk : IntKind.u64.wrap ((s : Int) % 32) = (s : Int) % 32 := IntWalk.u64_in _ (by omega)
  rw [← hq]
  have E1 := Lib.hid e1
  have E2 := Lib.hid e2
  clear hp hq hk e1 e2
  go_enter Tryz.func102, Tryz.ntmps102
  go_upto_region 3 with fail
  clear hmk wk
  rw [E1.out, E2.out]
  have hA0 := Aw.zeros w q (Nat.le_refl _) hqb
  have hb0 := below_new w (.cells (madeCells #[.int .u32 0] q) 85)
  generalize w.alloc (.cells (madeCells #[.int .u32 0] q) 85) = W0 at *
  go_wp2_with fail
  go_loopw [5, 7] (fun s5 s7 wq => ∃ (i c : Nat) (u : Value) (o : Nat → Nat), i ≤ n + 1 ∧ s7 = .int .i64 i ∧ s5 = u ∧ c = prev f n i * 2 ^ k / 4294967296 ∧ Aw wq w.heap.size u (q + i) o ∧ Wf o (q + i) ∧ nv o (q + i) + c * 4294967296 ^ (q + i) = nv (pad f n) i * (2 ^ k * 4294967296 ^ q) ∧ Below w.heap.size w wq)
    (fun _ s7 _ => n + 1 - (intOf s7).toNat)
  case atStart => exact ⟨0, 0, _, fun _ => 0, Nat.zero_le _, rfl, rfl, by simp [prev], hA0, fun _ _ => Nat.zero_lt_succ _, by rw [nv_zero (fun _ _ => rfl)]; simp [nv], hb0⟩
  case round =>
    clear hA0 hb0
    obtain ⟨i, c, u, o, hi, rfl, rfl, hc, hA, hwo, hval, hbl⟩ := hrel
    have HV := Lib.hid hval
    clear hval
    have i0 : (0 : Int) ≤ (i : Int) := by omega
    by_cases hlt : i < n + 1
    · have i1 : (i : Int) ≤ (n : Int) := by omega
      have hx := wf_pad hf (i + 1) i (by omega)
      have hk2 : 0 < 2 ^ k := Nat.pow_pos (by decide)
      have hc2 : c < 2 ^ k := by rw [hc]; exact (left_word (prev f n i) 0 k (prev_lt hf i) hk2 hk32).2.2
      obtain ⟨w1, hr2, -⟩ := left_word (pad f n i) c k hx hc2 hk32
      go_upto_region 6 with fail
      go_wp2_with fail
      refine (word_any a n ca f i _ (by omega) (by omega) (hwf.up hbl) hf).mono ?_
      rintro e w2 ⟨rfl, rfl⟩
      go_wp2_with fail
      refine (word_prev a n ca f i _ (by omega) (by omega) (hwf.up hbl) hf).mono ?_
      rintro e w2 ⟨rfl, rfl⟩
      have h31 : 2 ^ k ≤ 2147483648 := Nat.pow_le_pow_right (n := 2) (by decide) (show k ≤ 31 by omega)
      have hb1 : pad f n i * 2 ^ k ≤ 4294967295 * 2147483648 := Nat.mul_le_mul (by omega) h31
      have hpl := prev_lt hf i
      have hb2 : prev f n i * 2 ^ k ≤ 4294967295 * 2147483648 := Nat.mul_le_mul (by omega) h31
      have z1 : IntKind.u64.wrap ((pad f n i : Int) * 2 ^ k) = ((pad f n i * 2 ^ k : Nat) : Int) := by
        rw [show (pad f n i : Int) * 2 ^ k = ((pad f n i * 2 ^ k : Nat) : Int) by simp]
        exact IntWalk.u64_in _ (by omega)
      have z2 : IntKind.u64.wrap ((prev f n i : Int) * 2 ^ k) / 4294967296 = (c : Int) := by
        rw [show (prev f n i : Int) * 2 ^ k = ((prev f n i * 2 ^ k : Nat) : Int) by simp, IntWalk.u64_in _ (by omega), hc]
        omega
      have hz : bits BinOp.or IntKind.u64 (IntKind.u64.wrap ((pad f n i : Int) * 2 ^ k)) (IntKind.u64.wrap ((prev f n i : Int) * 2 ^ k) / 4294967296) % 4294967296 = ((pad f n i * 2 ^ k % 4294967296 + c : Nat) : Int) := by
        rw [z1, z2]; exact w1
      have HZ := Lib.hid hz
      have hstep := left_step o (nv (pad f n) i) c (q + i) i (2 ^ k * 4294967296 ^ q) (pad f n i) k (by rw [Nat.pow_add, Nat.mul_assoc]) HV.out
      have HS := Lib.hid hstep
      have hpn := prev_succ f n i
      have HPN := Lib.hid hpn
      clear hstep z1 z2 hz w1 hb1 hb2 hpn hc
      rw [show q + i + 1 = q + (i + 1) by omega] at HS
      generalize prev f n i = y at *
      generalize hX : pad f n i = x at *
      rw [show nv (pad f n) i + x * 4294967296 ^ i = nv (pad f n) (i + 1) by rw [← hX]; rfl] at HS
      clear hX
      generalize hc' : x * 2 ^ k / 4294967296 = c' at *
      generalize x * 2 ^ k % 4294967296 + c = r at *
      have hsz := hbl.size
      go_wp2_with (at_builtin; go_must (refine wpl_apW rfl (.tmp 20) (.tmp 35) _ rfl Tryz.underlying54 w.heap.size _ (q + i) o rfl (hA.alloc _) (by simp; omega) wr.heap.size 85 _ (0, 0) r rfl (by rw [← HZ.out]; exact heap_alloc_new _ _) (by omega) ?_); intro v' w4 hA4 hb4)
      go_roundw
      case rel =>
        refine ⟨i + 1, c', _, _, by omega, by go_num, rfl, by rw [HPN.out, hc'], hA4, fun j hj => ?_, HS.out, (Bl.alloc hbl _).trans hb4⟩
        by_cases e : j = q + i
        · subst e; rw [upd_same]; exact hr2
        · rw [upd_other _ _ _ _ e]; exact hwo j (by omega)
      case measure => simp [intOf]; omega
    · have i1 : ¬ (i : Int) ≤ (n : Int) := by omega
      have hin : i = n + 1 := by omega
      subst hin
      have hv := HV.out
      rw [nv_pad f n _ (Nat.le_succ _), prev_succ, pad_ge (Nat.le_refl _), Nat.zero_mul, Nat.zero_div] at *
      subst hc
      rw [Nat.zero_mul, Nat.add_zero, ← HP.out] at hv
      obtain ⟨g, cap, rfl, h1, h2, h3⟩ := hA.own (by omega)
      have HVE := Lib.hid hv
      clear hv HV hA
      go_wp2_with fail
      go_ret
      exact ⟨g, _, cap, rfl, h1, h2, o, h3, hwo, rfl, HVE.out, hbl⟩

set_option maxRecDepth 100000 in
set_option maxHeartbeats 4000000 in
theorem bits_any (v : Value) (x : Int) (w : World) (hx : It w v x) (hs : sz x ≤ 1099511627776) :
    Calls Tryz.prog 101 #[v] w fun e w' => ∃ b : Nat, e = .returned (.int .i64 (b : Int)) ∧ x.natAbs < 2 ^ b ∧ (0 < b → 2 ^ (b - 1) ≤ x.natAbs) ∧ b ≤ 32 * sz x ∧ Below w.heap.size w w' := by
  obtain ⟨a, cap, f, rfl, h1, h2, h3, h4, h5⟩ := hx.parts
  have H5 := Lib.hid h5
  clear h5 hx
  by_cases h0 : sz x = 0
  · have hx0 : x = 0 := sz_zero.1 h0
    rw [h0]
    go_enter Tryz.func101, Tryz.ntmps101
    go_wp2_with fail
    go_ret
    exact ⟨0, rfl, by rw [hx0]; decide, fun h => absurd h (by decide), Nat.le_refl _, below_new _ _⟩
  · generalize hn : sz x = n at *
    clear hn
    have hne : ((n : Int) == 0) = false := by rw [beq_eq_false_iff_ne]; omega
    obtain ⟨b, off, rfl, hb, hc⟩ := h2.at (i := n - 1) (by omega)
    have c0 := hc (n - 1) (by omega)
    have ht := h3 (n - 1) (by omega)
    have ht0 : f (n - 1) ≠ 0 := by
      rcases h4 with c | c
      · omega
      · exact c
    have hbt := fun j => bits_top (f := f) (n := n) (j := j) (by omega) h3
    rw [H5.out] at hbt
    have HBT := Lib.hid hbt
    clear hbt hc h4 h2
    generalize f (n - 1) = t at *
    generalize hN : n - 1 = N at *
    have hnN : n = N + 1 := by omega
    clear hN
    have HNN := Lib.hid hnN
    have e1 : (n : Int) - 1 = (N : Int) := by omega
    have e2 : IntKind.i64.wrap ((n : Int) - 1) = (N : Int) := by rw [e1]; exact IntWalk.i64_in _ (by omega)
    have e3 : IntKind.i64.wrap (32 * (N : Int)) = ((32 * N : Nat) : Int) := by rw [IntWalk.i64_in _ (by omega)]; omega
    have e4 : (0 : Int) ≤ (N : Int) := by omega
    have e5 : (N : Int) < (n : Int) := by omega
    clear hnN e1
    go_enter Tryz.func101, Tryz.ntmps101
    have hb0 := below_new w (.cells #[.bool (decide (x < 0)), .slice (some ⟨b, off, none⟩) n cap] 56)
    go_upto_region 5 with fail
    clear e2 e3 e4 e5
    generalize w.alloc (.cells #[.bool (decide (x < 0)), .slice (some ⟨b, off, none⟩) n cap] 56) = W0 at *
    go_loopw [3, 4] (fun s3 s4 wq => ∃ j : Nat, s3 = .int .i64 ((32 * N + j : Nat) : Int) ∧ s4 = .int .u32 ((t / 2 ^ j : Nat) : Int) ∧ (0 < j → 2 ^ (j - 1) ≤ t) ∧ W0 = wq)
      (fun _ s4 _ => (intOf s4).toNat)
    case atStart => exact ⟨0, by go_num, by simp, fun h => absurd h (by decide), rfl⟩
    case round =>
      obtain ⟨j, rfl, rfl, hj, rfl⟩ := hrel
      have HJ := Lib.hid hj
      clear hj
      have hj32 : j ≤ 32 := by
        rcases Nat.lt_or_ge 32 j with c | c
        · have h1 := HJ.out (by omega)
          have h2 : 2 ^ 32 ≤ 2 ^ (j - 1) := Nat.pow_le_pow_right (by omega) (by omega)
          omega
        · exact c
      have hNb := HNN.out
      by_cases hz : t / 2 ^ j = 0
      · have htj : t < 2 ^ j := by
          rcases Nat.lt_or_ge t (2 ^ j) with c | c
          · exact c
          · have := Nat.div_pos c (Nat.pow_pos (by decide)); omega
        have hj0 : 0 < j := by
          rcases Nat.eq_zero_or_pos j with c | c
          · subst c; simp at htj; omega
          · exact c
        have hB := HBT.out (j - 1) (HJ.out hj0) (by rw [show j - 1 + 1 = j by omega]; exact htj)
        rw [show j - 1 + 1 = j by omega, show 32 * N + (j - 1) = 32 * N + j - 1 by omega] at hB
        have HB := Lib.hid hB
        rw [hz]
        clear hB htj hNb
        go_wp2_with fail
        go_ret
        exact ⟨32 * N + j, rfl, HB.out.2, fun _ => HB.out.1, by have := HNN.out; omega, hb0⟩
      · have hpos : (0 : Int) < ((t / 2 ^ j : Nat) : Int) := Int.ofNat_lt.2 (Nat.pos_of_ne_zero hz)
        have htj : 2 ^ j ≤ t := by
          rcases Nat.lt_or_ge t (2 ^ j) with c | c
          · exact absurd (Nat.div_eq_of_lt c) hz
          · exact c
        have hd : ((t / 2 ^ j : Nat) : Int) / 2 = ((t / 2 ^ (j + 1) : Nat) : Int) := by
          rw [Nat.pow_succ, ← Nat.div_div_eq_div_mul]; omega
        have HD := Lib.hid hd
        have hlt : t / 2 ^ (j + 1) < t / 2 ^ j := by
          rw [Nat.pow_succ, ← Nat.div_div_eq_div_mul]; omega
        have HTJ := Lib.hid htj
        have hl32 : t / 2 ^ (j + 1) < 4294967296 := Nat.lt_of_le_of_lt (Nat.div_le_self _ _) ht
        have hm32 : ((t / 2 ^ (j + 1) : Nat) : Int) % 4294967296 = ((t / 2 ^ (j + 1) : Nat) : Int) := by
          generalize t / 2 ^ (j + 1) = v at *; omega
        have HM := Lib.hid hm32
        clear hd htj hm32
        generalize t / 2 ^ j = u at *
        go_wp2_with fail
        go_roundw
        case rel => exact ⟨j + 1, by go_num, by rw [HD.out, HM.out], fun _ => HTJ.out, by first | rfl | trivial⟩
        case measure =>
          rw [HD.out, HM.out]
          generalize t / 2 ^ (j + 1) = v at *
          show ((v : Int)).toNat < ((u : Int)).toNat
          omega
end Go.Proofs.YtdbpkoddfcdhdaaGreat
