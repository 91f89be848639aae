/-
  prime.word and prime.Is, at primes below 2^32.
-/
import Derived.Lib.TrailingZeros
import Derived.Shelf.Bits.Mul64
import Derived.Shelf.Spec.TrailingZeros
import Derived.RangeFuncNested
import Derived.RangeFuncBound
import Derived.RangeFuncCalls
import Derived.RangeFuncLeaves
import Derived.RangeFuncFrom
import Derived.Shelf.Abstract
import Derived.Shelf.RegionOpen
import Derived.WalkKit
import Derived.OwnWalkIn
import Derived.TacticsInMore
import Derived.LoopNIn
import Derived.LoopIn
import Derived.IntWalk
import Derived.Sort.BigQuietIn
import Derived.Test.YtblebpmlkpobnaaGreatDoorFA
import Derived.Test.YtblebpmlkpobnaaGreatDoorFF
import Derived.Test.YtblebpmlkpobnaaGreatDoorFH1
import Derived.Test.YtblebpmlkpobnaaGreatDoorFS
import Derived.Test.YtblebpmlkpobnaaGreatDoorFSB
import Derived.Test.YtblebpmlkpobnaaGreatDoorFI1
set_option linter.unusedSimpArgs false
set_option linter.unusedVariables false
set_option maxRecDepth 100000
set_option maxHeartbeats 4000000
namespace Go.Proofs.YtblebpmlkpobnaaGreatDoor
open Go.RowKit
attribute [local go_sem ↓] Go.wp_at_zero Go.wp_at_succ
theorem pmul64 (x y : Nat) (hx : x < 4294967296) (hy : y < 4294967296) (w : World) :
  Calls Tryz.prog 132 #[.int .u64 x, .int .u64 y] w fun e w' => e = .returned (.tuple #[.int .u64 0, .int .u64 ((x * y : Nat) : Int)]) /\ w' = w := by
 have hxy : x * y < 18446744073709551616 := Nat.lt_of_le_of_lt (Nat.mul_le_mul (Nat.le_of_lt_succ hx) (Nat.le_of_lt_succ hy)) (by decide);have m1 := Mul64.maskN x (by omega);have m2 := Mul64.maskN y (by omega);rw [Nat.mod_eq_of_lt hx] at m1;rw [Nat.mod_eq_of_lt hy] at m2;have d1 : (x : Int) / 4294967296 = 0 := by omega
 have d2 : (y : Int) / 4294967296 = 0 := by omega
 have e1 : (x : Int) * (y : Int) = ((x * y : Nat) : Int) := (Int.natCast_mul x y).symm;obtain ⟨p, hp⟩ : ∃ p, x * y = p := ⟨_, rfl⟩;rw [hp] at hxy e1 |-;have e2 : IntKind.u64.wrap (p : Int) = (p : Int) := by rw [IntKind.wrap_u64]; omega
 have e3 : ((p : Int) / 4294967296) = ((p / 4294967296 : Nat) : Int) := by omega
 have hq : p / 4294967296 < 4294967296 := by omega
 obtain ⟨q, hq'⟩ : ∃ q, p / 4294967296 = q := ⟨_, rfl⟩;rw [hq'] at e3 hq;have e4 : IntKind.u64.wrap (q : Int) = (q : Int) := by rw [IntKind.wrap_u64]; omega
 have m3 := Mul64.maskN q (by omega);rw [Nat.mod_eq_of_lt hq] at m3;have d3 : (q : Int) / 4294967296 = 0 := by omega
 clear hp hq' hx hy hq hxy;go_enter Tryz.func132, Tryz.ntmps132
 go_wp2
 go_ret2
 exact ⟨rfl, rfl⟩
theorem pdiv64 (lo y : Nat) (hl : lo < 18446744073709551616) (hy0 : 0 < y) (hy : y < 4294967296) (w : World) :
  Calls Tryz.prog 133 #[.int .u64 0, .int .u64 lo, .int .u64 y] w fun e w' => e = .returned (.tuple #[.int .u64 ((lo / y : Nat) : Int), .int .u64 ((lo % y : Nat) : Int)]) /\ Below w.heap.size w w' := by
 have i1 : ((y : Int) == 0) = false := by rw [beq_eq_false_iff_ne]; omega
 have i2 : ¬ (y : Int) = 0 := by omega
 have i3 : ¬ (y : Int) <= 0 := by omega
 have hle : lo / y <= lo := Nat.div_le_self _ _;have q0 : (lo : Int) / (y : Int) = ((lo / y : Nat) : Int) := rfl;have q4 : (lo : Int).tmod (y : Int) = ((lo % y : Nat) : Int) := by rw [Int.tmod_eq_emod_of_nonneg (by omega)]; rfl
 obtain ⟨q, hq⟩ : ∃ q, lo / y = q := ⟨_, rfl⟩;obtain ⟨r, hr⟩ : ∃ r, lo % y = r := ⟨_, rfl⟩;rw [hq] at q0 hle |-;rw [hr] at q4 |-;have q3 : IntKind.u64.wrap (q : Int) = (q : Int) := by rw [IntKind.wrap_u64]; omega
 clear hq hr;clear hle;go_enter Tryz.func133, Tryz.ntmps133
 go_upto_region 6 with fail;refine wp_region_T (by kernel_rfl) [] (S := fun w' => True) trivial (fun hHeld => ?_);(refine kL 0 rfl ?_; refine kL 1 rfl ?_; refine kL 2 rfl ?_; refine kL 3 rfl ?_; refine kL 4 rfl ?_; refine kL 5 rfl ?_; refine kL 6 rfl ?_; refine kL 7 rfl ?_)
 refine dT ?_;clear hHeld;go_wp2
 go_ret2
 exact ⟨rfl, (Below.refl _ _).drew⟩
theorem pmul (a b m : Nat) (ha : a < m) (hb : b < m) (hm : m < 4294967296) (w : World) :
  Calls Tryz.prog 97 #[.int .u64 a, .int .u64 b, .int .u64 m] w fun e w' => e = .returned (.int .u64 ((a * b % m : Nat) : Int)) /\ Below w.heap.size w w' := by
 have h1 := pmul64 a b (by omega) (by omega) w;have h2 := pdiv64 (a * b) m (Nat.lt_of_le_of_lt (Nat.mul_le_mul (Nat.le_of_lt_succ (Nat.lt_trans ha hm)) (Nat.le_of_lt_succ (Nat.lt_trans hb hm))) (by decide)) (by omega) hm w;go_enter Tryz.func97, Tryz.ntmps97
 go_wp2_with fail;refine h1.mono ?_;rintro e w' ⟨rfl, rfl⟩;go_wp2_with fail;refine h2.mono ?_;rintro e w2 ⟨rfl, hb2⟩;go_wp2_with fail;go_ret
 exact ⟨rfl, hb2⟩
theorem ptz_core (x k idx : Nat) (w : World) (hx0 : ((x : Int) == 0) = false)
  (key : IntKind.u64.wrap (bits BinOp.and IntKind.u64 (x : Int) (IntKind.u64.wrap (-(x : Int))) * 285870213051353865) / 288230376151711744 = (idx : Int))
  (hi : idx < 64) (hk : k < 64) (hcell : w.cell? ⟨0, idx, none⟩ = some (.int .u8 k)) :
  Calls Tryz.prog 96 #[.int .u64 x] w fun e w' => e = .returned (.int .i64 k) /\ w' = w := by
 go_enter Tryz.func96, Tryz.ntmps96
 go_wp2_with (simp only [key])
 go_ret
 exact ⟨rfl, rfl⟩
theorem ptz (x : Nat) (hx : x < 18446744073709551616) (h0 : x ≠ 0) (w : World) (hT : TabAt 0 Lib.deBruijn64tab w) :
  Calls Tryz.prog 96 #[.int .u64 x] w fun e w' => e = .returned (.int .i64 (Lib.ctz 64 x)) /\ w' = w := by
 obtain ⟨hlow, hk⟩ := Lib.lowest_bit 64 x h0 hx;obtain ⟨hi, htab⟩ := Lib.deBruijn64_at _ hk;have hcell := hT _ hi;rw [htab] at hcell;exact ptz_core x _ _ w (by simp; omega) (tz64_key x _ hx h0 hlow) hi hk hcell
theorem tab_up {w w' : World} {l : List Nat} (h : TabAt 0 l w) (hb : Below w.heap.size w w') : TabAt 0 l w' := fun j hj => keepc hb (h j hj)
theorem and_one (d : Nat) (h : d < 18446744073709551616) : bits BinOp.and IntKind.u64 (d : Int) 1 = ((d % 2 : Nat) : Int) := by
 have h1 := bits_and_u64_nat d 1 h (by omega);rw [Nat.and_one_is_mod] at h1;exact h1
theorem sqs_lt {p k x : Nat} (hx : x < p) : sqs p k x < p := by
 rw [sqs_pow k x hx];exact Nat.mod_lt _ (by omega)
theorem pstrong (n b : Nat) (w : World) (hn : n < 4294967296) (hp : Pri n) (hb : ¬ n ∣ b) (hb2 : b < 4294967296) (hT : TabAt 0 Lib.deBruijn64tab w) :
  Calls Tryz.prog 76 #[.int .u64 n, .int .u64 b] w fun e w' => e = .returned (.bool true) /\ Below w.heap.size w w' := by
 have h2 := hp.1;have hbm : (b : Int).tmod (n : Int) = ((b % n : Nat) : Int) := by rw [Int.tmod_eq_emod_of_nonneg (by omega)]; rfl
 have hbl : b % n < n := Nat.mod_lt _ (by omega);have hb' : ¬ n ∣ b % n := fun h => hb ((Nat.dvd_mod_iff (Nat.dvd_refl n)).1 h);obtain ⟨c, hc⟩ : ∃ c, b % n = c := ⟨_, rfl⟩;rw [hc] at hbm hbl hb';have hc0 : ¬ c = 0 := fun h => hb' (h ▸ Nat.dvd_zero n);have hcz : ((c : Int) == 0) = false := by rw [beq_eq_false_iff_ne]; omega
 have hn1 : IntKind.u64.wrap ((n : Int) - 1) = ((n - 1 : Nat) : Int) := by rw [IntKind.wrap_u64]; omega
 have hn0 : ¬ (n : Int) = 0 := by omega
 have htz := ptz (n - 1) (by omega) (by omega) w hT
 have hsp : ∃ s m, Lib.ctz 64 (n - 1) = s /\ n - 1 = m * 2 ^ s /\ s < 64 := by
  obtain ⟨m, h1, h3⟩ := Lib.ctzFrom_spec 64 (n - 1) (by omega) (by omega);refine ⟨Lib.ctzFrom 64 (n - 1), 2 * m + 1, ?_, ?_, h3⟩
  ·unfold Lib.ctz; rw [if_neg (by omega)]
  ·rw [Nat.mul_comm]; exact h1
 obtain ⟨s, m, hs, hm, hs64⟩ := hsp;rw [hs] at htz;have hdiv : (n - 1) / 2 ^ s = m := by rw [hm]; exact Nat.mul_div_cancel _ (Nat.pow_pos (by omega))
 have hmlt : m < 4294967296 := by rw [<- hdiv]; exact Nat.lt_of_le_of_lt (Nat.div_le_self _ _) (by omega)
 have hst := fun (x : Nat) (h1 : x = c ^ m % n) (h3 : x ≠ 1) => strong_of hp hm hb' h1 h3;obtain ⟨n1, hn1e⟩ : ∃ n1, n - 1 = n1 := ⟨_, rfl⟩;rw [hn1e] at hn1 htz hm hdiv hst;have hsh : ((n1 : Int) / 2 ^ s) = (m : Int) := by rw [<- hdiv, Int.natCast_ediv, Int.natCast_pow]; rfl
 have HST := Lib.hid hst;have HN1 := Lib.hid hn1e;clear hst hb' hs hb hm hdiv hn1e hc;go_enter Tryz.func76, Tryz.ntmps76
 go_wp2_with fail;refine htz.mono ?_;rintro e w' ⟨rfl, rfl⟩;clear htz;go_wp2_with fail
 go_loopw [1, 6, 7] (fun s1 s6 s7 wr => ∃ B X D : Nat, s1 = .int .u64 (B : Int) /\ s6 = .int .u64 (X : Int) /\ s7 = .int .u64 (D : Int) /\ B < n /\ X < n /\ D < 4294967296 /\ X * B ^ D % n = c ^ m % n /\ Below w'.heap.size w' wr)
  (fun _ _ s7 _ => (intOf s7).toNat)
 case atStart =>
  exact ⟨c, 1, m, rfl, rfl, rfl, hbl, by omega, hmlt, by rw [Nat.one_mul], Below.refl _ _⟩
 case round =>
  obtain ⟨B, X, D, rfl, rfl, rfl, hB, hX, hD, hinv, hbw⟩ := hrel;have HI := Lib.hid hinv;clear hinv;by_cases hD0 : D = 0
  ·subst hD0;rw [show ((0 : Nat) : Int) = 0 from rfl]
   have hX' : X = c ^ m % n := by
    have := HI.out;rw [Nat.pow_zero, Nat.mul_one, Nat.mod_eq_of_lt hX] at this;exact this
   have HX := Lib.hid hX';have HBW := Lib.hid hbw;clear hX' HI hbw hB hD;by_cases hX1 : X = 1
   ·subst hX1;go_wp2_with fail;go_ret
    exact ⟨rfl, HBW.out⟩
   ·have hex := HST.out X HX.out hX1;have hx1 : ((X : Int) == 1) = false := by rw [beq_eq_false_iff_ne]; omega
    have HEX := Lib.hid hex;clear hex hX1 HX;obtain ⟨wl, hwl⟩ : ∃ wl, wl = wr := ⟨wr, rfl⟩;rw [<- hwl] at HBW |-;clear hwl;go_wp2_with fail
    go_loopw [4, 6, 38] (fun _ s6 s38 wq => ∃ i : Nat, s38 = .int .i64 (i : Int) /\ i <= s /\ s6 = .int .u64 (sqs n i X : Int) /\ (∀ j, j < i -> sqs n j X ≠ n1) /\ Below wl.heap.size wl wq)
     (fun _ _ s38 _ => s - (intOf s38).toNat)
    case atStart => exact ⟨0, rfl, Nat.zero_le _, rfl, fun j hj => absurd hj (Nat.not_lt_zero _), Below.refl _ _⟩
    case round =>
     obtain ⟨i, rfl, his, rfl, hno, hbq⟩ := hrel;have hY := sqs_lt (k := i) hX;have hlast := sqs_last n i X;have HNO := Lib.hid hno;obtain ⟨Y, hYe⟩ : ∃ Y, sqs n i X = Y := ⟨_, rfl⟩;rw [hYe] at hY hlast |-;have HY := Lib.hid hYe;have HL := Lib.hid hlast;clear hno hYe hlast;by_cases hlt : i < s
     ·by_cases hYn : Y = n1
      ·subst hYn;go_wp2_with fail;go_ret
       exact ⟨rfl, Bl.up HBW.out hbq⟩
      ·have hne : ((Y : Int) == (n1 : Int)) = false := by rw [beq_eq_false_iff_ne]; omega
       have HNE := Lib.hid hYn;clear hYn;go_wp2_with fail;refine (pmul Y Y n hY hY hn _).mono ?_;rintro e w3 ⟨rfl, hb3⟩;go_wp2_with fail;go_roundw
       case rel =>
        refine ⟨i + 1, by go_num, by omega, by rw [HL.out]; rfl, fun j hj => ?_, Bl.up hbq hb3⟩;by_cases e : j = i
        ·subst e; rw [HY.out]; exact HNE.out
        ·exact HNO.out j (by omega)
       case measure => simp [intOf]; omega
     ·exfalso
      obtain ⟨j, hj, hj2⟩ := HEX.out;exact HNO.out j (by omega) hj2
  ·have hev := and_one D (by omega);have hD2 : (D : Int) / 2 = ((D / 2 : Nat) : Int) := rfl;have hDp : (D : Int) > 0 := by omega
   have hbb : B * B % n < n := Nat.mod_lt _ (by omega);have hdl : D / 2 < D := Nat.div_lt_self (by omega) (by omega);have hodd := fun (h : D % 2 = 1) => pw_odd (n := n) (x := X) (b := B) h;have hev2 := fun (h : D % 2 = 0) => pw_even (n := n) (x := X) (b := B) h;have HO := Lib.hid hodd;have HE := Lib.hid hev2;obtain ⟨D2, hD2e⟩ : ∃ k, D / 2 = k := ⟨_, rfl⟩;rw [hD2e] at hD2 hdl HO HE;obtain ⟨r, hr⟩ : ∃ r, D % 2 = r := ⟨_, rfl⟩;rw [hr] at hev HO HE;have hr2 : r < 2 := by omega
   have HBB := Lib.hid hbb;clear hodd hev2 hD2e hr hbb;have hD0' : ¬ (D : Int) = 0 := by omega
   by_cases hr1 : r = 1
   ·subst hr1;go_wp2_with fail;refine (pmul X B n hX hB hn _).mono ?_;rintro e w3 ⟨rfl, hb3⟩;go_wp2_with fail;refine (pmul B B n hB hB hn _).mono ?_;rintro e w4 ⟨rfl, hb4⟩;go_wp2_with fail;refine ⟨⟨B * B % n, X * B % n, D2, rfl, rfl, rfl, HBB.out, Nat.mod_lt _ (by omega), by omega, by rw [HO.out trivial]; exact HI.out, Bl.up hbw (Bl.up hb3 hb4)⟩, by simp [intOf]; omega⟩
   ·obtain rfl : r = 0 := by omega
    go_wp2_with fail;refine (pmul B B n hB hB hn _).mono ?_;rintro e w4 ⟨rfl, hb4⟩;go_wp2_with fail;refine ⟨⟨B * B % n, X, D2, rfl, rfl, rfl, HBB.out, hX, by omega, by rw [HE.out trivial]; exact HI.out, Bl.up hbw hb4⟩, by simp [intOf]; omega⟩
theorem idx64_none (B c : Nat) (l : List Nat) (g : Nat) (lb : Array Value) (w : World) (eg : ∀ args w, (callFunc g args).run Tryz.prog w = .ok (.enter g args) w)
  (hN : l.length <= 1099511627776) (hc : ∀ i, i < l.length -> w.cell? ⟨B, i, none⟩ = some (.int .u64 (l.getD i 0 : Int)))
  (hf : ∀ i, i < l.length -> ∀ W : World, Below w.heap.size w W -> Calls Tryz.prog g (#[.int .u64 (l.getD i 0 : Int)] ++ lb) W fun e w' => e = .returned (.bool false) /\ Below W.heap.size W w') :
  Calls Tryz.prog 95 #[.slice (some ⟨B, 0, none⟩) l.length c, .func (.func g) #[] lb] w fun e w' => e = .returned (.int .i64 (-1)) /\ Below w.heap.size w w' := by
 obtain ⟨n, hn⟩ : ∃ n, l.length = n := ⟨_, rfl⟩;rw [hn] at hN hc hf |-;clear hn;go_enter Tryz.func95, Tryz.ntmps95
 go_wp2_with fail
 go_loopw [5, 8] (fun s5 s wr => ∃ (i : Nat), i <= n /\ s = .int .i64 i /\ Below w.heap.size w wr)
  (fun _ s _ => n - (intOf s).toNat)
 case atStart => exact ⟨0, Nat.zero_le _, rfl, Below.refl _ _⟩
 case round =>
  obtain ⟨i, hi, rfl, hbl⟩ := hrel;by_cases hlt : i < n
  ·have p0 := keepc hbl (hc i hlt);have hcall := hf i hlt _ hbl;obtain ⟨x, hx⟩ : ∃ x, l.getD i 0 = x := ⟨_, rfl⟩;rw [hx] at p0 hcall;clear hx hf hc;go_wp2_with (go_at_fn g; refine hcall.mono ?_; rintro e w2 ⟨rfl, hb2⟩)
   go_roundw
   case rel => exact ⟨i + 1, by omega, by go_num, Bl.up hbl hb2⟩
   case measure => simp [intOf]; omega
  ·have hin : i = n := by omega
   subst hin;clear hf hc;go_wp2_with fail;go_ret
   exact ⟨rfl, hbl⟩
theorem has64_none (B c : Nat) (l : List Nat) (g : Nat) (lb : Array Value) (w : World) (eg : ∀ args w, (callFunc g args).run Tryz.prog w = .ok (.enter g args) w)
  (hN : l.length <= 1099511627776) (hc : ∀ i, i < l.length -> w.cell? ⟨B, i, none⟩ = some (.int .u64 (l.getD i 0 : Int)))
  (hf : ∀ i, i < l.length -> ∀ W : World, Below w.heap.size w W -> Calls Tryz.prog g (#[.int .u64 (l.getD i 0 : Int)] ++ lb) W fun e w' => e = .returned (.bool false) /\ Below W.heap.size W w') :
  Calls Tryz.prog 74 #[.slice (some ⟨B, 0, none⟩) l.length c, .func (.func g) #[] lb] w fun e w' => e = .returned (.bool false) /\ Below w.heap.size w w' := by
 have h := idx64_none B c l g lb w eg hN hc hf;clear hf hc eg;go_enter Tryz.func74, Tryz.ntmps74
 go_wp2_with fail;refine h.mono ?_;rintro e w1 ⟨rfl, hb⟩;go_wp2_with fail;go_ret
 exact ⟨rfl, hb⟩
theorem pis1 (n b D : Nat) (w : World) (hn : n < 4294967296) (hp : Pri n) (hb : ¬ n ∣ b) (hb2 : b < 4294967296) (hT : TabAt 0 Lib.deBruijn64tab w) (hD : w.cell? ⟨D, 0, none⟩ = some (.int .u64 (n : Int))) :
  Calls Tryz.prog 75 #[.int .u64 b, .pointer (some ⟨D, 0, none⟩)] w fun e w' => e = .returned (.bool false) /\ Below w.heap.size w w' := by
 have h := pstrong n b w hn hp hb hb2 hT;clear hb hT;go_enter Tryz.func75, Tryz.ntmps75
 go_wp2_with fail;refine h.mono ?_;rintro e w1 ⟨rfl, hb⟩;go_wp2_with fail;go_ret
 exact ⟨rfl, hb⟩
theorem eq_of_dvd {n p : Nat} (hn : Pri n) (hp : 2 <= p) (h : p ∣ n) : n = p := by
 have h1 := Nat.le_of_dvd (by have := hn.1; omega) h;by_cases e : p < n
 ·exact absurd h (hn.2 p hp e)
 ·omega
def bss : List Nat := [2, 3, 5, 7, 11, 13, 17, 19, 23, 29, 31, 37, 41]
theorem bss_pri (i : Nat) (hi : i < bss.length) : Pri (bss.getD i 0) := by
 have hi' : i < 13 := hi;have h : i = 0 \/ i = 1 \/ i = 2 \/ i = 3 \/ i = 4 \/ i = 5 \/ i = 6 \/ i = 7 \/ i = 8 \/ i = 9 \/ i = 10 \/ i = 11 \/ i = 12 := by omega
 rcases h with rfl | rfl | rfl | rfl | rfl | rfl | rfl | rfl | rfl | rfl | rfl | rfl | rfl <;> exact pri_of_noDiv (k := 10) (by decide) (by decide)
theorem bss_lt (i : Nat) (hi : i < bss.length) : bss.getD i 0 < 4294967296 := by
 have hi' : i < 13 := hi;have h : i = 0 \/ i = 1 \/ i = 2 \/ i = 3 \/ i = 4 \/ i = 5 \/ i = 6 \/ i = 7 \/ i = 8 \/ i = 9 \/ i = 10 \/ i = 11 \/ i = 12 := by omega
 rcases h with rfl | rfl | rfl | rfl | rfl | rfl | rfl | rfl | rfl | rfl | rfl | rfl | rfl <;> decide
theorem pisPrime (n : Nat) (w : World) (hn : n < 4294967296) (hp : Pri n) (hT : TabAt 0 Lib.deBruijn64tab w) :
  Calls Tryz.prog 46 #[.int .u64 n] w fun e w' => e = .returned (.bool true) /\ Below w.heap.size w w' := by
 have h2 := hp.1;have HP := Lib.hid hp;have HT := Lib.hid hT;clear hp hT;go_enter Tryz.func46, Tryz.ntmps46
 go_upto_region 1 with fail;go_upto_region 2 with fail;have hb0 := below_new w (.cells #[.int .u64 (n : Int)] 81);have hD0 := heap_alloc_new w (.cells #[.int .u64 (n : Int)] 81);have hb1 := below_new (w.alloc (.cells #[.int .u64 (n : Int)] 81)) (.cells #[.int .u64 2, .int .u64 3, .int .u64 5, .int .u64 7, .int .u64 11, .int .u64 13, .int .u64 17, .int .u64 19, .int .u64 23, .int .u64 29, .int .u64 31, .int .u64 37, .int .u64 41] 109);have hD1 := heap_alloc_new (w.alloc (.cells #[.int .u64 (n : Int)] 81)) (.cells #[.int .u64 2, .int .u64 3, .int .u64 5, .int .u64 7, .int .u64 11, .int .u64 13, .int .u64 17, .int .u64 19, .int .u64 23, .int .u64 29, .int .u64 31, .int .u64 37, .int .u64 41] 109);replace hD0 := (hb1.block _ (Array.getElem?_eq_some_iff.1 hD0).1).trans hD0;rw [World.size_alloc] at hD1;have hbl := Bl.up hb0 hb1;clear hb0 hb1;generalize (w.alloc (.cells #[.int .u64 (n : Int)] 81)).alloc (.cells #[.int .u64 2, .int .u64 3, .int .u64 5, .int .u64 7, .int .u64 11, .int .u64 13, .int .u64 17, .int .u64 19, .int .u64 23, .int .u64 29, .int .u64 31, .int .u64 37, .int .u64 41] 109) = w1 at *;have p0 : w1.cell? ⟨w.heap.size, 0, none⟩ = some (.int .u64 (n : Int)) := by simp [World.cell?, hD0]
 have b0 : w1.cell? ⟨w.heap.size + 1, 0, none⟩ = some (.int .u64 2) := by simp [World.cell?, hD1]
 have b1 : w1.cell? ⟨w.heap.size + 1, 1, none⟩ = some (.int .u64 3) := by simp [World.cell?, hD1]
 have b2 : w1.cell? ⟨w.heap.size + 1, 2, none⟩ = some (.int .u64 5) := by simp [World.cell?, hD1]
 have b3 : w1.cell? ⟨w.heap.size + 1, 3, none⟩ = some (.int .u64 7) := by simp [World.cell?, hD1]
 have b4 : w1.cell? ⟨w.heap.size + 1, 4, none⟩ = some (.int .u64 11) := by simp [World.cell?, hD1]
 have b5 : w1.cell? ⟨w.heap.size + 1, 5, none⟩ = some (.int .u64 13) := by simp [World.cell?, hD1]
 have b6 : w1.cell? ⟨w.heap.size + 1, 6, none⟩ = some (.int .u64 17) := by simp [World.cell?, hD1]
 have b7 : w1.cell? ⟨w.heap.size + 1, 7, none⟩ = some (.int .u64 19) := by simp [World.cell?, hD1]
 have b8 : w1.cell? ⟨w.heap.size + 1, 8, none⟩ = some (.int .u64 23) := by simp [World.cell?, hD1]
 have b9 : w1.cell? ⟨w.heap.size + 1, 9, none⟩ = some (.int .u64 29) := by simp [World.cell?, hD1]
 have b10 : w1.cell? ⟨w.heap.size + 1, 10, none⟩ = some (.int .u64 31) := by simp [World.cell?, hD1]
 have b11 : w1.cell? ⟨w.heap.size + 1, 11, none⟩ = some (.int .u64 37) := by simp [World.cell?, hD1]
 have b12 : w1.cell? ⟨w.heap.size + 1, 12, none⟩ = some (.int .u64 41) := by simp [World.cell?, hD1]
 have HB := Lib.hid (show ∀ i, i < bss.length -> w1.cell? ⟨w.heap.size + 1, i, none⟩ = some (.int .u64 (bss.getD i 0 : Int)) from fun i hi => by
  have hi' : i < 13 := hi;have : i = 0 \/ i = 1 \/ i = 2 \/ i = 3 \/ i = 4 \/ i = 5 \/ i = 6 \/ i = 7 \/ i = 8 \/ i = 9 \/ i = 10 \/ i = 11 \/ i = 12 := by omega
  rcases this with rfl | rfl | rfl | rfl | rfl | rfl | rfl | rfl | rfl | rfl | rfl | rfl | rfl <;> assumption)
 have HL := Lib.hid hbl;replace HT := Lib.hid (tab_up HT.out hbl);clear hD0 hD1 hbl;go_wp2_with fail;clear b0 b1 b2 b3 b4 b5 b6 b7 b8 b9 b10 b11 b12
 go_loopw [2, 5, 8] (fun _ _ s8 wr => ∃ k : Nat, s8 = .int .i64 (k : Int) /\ k <= 13 /\ (∀ j, j < k -> ¬ bss.getD j 0 ∣ n) /\ wr = w1)
  (fun _ _ s8 _ => 13 - (intOf s8).toNat)
 case atStart => exact ⟨0, rfl, Nat.zero_le _, fun j hj => absurd hj (Nat.not_lt_zero _), rfl⟩
 case round =>
  obtain ⟨k, rfl, hk, hno, rfl⟩ := hrel;have HNO := Lib.hid hno;clear hno;by_cases hlt : k < 13
  ·have hk13 : k = 0 \/ k = 1 \/ k = 2 \/ k = 3 \/ k = 4 \/ k = 5 \/ k = 6 \/ k = 7 \/ k = 8 \/ k = 9 \/ k = 10 \/ k = 11 \/ k = 12 := by omega
   clear hk hlt
   have fin : ∀ k : Nat, ¬ bss.getD k 0 ∣ n -> ∀ j, j < k + 1 -> (∀ j, j < k -> ¬ bss.getD j 0 ∣ n) -> ¬ bss.getD j 0 ∣ n := fun k h j hj h' => by
    by_cases e : j = k
    ·subst e; exact h
    ·exact h' j (by omega)
   have FIN := Lib.hid fin;clear fin;rcases hk13 with rfl | rfl | rfl | rfl | rfl | rfl | rfl | rfl | rfl | rfl | rfl | rfl | rfl
   ·rw [show ((0 : Nat) : Int) = 0 from rfl];have hix : ∀ w, (Instr.index 109 (.agg #[.int .u64 2, .int .u64 3, .int .u64 5, .int .u64 7, .int .u64 11, .int .u64 13, .int .u64 17, .int .u64 19, .int .u64 23, .int .u64 29, .int .u64 31, .int .u64 37, .int .u64 41]) (.int .i64 0)).run Tryz.prog w = .ok (.int .u64 2) w := fun _ => by kernel_rfl
    by_cases hd : 2 ∣ n
    ·obtain rfl : n = 2 := eq_of_dvd HP.out (by decide) hd;clear hd;go_wp2_with fail;go_ret
     exact ⟨rfl, HL.out⟩
    ·have m1 : ((n : Int) % 2 == 0) = false := by rw [beq_eq_false_iff_ne]; omega
     have m2 : ¬ (n : Int) % 2 = 0 := by omega
     have HD := Lib.hid hd;clear hd;go_wp2_with fail;go_roundw
     case rel => exact ⟨1, rfl, by decide, fun j hj => FIN.out 0 HD.out j hj HNO.out, trivial⟩
     case measure => simp [intOf]
   ·rw [show ((1 : Nat) : Int) = 1 from rfl];have hix : ∀ w, (Instr.index 109 (.agg #[.int .u64 2, .int .u64 3, .int .u64 5, .int .u64 7, .int .u64 11, .int .u64 13, .int .u64 17, .int .u64 19, .int .u64 23, .int .u64 29, .int .u64 31, .int .u64 37, .int .u64 41]) (.int .i64 1)).run Tryz.prog w = .ok (.int .u64 3) w := fun _ => by kernel_rfl
    by_cases hd : 3 ∣ n
    ·obtain rfl : n = 3 := eq_of_dvd HP.out (by decide) hd;clear hd;go_wp2_with fail;go_ret
     exact ⟨rfl, HL.out⟩
    ·have m1 : ((n : Int) % 3 == 0) = false := by rw [beq_eq_false_iff_ne]; omega
     have m2 : ¬ (n : Int) % 3 = 0 := by omega
     have HD := Lib.hid hd;clear hd;go_wp2_with fail;go_roundw
     case rel => exact ⟨2, rfl, by decide, fun j hj => FIN.out 1 HD.out j hj HNO.out, trivial⟩
     case measure => simp [intOf]
   ·rw [show ((2 : Nat) : Int) = 2 from rfl];have hix : ∀ w, (Instr.index 109 (.agg #[.int .u64 2, .int .u64 3, .int .u64 5, .int .u64 7, .int .u64 11, .int .u64 13, .int .u64 17, .int .u64 19, .int .u64 23, .int .u64 29, .int .u64 31, .int .u64 37, .int .u64 41]) (.int .i64 2)).run Tryz.prog w = .ok (.int .u64 5) w := fun _ => by kernel_rfl
    by_cases hd : 5 ∣ n
    ·obtain rfl : n = 5 := eq_of_dvd HP.out (by decide) hd;clear hd;go_wp2_with fail;go_ret
     exact ⟨rfl, HL.out⟩
    ·have m1 : ((n : Int) % 5 == 0) = false := by rw [beq_eq_false_iff_ne]; omega
     have m2 : ¬ (n : Int) % 5 = 0 := by omega
     have HD := Lib.hid hd;clear hd;go_wp2_with fail;go_roundw
     case rel => exact ⟨3, rfl, by decide, fun j hj => FIN.out 2 HD.out j hj HNO.out, trivial⟩
     case measure => simp [intOf]
   ·rw [show ((3 : Nat) : Int) = 3 from rfl];have hix : ∀ w, (Instr.index 109 (.agg #[.int .u64 2, .int .u64 3, .int .u64 5, .int .u64 7, .int .u64 11, .int .u64 13, .int .u64 17, .int .u64 19, .int .u64 23, .int .u64 29, .int .u64 31, .int .u64 37, .int .u64 41]) (.int .i64 3)).run Tryz.prog w = .ok (.int .u64 7) w := fun _ => by kernel_rfl
    by_cases hd : 7 ∣ n
    ·obtain rfl : n = 7 := eq_of_dvd HP.out (by decide) hd;clear hd;go_wp2_with fail;go_ret
     exact ⟨rfl, HL.out⟩
    ·have m1 : ((n : Int) % 7 == 0) = false := by rw [beq_eq_false_iff_ne]; omega
     have m2 : ¬ (n : Int) % 7 = 0 := by omega
     have HD := Lib.hid hd;clear hd;go_wp2_with fail;go_roundw
     case rel => exact ⟨4, rfl, by decide, fun j hj => FIN.out 3 HD.out j hj HNO.out, trivial⟩
     case measure => simp [intOf]
   ·rw [show ((4 : Nat) : Int) = 4 from rfl];have hix : ∀ w, (Instr.index 109 (.agg #[.int .u64 2, .int .u64 3, .int .u64 5, .int .u64 7, .int .u64 11, .int .u64 13, .int .u64 17, .int .u64 19, .int .u64 23, .int .u64 29, .int .u64 31, .int .u64 37, .int .u64 41]) (.int .i64 4)).run Tryz.prog w = .ok (.int .u64 11) w := fun _ => by kernel_rfl
    by_cases hd : 11 ∣ n
    ·obtain rfl : n = 11 := eq_of_dvd HP.out (by decide) hd;clear hd;go_wp2_with fail;go_ret
     exact ⟨rfl, HL.out⟩
    ·have m1 : ((n : Int) % 11 == 0) = false := by rw [beq_eq_false_iff_ne]; omega
     have m2 : ¬ (n : Int) % 11 = 0 := by omega
     have HD := Lib.hid hd;clear hd;go_wp2_with fail;go_roundw
     case rel => exact ⟨5, rfl, by decide, fun j hj => FIN.out 4 HD.out j hj HNO.out, trivial⟩
     case measure => simp [intOf]
   ·rw [show ((5 : Nat) : Int) = 5 from rfl];have hix : ∀ w, (Instr.index 109 (.agg #[.int .u64 2, .int .u64 3, .int .u64 5, .int .u64 7, .int .u64 11, .int .u64 13, .int .u64 17, .int .u64 19, .int .u64 23, .int .u64 29, .int .u64 31, .int .u64 37, .int .u64 41]) (.int .i64 5)).run Tryz.prog w = .ok (.int .u64 13) w := fun _ => by kernel_rfl
    by_cases hd : 13 ∣ n
    ·obtain rfl : n = 13 := eq_of_dvd HP.out (by decide) hd;clear hd;go_wp2_with fail;go_ret
     exact ⟨rfl, HL.out⟩
    ·have m1 : ((n : Int) % 13 == 0) = false := by rw [beq_eq_false_iff_ne]; omega
     have m2 : ¬ (n : Int) % 13 = 0 := by omega
     have HD := Lib.hid hd;clear hd;go_wp2_with fail;go_roundw
     case rel => exact ⟨6, rfl, by decide, fun j hj => FIN.out 5 HD.out j hj HNO.out, trivial⟩
     case measure => simp [intOf]
   ·rw [show ((6 : Nat) : Int) = 6 from rfl];have hix : ∀ w, (Instr.index 109 (.agg #[.int .u64 2, .int .u64 3, .int .u64 5, .int .u64 7, .int .u64 11, .int .u64 13, .int .u64 17, .int .u64 19, .int .u64 23, .int .u64 29, .int .u64 31, .int .u64 37, .int .u64 41]) (.int .i64 6)).run Tryz.prog w = .ok (.int .u64 17) w := fun _ => by kernel_rfl
    by_cases hd : 17 ∣ n
    ·obtain rfl : n = 17 := eq_of_dvd HP.out (by decide) hd;clear hd;go_wp2_with fail;go_ret
     exact ⟨rfl, HL.out⟩
    ·have m1 : ((n : Int) % 17 == 0) = false := by rw [beq_eq_false_iff_ne]; omega
     have m2 : ¬ (n : Int) % 17 = 0 := by omega
     have HD := Lib.hid hd;clear hd;go_wp2_with fail;go_roundw
     case rel => exact ⟨7, rfl, by decide, fun j hj => FIN.out 6 HD.out j hj HNO.out, trivial⟩
     case measure => simp [intOf]
   ·rw [show ((7 : Nat) : Int) = 7 from rfl];have hix : ∀ w, (Instr.index 109 (.agg #[.int .u64 2, .int .u64 3, .int .u64 5, .int .u64 7, .int .u64 11, .int .u64 13, .int .u64 17, .int .u64 19, .int .u64 23, .int .u64 29, .int .u64 31, .int .u64 37, .int .u64 41]) (.int .i64 7)).run Tryz.prog w = .ok (.int .u64 19) w := fun _ => by kernel_rfl
    by_cases hd : 19 ∣ n
    ·obtain rfl : n = 19 := eq_of_dvd HP.out (by decide) hd;clear hd;go_wp2_with fail;go_ret
     exact ⟨rfl, HL.out⟩
    ·have m1 : ((n : Int) % 19 == 0) = false := by rw [beq_eq_false_iff_ne]; omega
     have m2 : ¬ (n : Int) % 19 = 0 := by omega
     have HD := Lib.hid hd;clear hd;go_wp2_with fail;go_roundw
     case rel => exact ⟨8, rfl, by decide, fun j hj => FIN.out 7 HD.out j hj HNO.out, trivial⟩
     case measure => simp [intOf]
   ·rw [show ((8 : Nat) : Int) = 8 from rfl];have hix : ∀ w, (Instr.index 109 (.agg #[.int .u64 2, .int .u64 3, .int .u64 5, .int .u64 7, .int .u64 11, .int .u64 13, .int .u64 17, .int .u64 19, .int .u64 23, .int .u64 29, .int .u64 31, .int .u64 37, .int .u64 41]) (.int .i64 8)).run Tryz.prog w = .ok (.int .u64 23) w := fun _ => by kernel_rfl
    by_cases hd : 23 ∣ n
    ·obtain rfl : n = 23 := eq_of_dvd HP.out (by decide) hd;clear hd;go_wp2_with fail;go_ret
     exact ⟨rfl, HL.out⟩
    ·have m1 : ((n : Int) % 23 == 0) = false := by rw [beq_eq_false_iff_ne]; omega
     have m2 : ¬ (n : Int) % 23 = 0 := by omega
     have HD := Lib.hid hd;clear hd;go_wp2_with fail;go_roundw
     case rel => exact ⟨9, rfl, by decide, fun j hj => FIN.out 8 HD.out j hj HNO.out, trivial⟩
     case measure => simp [intOf]
   ·rw [show ((9 : Nat) : Int) = 9 from rfl];have hix : ∀ w, (Instr.index 109 (.agg #[.int .u64 2, .int .u64 3, .int .u64 5, .int .u64 7, .int .u64 11, .int .u64 13, .int .u64 17, .int .u64 19, .int .u64 23, .int .u64 29, .int .u64 31, .int .u64 37, .int .u64 41]) (.int .i64 9)).run Tryz.prog w = .ok (.int .u64 29) w := fun _ => by kernel_rfl
    by_cases hd : 29 ∣ n
    ·obtain rfl : n = 29 := eq_of_dvd HP.out (by decide) hd;clear hd;go_wp2_with fail;go_ret
     exact ⟨rfl, HL.out⟩
    ·have m1 : ((n : Int) % 29 == 0) = false := by rw [beq_eq_false_iff_ne]; omega
     have m2 : ¬ (n : Int) % 29 = 0 := by omega
     have HD := Lib.hid hd;clear hd;go_wp2_with fail;go_roundw
     case rel => exact ⟨10, rfl, by decide, fun j hj => FIN.out 9 HD.out j hj HNO.out, trivial⟩
     case measure => simp [intOf]
   ·rw [show ((10 : Nat) : Int) = 10 from rfl];have hix : ∀ w, (Instr.index 109 (.agg #[.int .u64 2, .int .u64 3, .int .u64 5, .int .u64 7, .int .u64 11, .int .u64 13, .int .u64 17, .int .u64 19, .int .u64 23, .int .u64 29, .int .u64 31, .int .u64 37, .int .u64 41]) (.int .i64 10)).run Tryz.prog w = .ok (.int .u64 31) w := fun _ => by kernel_rfl
    by_cases hd : 31 ∣ n
    ·obtain rfl : n = 31 := eq_of_dvd HP.out (by decide) hd;clear hd;go_wp2_with fail;go_ret
     exact ⟨rfl, HL.out⟩
    ·have m1 : ((n : Int) % 31 == 0) = false := by rw [beq_eq_false_iff_ne]; omega
     have m2 : ¬ (n : Int) % 31 = 0 := by omega
     have HD := Lib.hid hd;clear hd;go_wp2_with fail;go_roundw
     case rel => exact ⟨11, rfl, by decide, fun j hj => FIN.out 10 HD.out j hj HNO.out, trivial⟩
     case measure => simp [intOf]
   ·rw [show ((11 : Nat) : Int) = 11 from rfl];have hix : ∀ w, (Instr.index 109 (.agg #[.int .u64 2, .int .u64 3, .int .u64 5, .int .u64 7, .int .u64 11, .int .u64 13, .int .u64 17, .int .u64 19, .int .u64 23, .int .u64 29, .int .u64 31, .int .u64 37, .int .u64 41]) (.int .i64 11)).run Tryz.prog w = .ok (.int .u64 37) w := fun _ => by kernel_rfl
    by_cases hd : 37 ∣ n
    ·obtain rfl : n = 37 := eq_of_dvd HP.out (by decide) hd;clear hd;go_wp2_with fail;go_ret
     exact ⟨rfl, HL.out⟩
    ·have m1 : ((n : Int) % 37 == 0) = false := by rw [beq_eq_false_iff_ne]; omega
     have m2 : ¬ (n : Int) % 37 = 0 := by omega
     have HD := Lib.hid hd;clear hd;go_wp2_with fail;go_roundw
     case rel => exact ⟨12, rfl, by decide, fun j hj => FIN.out 11 HD.out j hj HNO.out, trivial⟩
     case measure => simp [intOf]
   ·rw [show ((12 : Nat) : Int) = 12 from rfl];have hix : ∀ w, (Instr.index 109 (.agg #[.int .u64 2, .int .u64 3, .int .u64 5, .int .u64 7, .int .u64 11, .int .u64 13, .int .u64 17, .int .u64 19, .int .u64 23, .int .u64 29, .int .u64 31, .int .u64 37, .int .u64 41]) (.int .i64 12)).run Tryz.prog w = .ok (.int .u64 41) w := fun _ => by kernel_rfl
    by_cases hd : 41 ∣ n
    ·obtain rfl : n = 41 := eq_of_dvd HP.out (by decide) hd;clear hd;go_wp2_with fail;go_ret
     exact ⟨rfl, HL.out⟩
    ·have m1 : ((n : Int) % 41 == 0) = false := by rw [beq_eq_false_iff_ne]; omega
     have m2 : ¬ (n : Int) % 41 = 0 := by omega
     have HD := Lib.hid hd;clear hd;go_wp2_with fail;go_roundw
     case rel => exact ⟨13, rfl, by decide, fun j hj => FIN.out 12 HD.out j hj HNO.out, trivial⟩
     case measure => simp [intOf]
  ·obtain rfl : k = 13 := by omega
   have hcall := has64_none (w.heap.size + 1) 13 bss 75 #[.pointer (some ⟨w.heap.size, 0, none⟩)] wr (enters_of Tryz.func75 (by kernel_rfl) rfl) (by decide) HB.out
    (fun i hi W hW => pis1 n _ w.heap.size W hn HP.out (fun h => HNO.out i hi (by
     have := eq_of_dvd (bss_pri i hi) h2 h;rw [this]; exact Nat.dvd_refl n)) (bss_lt i hi) (tab_up HT.out hW) (keepc hW p0))
   have hn1 : (n : Int) > 1 := by omega
   rw [show ((13 : Nat) : Int) = 13 from rfl];clear hlt hk;have HC := Lib.hid hcall;clear hcall;go_wp2_with fail;refine HC.out.mono ?_;rintro e w2 ⟨rfl, hb⟩;go_wp2_with fail;go_ret
   exact ⟨rfl, Bl.up HL.out hb⟩
open Go.RowKit Go.Shelf
attribute [local go_sem] Oper.semAt_some
theorem word_in (v : Value) (x : Nat) (w : World) (hx : It w v (x : Int)) (hlt : x < 4294967296) :
  CallsIn Fence.wide 3 Tryz.prog 45 #[v] w fun e w' => e = .returned (.tuple #[.int .u64 (x : Int), .bool true]) /\ Below w.heap.size w w' := by
 obtain ⟨a, cap, f, rfl, hcap, hw, hf, -, hv⟩ := hx.parts;have hs : sz (x : Int) <= 2 := words_le_of_lt (Nat.lt_of_lt_of_le hlt (by decide));have hneg : decide ((x : Int) < 0) = false := decide_eq_false (by omega);rw [hneg];obtain ⟨n, hn⟩ : ∃ n, sz (x : Int) = n := ⟨_, rfl⟩;rw [hn] at hw hf hv hs hcap |-;have i1 : (n : Int) <= 2 := by omega
 have hcn : (n : Int) <= (cap : Int) := by omega
 have hn3 : (1 : Nat) <= 3 := by omega
 have hmin0 : 0 <= min (n : Int) 2 /\ min (n : Int) 2 <= (cap : Int) := by omega
 have hv : nv f n = x := hv;have HF := Lib.hid hf;have HV := Lib.hid hv;clear hx hn hneg hf hv;refine callsIn_of_wp_marks Tryz.func45 rfl trivial ?_ rfl;simp only [Tryz.ntmps45, List.size_toArray, List.length_cons, List.length_nil, Nat.reduceAdd, Nat.reduceSub, Array.replicate_succ, Array.replicate_zero, List.push_toArray, List.append_toArray, List.nil_append, List.cons_append];gi_wp2_with fail
 refine ⟨trivial, (back_in Fence.wide 2 trivial rfl _ _ _ _).mono ?_⟩;rintro e w' ⟨rfl, rfl⟩;gi_wp2
 have hmin : min (n : Int) 2 = (n : Int) := by omega
 simp only [hmin, Int.toNat_natCast];clear hmin;have hb0 := below_new w (.cells #[.bool false, .slice a n cap] 29);have hD0 := heap_alloc_new w (.cells #[.bool false, .slice a n cap] 29);have hb1 := below_new (w.alloc (.cells #[.bool false, .slice a n cap] 29)) (.cells #[.int .u64 0] 81);have hD1 := heap_alloc_new (w.alloc (.cells #[.bool false, .slice a n cap] 29)) (.cells #[.int .u64 0] 81);have hb2 := below_new ((w.alloc (.cells #[.bool false, .slice a n cap] 29)).alloc (.cells #[.int .u64 0] 81)) (.cells #[.slice a n cap] 27);have hD2 := heap_alloc_new ((w.alloc (.cells #[.bool false, .slice a n cap] 29)).alloc (.cells #[.int .u64 0] 81)) (.cells #[.slice a n cap] 27);replace hD0 := ((Bl.up hb1 hb2).block _ (Array.getElem?_eq_some_iff.1 hD0).1).trans hD0;replace hD1 := (hb2.block _ (Array.getElem?_eq_some_iff.1 hD1).1).trans hD1;rw [World.size_alloc] at hD1;rw [World.size_alloc, World.size_alloc] at hD2;have hbl := Bl.up hb0 (Bl.up hb1 hb2);have hW3 := hw.up hbl;have hsz : (((w.alloc (.cells #[.bool false, .slice a n cap] 29)).alloc (.cells #[.int .u64 0] 81)).alloc (.cells #[.slice a n cap] 27)).heap.size = w.heap.size + 3 := by simp
 clear hb0 hb1 hb2 hw;generalize ((w.alloc (.cells #[.bool false, .slice a n cap] 29)).alloc (.cells #[.int .u64 0] 81)).alloc (.cells #[.slice a n cap] 27) = w2 at *;have HL := Lib.hid hbl;have HB0 := Lib.hid hD0;have HSZ := Lib.hid hsz
 refine wpIn_rangeFunc_ownF (gf := 94) (lb := #[.pointer (some ⟨w.heap.size + 1 + 1, 0, none⟩)]) (encs := fun x : Un n => #[Value.int .i64 (x.1 : Int), Value.int .u32 (f x.1 : Int)]) (Kp := KpB (w.heap.size + 1 + 1) a n f) (S := DownTo n) (Sp := fun _ => True) (N := 3) (w0 := w2)
  ?hro ?h1 ?hg ?hFg ?eg ?hseq ?hKt ?hKb ?hb0 ?hps (fun pre W => LwI w W (w.heap.size + 1) f n (.cells #[.bool false, .slice a n cap] 29) pre) (fun _ _ _ => False) ?own ?hIx ?h0
  (fun x => { tmps := #[.agg #[.bool false, .slice a n cap], .pointer (some ⟨w.heap.size, 0, none⟩), .int .u64 0, .bool false, .pointer (some ⟨w.heap.size + 1, 0, none⟩), undef, .int .u32 (f x.1 : Int), .pointer (some ⟨w.heap.size, 1, none⟩), .slice a n cap, .pointer (some ⟨w.heap.size, 1, none⟩), .slice a n cap, .int .i64 (n : Int), .int .i64 (n : Int), .slice a n cap, .func (.func 94) #[] #[.pointer (some ⟨w.heap.size + 1 + 1, 0, none⟩)], .int .i64 (x.1 : Int), .int .u32 (f x.1 : Int), undef, undef, undef, undef, undef, undef, undef, undef, undef, undef, undef, undef, undef, undef, undef], defers := [] }) ?assign ?body ?done ?stop
 case hro => exact rfl
 case h1 => omega
 case hg => rfl
 case hFg => trivial
 case eg => exact enters_of Tryz.func94 (by kernel_rfl) rfl
 case hseq => exact back_stops Fence.wide 2 trivial rfl (by omega) (w.heap.size + 1 + 1) a n cap f hs w2 (by omega) hD2 hW3
 case hKt => exact fun h k => ⟨k.1.trans h.1, fun d => k.2 (h.2 d)⟩
 case hKb => exact fun W l o o' hl ho hc _ => ⟨World.putObj_heap_other (by omega), fun d => d.fr (ButS.grown (grownBy_putObj' W l o')) (fun g e => by cases e; exact nocells ho hc)⟩
 case hb0 => exact Below.refl _ _
 case hps => exact fun _ => rfl
 case hIx => exact fun _ _ _ _ _ hs _ _ => hs
 case h0 => exact ⟨hD1, hD0, hbl⟩
 case own =>
  intro pre A B row hs hg hr;refine ⟨(hg.block _ (Array.getElem?_eq_some_iff.1 hs.hD).1 (fun e => by have := (hr _ e.symm).1; have := HSZ.out; omega)).trans hs.hD, (hg.block _ (Array.getElem?_eq_some_iff.1 hs.hB).1 (fun e => by have := (hr _ e.symm).1; have := HSZ.out; omega)).trans hs.hB, ButS.below hs.hW (ButS.grown hg) hs.hW.size (fun k e => by have := (hr k e).1; have := HSZ.out; omega)⟩
 case assign =>
  intro l x W K hK;gi_wp2
  exact hK
 case body =>
  rintro l pre x W hI -;have hD := hI.hD;obtain ⟨v, hv⟩ : ∃ v, fdv f (pre.map Subtype.val) = v := ⟨_, rfl⟩;rw [hv] at hD;have cD : W.cell? ⟨w.heap.size + 1, 0, none⟩ = some (.int .u64 (v : Int)) := by simp [World.cell?, hD]
  have fD : W.frozen? ⟨w.heap.size + 1, 0, none⟩ = false := by simp [World.frozen?, hD]
  have hfx := HF.out x.1 x.2;have HI := Lib.hid hI;have HVV := Lib.hid hv;have HD := Lib.hid hD;have hsh : IntKind.u64.wrap ((v : Int) * 4294967296) = ((v % 4294967296 : Nat) : Int) * 4294967296 := by rw [IntKind.wrap_u64]; omega
  clear hI hv hD;gi_wp2
  have hor : bits BinOp.or IntKind.u64 ((v : Int) % 4294967296 * 4294967296) (f x.1 : Int) = ((v % 4294967296 * 4294967296 + f x.1 : Nat) : Int) := by
   rw [or_join _ _ (by omega) (by omega) (by omega) (by omega)]; omega
  rw [hor];have hbs := ButS.set W (w.heap.size + 1) 0 (.int .u64 ((v % 4294967296 * 4294967296 + f x.1 : Nat) : Int))
  have hnw : ∀ g, g = w.heap.size + 1 -> NoW W g := by
   rintro g rfl o y hy;simp only [World.cell?, HD.out] at hy;rcases o with _ | o <;> simp at hy
  refine ⟨KeepsOthers.setCell _ _ _, ⟨Below.heap_setCell W ⟨w.heap.size + 1, 0, none⟩ _ (w.heap.size + 1 + 1) (by show w.heap.size + 1 + 1 ≠ w.heap.size + 1; omega), fun d => d.fr hbs hnw⟩, ?_, ?_, ?_⟩
  ·rw [List.map_append, List.map_cons, List.map_nil, fdv_snoc, HVV.out];simp [World.setCell, Array.getElem?_modify, HD.out]
  ·exact (hbs.block _ (Array.getElem?_eq_some_iff.1 HI.out.hB).1 (by omega)).trans HI.out.hB
  ·exact ButS.below HI.out.hW hbs HI.out.hW.size (fun g e => by omega)
 case done =>
  rintro D xs W hD hxs hI hK;have hvx : fdv f (xs.map Subtype.val) = x := by rw [hxs, fdv_all HF.out hs]; exact HV.out
  have hDD := hI.hD;rw [hvx] at hDD;have hBB := hI.hB;have cD : W.cell? ⟨w.heap.size + 1, 0, none⟩ = some (.int .u64 (x : Int)) := by simp [World.cell?, hDD]
  have cB : W.cell? ⟨w.heap.size, 0, none⟩ = some (.bool false) := by simp [World.cell?, hBB]
  have cB1 : W.cell? ⟨w.heap.size, 1, none⟩ = some (.slice a n cap) := by simp [World.cell?, hBB]
  have HI := Lib.hid hI;have HK := Lib.hid hK;have HD2 := Lib.hid hD;clear hI hK hD hDD hBB hvx hxs;gi_wp2
  gi_big_quiet (fail)
  gi_wp2
  refine ⟨by simp, .inl ⟨D, _, rfl, run_takeDeferred HK.out, ?_⟩⟩;refine ⟨_, results_tmp2 rfl _ _ _, ?_⟩;have hWd := Below.drewN HI.out.hW nq;exact ⟨rfl, ButS.below hWd (ButS.grown (grownBy_putObj' (W.drewN nq) D _)) hWd.size (fun k e => by cases e; have := HSZ.out; have := HD2.out; omega)⟩
 case stop =>
  rintro D c pre W - - h -;exact h.elim
theorem word_any' (v : Value) (x : Nat) (w : World) (hx : It w v (x : Int)) (hlt : x < 4294967296) :
  Calls Tryz.prog 45 #[v] w fun e w' => e = .returned (.tuple #[.int .u64 (x : Int), .bool true]) /\ Below w.heap.size w w' :=
 callsIn_wide.1 (word_in v x w hx hlt)
theorem pis_any (v : Value) (x : Nat) (w : World) (hx : It w v (x : Int)) (hlt : x < 4294967296) (hp : Pri x) (hT : TabAt 0 Lib.deBruijn64tab w) :
  Calls Tryz.prog 9 #[v] w fun e w' => e = .returned (.tuple #[.bool true, .int .i64 0]) /\ Below w.heap.size w w' := by
 obtain ⟨W, s1, a1, n1, c1, rfl, hW, bw, -, hs, p0, p1, hx'⟩ := box1 w hx
 have hs0 : s1 = false := by
  obtain ⟨a, cap, f, e, -⟩ := hx'.parts;injection e with e;injection e with e;simp at e
  rw [e.1];exact decide_eq_false (by omega)
 subst hs0;have HP := Lib.hid hp;have HT := Lib.hid (tab_up hT bw);have HX := Lib.hid hx';have HB := Lib.hid bw;clear hp hx' bw hs hT hx;go_enter Tryz.func9, Tryz.ntmps9
 go_upto_region 1 with fail;rw [<- hW];clear hW;go_wp2_with fail;refine (word_any' _ x W HX.out hlt).mono ?_;rintro e w1 ⟨rfl, hb1⟩;have HB1 := Lib.hid (Bl.up HB.out hb1);have HT1 := Lib.hid (tab_up HT.out hb1);replace p0 := keepc hb1 p0;clear p1 hb1 HB HX HT;go_wp2_with fail;refine (pisPrime x w1 hlt HP.out HT1.out).mono ?_;rintro e w2 ⟨rfl, hb2⟩;have HB2 := Lib.hid (Bl.up HB1.out hb2);go_wp2_with fail;refine bodyPost_ret (results_tmp2 rfl _ _ _) rfl ?_;exact ⟨rfl, HB2.out⟩
end Go.Proofs.YtblebpmlkpobnaaGreatDoor
