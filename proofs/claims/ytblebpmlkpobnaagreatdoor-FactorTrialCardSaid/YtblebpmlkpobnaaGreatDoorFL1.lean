/-
  A factorization in a variable.
-/
import Derived.Test.YtblebpmlkpobnaaGreatDoorFD1
import Derived.Test.YtblebpmlkpobnaaGreatDoorFE1
import Derived.Test.YtblebpmlkpobnaaGreatDoorFJ1
set_option linter.unusedSimpArgs false
set_option linter.unusedVariables false
set_option maxHeartbeats 1000000
namespace Go.Proofs.YtblebpmlkpobnaaGreatDoor
open Go.RowKit
attribute [local go_sem ↓] Go.wp_at_zero Go.wp_at_succ
theorem rtrim_any (a : Option Addr) (n cap : Nat) (f : Nat -> Nat) (w : World) (hn : n <= cap) (hN : n <= 4611686018427387904) (hw : Wd w a n f) (hf : Wf f n) :
  Calls Tryz.prog 77 #[.slice a n cap] w fun e w' => e = .returned (.slice a (tr f n) cap) /\ w = w' := by
 go_enter Tryz.func77, Tryz.ntmps77
 go_wp2
 go_loop [0] (fun v => ∃ k : Nat, k <= n /\ v = .slice a k cap /\ tr f k = tr f n) (fun v => lenOf v)
 case atStart => exact ⟨n, Nat.le_refl _, rfl, rfl⟩
 case round =>
  obtain ⟨k, hk, rfl, ht⟩ := hrel;have HT := Lib.hid ht;clear ht;rcases k with _ | k
  ·go_wp2
   go_ret
   have ht := HT.out;simp only [tr] at ht;exact ⟨by rw [<- ht]; rfl, rfl⟩
  ·obtain ⟨b, off, rfl, hb, hc⟩ := hw.at (i := k) (by omega);have hck := hc k (by omega);have hfk := hf k (by omega);go_wp2
   ·have h0 : ((f k : Int) == 0) = true := by assumption
    have h1 : f k = 0 := by simpa using h0
    go_round
    case rel => exact ⟨k, by omega, rfl, by have ht := HT.out; rw [tr, if_pos h1] at ht; exact ht⟩
    case measure => simp [lenOf]
   ·have h0 : ((f k : Int) == 0) = false := by assumption
    have h1 : ¬ f k = 0 := by simpa using h0
    have ht := HT.out;rw [tr, if_neg h1] at ht;go_ret
    exact ⟨by rw [<- ht]; rfl, rfl⟩
theorem made_any (s : Bool) (a : Option Addr) (n cap : Nat) (f : Nat -> Nat) (w : World) (hn : n <= cap) (hN : n <= 4611686018427387904) (hw : Wd w a n f) (hf : Wf f n) :
  Calls Tryz.prog 47 #[.bool s, .slice a n cap] w fun e w' => ∃ v, e = .returned v /\ It w' v (sg s (nv f n)) /\ Below w.heap.size w w' := by
 have hle := tr_le f n;have hv0 := Vx.new0 (w := w) (T := 29) rfl;go_enter Tryz.func47, Tryz.ntmps47
 go_wp2_with fail;refine (rtrim_any a n cap f _ hn hN (hw.up (below_new _ _)) hf).mono ?_;rintro e w' ⟨rfl, rfl⟩;rcases Nat.eq_zero_or_pos (tr f n) with h0 | h0
 ·have hv : nv f n = 0 := by rw [<- nv_tr f n, h0]; rfl
  have HV := Lib.hid hv;rw [h0];clear hv h0;go_wp2_with fail;exact ret_vx (B := w.heap.size) (z := 0) rfl rfl rfl (by exact srch) (fun v hv => ⟨v, rfl, by rw [HV.out]; cases s <;> exact hv, by exact srch⟩)
 ·have hne : ((tr f n : Int) == 0) = false := by rw [beq_eq_false_iff_ne]; omega
  have hit : It w (.agg #[.bool s, .slice a (tr f n) cap]) (sg s (nv f n)) := by
   refine it_of_nt (nt_of_tr hn hw hf) ?_;rw [<- nv_tr f n];rcases can_tr f n with c | c
   ·omega
   ·have := nv_pos_le (f := f) (n := tr f n) (i := tr f n - 1) (by omega);have h2 : 0 < f (tr f n - 1) * 4294967296 ^ (tr f n - 1) := Nat.mul_pos (by omega) (pw_pos _);omega
  go_wp2_with fail;have hx := Vx.new (T := 29) rfl hit;exact ret_vx (B := w.heap.size) (z := sg s (nv f n)) rfl rfl rfl (by first | exact hx | exact srch) (fun v hv => ⟨v, rfl, hv, by exact srch⟩)
theorem rof_any (n : Int) (w : World) (h1 : -9223372036854775808 <= n) (h2 : n <= 9223372036854775807) :
  Calls Tryz.prog 11 #[.int .i64 n] w fun e w' => ∃ v, e = .returned v /\ It w' v n /\ Below w.heap.size w w' := by
 obtain ⟨v1, v2⟩ := of_words n h1 h2;have e0 : ((n.natAbs : Int) % 4294967296) = ((n.natAbs % 4294967296 : Nat) : Int) := by omega
 have e1 : ((n.natAbs : Int) / 4294967296 % 4294967296) = ((n.natAbs / 4294967296 : Nat) : Int) := by omega
 have hw2 := (below_new w (.cells #[.bool false, .slice none 0 0] 29));have hb2 := hw2.alloc hw2.size (.cells #[.int .u32 ((n.natAbs % 4294967296 : Nat) : Int), .int .u32 ((n.natAbs / 4294967296 : Nat) : Int)] 85)
 have hO := Own.lit (w.alloc (.cells #[.bool false, .slice none 0 0] 29)) #[.int .u32 ((n.natAbs % 4294967296 : Nat) : Int), .int .u32 ((n.natAbs / 4294967296 : Nat) : Int)] 85 2 (wv fun i => if i = 0 then n.natAbs % 4294967296 else n.natAbs / 4294967296) rfl
  (fun i hi => by rcases i with _ | _ | i; rfl; rfl; omega)
 have hx := (Vx.new0 (w := w) (T := 29) rfl).alloc (.cells #[.int .u32 ((n.natAbs % 4294967296 : Nat) : Int), .int .u32 ((n.natAbs / 4294967296 : Nat) : Int)] 85);simp only [World.size_alloc] at hO;have H0 := Lib.hid e0;have H1 := Lib.hid e1;have HX := Lib.hid hx;clear e0 e1 hw2 hx;by_cases hn : n < 0
 ·have hm : IntKind.u64.wrap (-IntKind.u64.wrap n) = (n.natAbs : Int) := by
   simp [IntKind.wrap, IntKind.bits, IntKind.signed]
   omega
  have HM := Lib.hid hm;clear hm;go_enter Tryz.func11, Tryz.ntmps11
  go_wp2_with fail;rw [HM.out, H0.out, H1.out];refine (made_any true _ 2 2 _ _ (Nat.le_refl _) (by omega) hO.wd v2).mono ?_;rintro e w1 ⟨v, rfl, hv, hb⟩;rw [v1, show sg true n.natAbs = n by unfold sg; simp; omega] at hv;replace hx := HX.out.up hb;replace hb2 := hb2.trans (hb.mono hb2.size);obtain ⟨s', a', n', cap', rfl⟩ := hv.shape;clear hO hb;obtain ⟨s, a, k, c, c0, c1, f0, f1, -⟩ := hx.cells;go_wp2_with fail;exact ret_vx (B := w.heap.size) rfl rfl rfl (Vx.put hx.va hv) (fun v hv => ⟨_, rfl, hv, Bl.st hb2 (Nat.le_refl _)⟩)
 ·have hm : n % 4294967296 = ((n.natAbs % 4294967296 : Nat) : Int) := by omega
  have hm' : n / 4294967296 = ((n.natAbs / 4294967296 : Nat) : Int) := by omega
  have HM := Lib.hid hm;have HM' := Lib.hid hm';clear hm hm';go_enter Tryz.func11, Tryz.ntmps11
  go_wp2_with fail;rw [HM.out, HM'.out];refine (made_any false _ 2 2 _ _ (Nat.le_refl _) (by omega) hO.wd v2).mono ?_;rintro e w1 ⟨v, rfl, hv, hb⟩;rw [v1, show sg false n.natAbs = n by unfold sg; simp; omega] at hv;replace hx := HX.out.up hb;replace hb2 := hb2.trans (hb.mono hb2.size);obtain ⟨s', a', n', cap', rfl⟩ := hv.shape;clear hO hb;obtain ⟨s, a, k, c, c0, c1, f0, f1, -⟩ := hx.cells;go_wp2_with fail;exact ret_vx (B := w.heap.size) rfl rfl rfl (Vx.put hx.va hv) (fun v hv => ⟨_, rfl, hv, Bl.st hb2 (Nat.le_refl _)⟩)
theorem size_any (a b : Option Addr) (n m ca cb : Nat) (f h : Nat -> Nat) (w : World) (hn : n <= 4611686018427387904) (hm : m <= 4611686018427387904)
  (hwf : Wd w a n f) (hwh : Wd w b m h) (Hf : Wf f n) (Hh : Wf h m) (Cf : Can f n) (Ch : Can h m) :
  Calls Tryz.prog 48 #[.slice a n ca, .slice b m cb] w fun e w' => e = .returned (.int .i64 (cmpI (nv f n) (nv h m))) /\ ∃ k, w' = w.drewN k := by
 rcases Nat.lt_trichotomy n m with hnm | hnm | hnm
 ·have hlt := nv_lt_of_len Hf Hh Ch hnm;have hb : ((n : Int) != (m : Int)) = true := by rw [bne_iff_ne]; omega
  have hl : (n : Int) < (m : Int) := by omega
  go_enter Tryz.func48, Tryz.ntmps48
  go_wp2_with fail;go_ret
  exact ⟨ret_of (by rw [cmpI_lt (x := (nv f n : Int)) (by omega)]; rfl), 0, rfl⟩
 ·subst hnm;have hb : ((n : Int) != (n : Int)) = false := by simp
  go_enter Tryz.func48, Tryz.ntmps48
  go_wp2_with fail;go_loopw [5] (fun s wr => ∃ k q : Nat, k <= n /\ s = .int .i64 ((k : Int) - 1) /\ (∀ j, k <= j -> j < n -> f j = h j) /\ wr = w.drewN q) (fun s _ => (intOf s + 1).toNat)
  case atStart => exact ⟨n, 0, Nat.le_refl _, rfl, fun j h1 h2 => absurd h2 (by omega), rfl⟩
  case round =>
   obtain ⟨k, q, hk, rfl, heq, hwr⟩ := hrel;have HWR := Lib.hid hwr;clear hwr;have HE := Lib.hid heq;clear heq;rcases k with _ | k
   ·go_wp2_with fail;go_ret
    exact ⟨ret_of (by rw [cmpI_eq (by rw [nv_congr (fun i hi => HE.out i (Nat.zero_le _) hi)])]; rfl), q, HWR.out⟩
   ·obtain ⟨ba, oa, rfl, hba, hca⟩ := hwf.at (i := k) (by omega);obtain ⟨bb, ob, rfl, hbb, hcb⟩ := hwh.at (i := k) (by omega);have c1 : wr.cell? ⟨ba, oa + k, none⟩ = some (.int .u32 (f k : Int)) := by rw [HWR.out]; exact hca k (by omega)
    have c2 : wr.cell? ⟨bb, ob + k, none⟩ = some (.int .u32 (h k : Int)) := by rw [HWR.out]; exact hcb k (by omega)
    have b1 := Hf k (by omega);have b2 := Hh k (by omega);clear hca hcb;rw [show ((k + 1 : Nat) : Int) - 1 = (k : Int) by omega];have p1 : (0 : Int) <= (k : Int) := by omega
    have p2 : (k : Int) < (n : Int) := by omega
    rcases Nat.lt_trichotomy (f k) (h k) with c | c | c
    ·have hd : decide (f k < h k) = true := by simp; omega
     go_upto_region 8 with fail;go_quiet (fail)
     go_wp2_with fail;go_ret
     exact ⟨ret_of (by rw [cmp_of f h n k Hf Hh (by omega) (fun j a b => HE.out j (by omega) b) (by rw [cmpI_lt (by omega)]; decide), cmpI_lt (by omega)]; rfl), _, by (simp only [HWR.out, World.drewN_drewN]; rfl)⟩
    ·have hd : decide (f k < h k) = false := by simp; omega
     have hd' : decide (h k < f k) = false := by simp; omega
     have C := Lib.hid c;clear c;go_upto_region 8 with fail;go_quiet (fail)
     go_upto_region 10 with fail;go_quiet (fail)
     go_wp2_with fail;go_roundw
     case rel =>
      refine ⟨k, _, by omega, rfl, ?_, by (simp only [HWR.out, World.drewN_drewN]; rfl)⟩;intro j a b;by_cases e : j = k
      ·subst e; exact C.out
      ·exact HE.out j (by omega) b
     case measure => simp [intOf]
    ·have hd : decide (f k < h k) = false := by simp; omega
     have hd' : decide (h k < f k) = true := by simp; omega
     go_upto_region 8 with fail;go_quiet (fail)
     go_upto_region 10 with fail;go_quiet (fail)
     go_wp2_with fail;go_ret
     exact ⟨ret_of (by rw [cmp_of f h n k Hf Hh (by omega) (fun j a b => HE.out j (by omega) b) (by rw [cmpI_gt (by omega)]; decide), cmpI_gt (by omega)]; rfl), _, by (simp only [HWR.out, World.drewN_drewN]; rfl)⟩
 ·have hlt := nv_lt_of_len Hh Hf Cf hnm;have hb : ((n : Int) != (m : Int)) = true := by rw [bne_iff_ne]; omega
  have hl : ¬ (n : Int) < (m : Int) := by omega
  go_enter Tryz.func48, Tryz.ntmps48
  go_wp2_with fail;go_ret
  exact ⟨ret_of (by rw [cmpI_gt (x := (nv f n : Int)) (by omega)]; rfl), 0, rfl⟩
theorem below_drewN (w : World) (k : Nat) : Below w.heap.size w (w.drewN k) := ⟨rfl, rfl, rfl, Nat.le_refl _, fun _ _ => rfl⟩
def sameB (x y : Int) : Bool := decide (x = y)
theorem same_signs (x y : Int) (h : (decide (x < 0) == decide (y < 0)) = false) : sameB x y = false := by
 unfold sameB;rw [decide_eq_false_iff_not];rintro rfl;simp at h
theorem same_size (x y : Int) (h : (decide (x < 0) == decide (y < 0)) = true) : (cmpI (x.natAbs : Int) (y.natAbs : Int) == 0) = sameB x y := by
 unfold sameB;rw [Bool.eq_iff_iff];simp only [beq_iff_eq, decide_eq_true_eq, cmpI_zero] at *;constructor
 ·intro e;by_cases h1 : x < 0 <;> by_cases h2 : y < 0 <;> simp [h1, h2] at h <;> omega
 ·rintro rfl; rfl
theorem rsame_any (va vb : Value) (x y : Int) (w : World) (hx : It w va x) (hy : It w vb y) (hsx : sz x <= 4611686018427387904) (hsy : sz y <= 4611686018427387904) :
  Calls Tryz.prog 59 #[va, vb] w fun e w' => e = .returned (.bool (sameB x y)) /\ Below w.heap.size w w' := by
 obtain ⟨a, ca, f, rfl, h1, h2, h3, h4, h5⟩ := hx.parts;obtain ⟨b, cb, g, rfl, k1, k2, k3, k4, k5⟩ := hy.parts;have H5 := Lib.hid h5;have K5 := Lib.hid k5;clear h5 k5;obtain ⟨W, hW, hw, d1, d2, n1, n2, -⟩ := two_boxes w (decide (x < 0)) (decide (y < 0)) a b (sz x) (sz y) ca cb 29;replace h2 := h2.up hw;replace k2 := k2.up hw;have p0 := d1.c0;have p1 := d1.c1;have q0 := d2.c0;have q1 := d2.c1;clear d1 d2 n1 n2 hx hy;by_cases hs : (decide (x < 0) == decide (y < 0)) = false
 ·rw [same_signs x y hs];generalize decide (x < 0) = sx at *;generalize decide (y < 0) = sy at *;go_enter Tryz.func59, Tryz.ntmps59
  go_wp2_with fail;rw [<- hW];go_ret
  exact ⟨rfl, hw⟩
 ·rw [Bool.not_eq_false] at hs;rw [<- same_size x y hs];have hC := size_any a b (sz x) (sz y) ca cb f g W hsx hsy h2 k2 h3 k3 h4 k4;rw [H5.out, K5.out] at hC;generalize decide (x < 0) = sx at *;generalize decide (y < 0) = sy at *;go_enter Tryz.func59, Tryz.ntmps59
  go_wp2_with fail;rw [<- hW];clear hW;refine hC.mono ?_;rintro e w1 ⟨rfl, k, rfl⟩;go_wp2_with fail;go_ret
  exact ⟨rfl, hw.trans ((below_drewN W k).mono hw.size)⟩
structure Fb (w : World) (B : Nat) (s : Bool) (a : Option Addr) (n c : Nat) (aP : Option Addr) (cP : Nat) (aR : Option Addr) (cR : Nat) (f : Fz) : Prop where
 hb : w.heap[B]? = some (.cells #[.bool s, .slice a n c, .slice aP f.P.length cP, .slice aR f.R.length cR, .int .i64 f.B] 32 (0, 0))
 hN : It w (.agg #[.bool s, .slice a n c]) f.N
 hP : Sr eP w (.slice aP f.P.length cP) f.P
 hR : Sr eP w (.slice aR f.R.length cR) f.R
section
variable {w w' : World} {B : Nat} {s : Bool} {a : Option Addr} {n c : Nat} {aP : Option Addr} {cP : Nat} {aR : Option Addr} {cR : Nat} {f : Fz}
theorem Fb.lt (h : Fb w B s a n c aP cP aR cR f) : B < w.heap.size := (Array.getElem?_eq_some_iff.1 h.hb).1
theorem Fb.up (h : Fb w B s a n c aP cP aR cR f) (hb : Below w.heap.size w w') : Fb w' B s a n c aP cP aR cR f :=
 ⟨(hb.block B h.lt).trans h.hb, h.hN.up hb, h.hP.up hb, h.hR.up hb⟩
theorem Fb.alloc (h : Fb w B s a n c aP cP aR cR f) (o : Obj) : Fb (w.alloc o) B s a n c aP cP aR cR f := h.up (below_new w o)
theorem Fb.drew (h : Fb w B s a n c aP cP aR cR f) : Fb w.drew B s a n c aP cP aR cR f := ⟨h.hb, h.hN.drew, h.hP.drew, h.hR.drew⟩
theorem Fb.cells (h : Fb w B s a n c aP cP aR cR f) : w.cell? ⟨B, 0, none⟩ = some (.bool s) /\ w.cell? ⟨B, 1, none⟩ = some (.slice a n c) /\ w.cell? ⟨B, 2, none⟩ = some (.slice aP f.P.length cP) /\ w.cell? ⟨B, 3, none⟩ = some (.slice aR f.R.length cR) /\ w.cell? ⟨B, 4, none⟩ = some (.int .i64 f.B) := by
 refine ⟨?_, ?_, ?_, ?_, ?_⟩ <;> simp [World.cell?, h.hb]
theorem Fb.fx (h : Fb w B s a n c aP cP aR cR f) : Fx w (.agg #[.bool s, .slice a n c, .slice aP f.P.length cP, .slice aR f.R.length cR, .int .i64 f.B]) f := ⟨s, a, n, c, _, _, rfl, h.hN, h.hP, h.hR⟩
end
theorem Fx.box {w : World} {v : Value} {f : Fz} (h : Fx w v f) : ∃ s a n c aP cP aR cR, v = .agg #[.bool s, .slice a n c, .slice aP f.P.length cP, .slice aR f.R.length cR, .int .i64 f.B] /\
  ∀ W, Below w.heap.size w W -> ∀ B, W.heap[B]? = some (.cells #[.bool s, .slice a n c, .slice aP f.P.length cP, .slice aR f.R.length cR, .int .i64 f.B] 32 (0, 0)) -> Fb W B s a n c aP cP aR cR f := by
 obtain ⟨s, a, n, c, vP, vR, rfl, hN, hP, hR⟩ := h;obtain ⟨aP, cP, rfl, -⟩ := id hP;obtain ⟨aR, cR, rfl, -⟩ := id hR;exact ⟨s, a, n, c, aP, cP, aR, cR, rfl, fun W hb B hB => ⟨hB, hN.up hb, hP.up hb, hR.up hb⟩⟩
theorem boxF (w : World) {va : Value} {f : Fz} (h : Fx w va f) : ∃ W s a n c aP cP aR cR, va = .agg #[.bool s, .slice a n c, .slice aP f.P.length cP, .slice aR f.R.length cR, .int .i64 f.B] /\
  W = w.alloc (.cells #[.bool s, .slice a n c, .slice aP f.P.length cP, .slice aR f.R.length cR, .int .i64 f.B] 32) /\ Below w.heap.size w W /\ W.heap.size = w.heap.size + 1 /\ Fb W w.heap.size s a n c aP cP aR cR f := by
 obtain ⟨s, a, n, c, aP, cP, aR, cR, rfl, hb⟩ := h.box;exact ⟨_, s, a, n, c, aP, cP, aR, cR, rfl, rfl, below_new _ _, by simp, hb _ (below_new _ _) _ (heap_alloc_new _ _)⟩
theorem boxF2 (w : World) {va vb : Value} {f g : Fz} (h : Fx w va f) (k : Fx w vb g) : ∃ W s1 a1 n1 c1 aP1 cP1 aR1 cR1 s2 a2 n2 c2 aP2 cP2 aR2 cR2,
  va = .agg #[.bool s1, .slice a1 n1 c1, .slice aP1 f.P.length cP1, .slice aR1 f.R.length cR1, .int .i64 f.B] /\ vb = .agg #[.bool s2, .slice a2 n2 c2, .slice aP2 g.P.length cP2, .slice aR2 g.R.length cR2, .int .i64 g.B] /\
  W = (w.alloc (.cells #[.bool s1, .slice a1 n1 c1, .slice aP1 f.P.length cP1, .slice aR1 f.R.length cR1, .int .i64 f.B] 32)).alloc (.cells #[.bool s2, .slice a2 n2 c2, .slice aP2 g.P.length cP2, .slice aR2 g.R.length cR2, .int .i64 g.B] 32) /\
  Below w.heap.size w W /\ W.heap.size = w.heap.size + 1 + 1 /\ Fb W w.heap.size s1 a1 n1 c1 aP1 cP1 aR1 cR1 f /\ Fb W (w.heap.size + 1) s2 a2 n2 c2 aP2 cP2 aR2 cR2 g := by
 obtain ⟨W1, s1, a1, n1, c1, aP1, cP1, aR1, cR1, rfl, rfl, b1, e1, hF⟩ := boxF w h;obtain ⟨W2, s2, a2, n2, c2, aP2, cP2, aR2, cR2, rfl, rfl, b2, e2, hG⟩ := boxF _ (k.up b1);rw [e1] at hG e2;exact ⟨_, s1, a1, n1, c1, aP1, cP1, aR1, cR1, s2, a2, n2, c2, aP2, cP2, aR2, cR2, rfl, rfl, rfl, b1.trans (b2.mono (by omega)), e2, hF.up b2, hG⟩
theorem ButS.dr {S : Nat -> Prop} {a b : World} (h : ButS S a b) : ButS S a b.drew := h.up (Below.refl _ _).drew
theorem ButS.al {S : Nat -> Prop} {a b : World} (h : ButS S a b) (o : Obj) : ButS S a (b.alloc o) := h.up (below_new _ _)
theorem ButS.bel {W a b : World} {B : Nat} (h : Below W.heap.size W a) (hb : ButS (fun g => g = B) a b) (hB : W.heap.size <= B) : Below W.heap.size W b := ButS.below h hb h.size (fun g e => e ▸ hB)
theorem getD_ext {α : Type} {d : α} {l m : List α} (h : l.length = m.length) (h' : ∀ i, i < l.length -> l.getD i d = m.getD i d) : l = m :=
 List.ext_getElem h (fun i h1 h2 => by have := h' i h1; simpa [List.getD_eq_getElem?_getD, h1, h2] using this)
theorem sameB_iff {x y : Int} : sameB x y = true ↔ x = y := by unfold sameB; exact decide_eq_true_iff
def szL (l : List (Int × Int)) : Prop := l.length <= 1099511627776 /\ ∀ x ∈ l, sz x.1 <= 1099511627776
def szF (f : Fz) : Prop := sz f.N <= 1099511627776 /\ szL f.P /\ szL f.R
theorem szL.at {l : List (Int × Int)} (h : szL l) {i : Nat} (hi : i < l.length) : sz (l.getD i (0, 0)).1 <= 1099511627776 := by
 refine h.2 _ ?_;rw [List.getD_eq_getElem?_getD, List.getElem?_eq_getElem hi];exact List.getElem_mem hi
end Go.Proofs.YtblebpmlkpobnaaGreatDoor
