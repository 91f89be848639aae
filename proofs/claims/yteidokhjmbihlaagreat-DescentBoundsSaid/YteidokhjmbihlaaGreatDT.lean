/-
  Bounds of what is made, and of parts of it: plain.
-/
import Derived.Test.YteidokhjmbihlaaGreatDQ
import Derived.Test.YteidokhjmbihlaaGreatDR
set_option linter.unusedSimpArgs false
set_option linter.unusedVariables false
set_option maxRecDepth 100000
set_option maxHeartbeats 2000000
namespace Go.Proofs.YteidokhjmbihlaaGreat
open Go.RowKit
attribute [local go_sem ↓] Go.wp_at_zero Go.wp_at_succ
def Qgs (a b : Int) : Prop := -20 <= a /\ a <= 20 /\ -80 <= b /\ b <= 101 /\ b ≠ 0 /\ a * a ≠ 4 * b
theorem QjW (w : World) (B T : Nat) (fr : Nat × Nat) (x0 x1 x2 x3 : Value) (h : w.heap[B]? = some (.cells #[x0, x1, x2, x3] T fr)) : (loadVar 35 ⟨B, 0, none⟩).run Tryz.prog w = .ok (.agg #[x0, x1, x2, x3]) w := by
 simp [go_sem, World.cell?, h]
theorem Qfj {x k : Int} (hk : 0 < k) : -k < x.tmod k /\ x.tmod k < k := by
 have h1 : (x.tmod k).natAbs = x.natAbs % k.natAbs := Int.natAbs_tmod x k;have h2 : x.natAbs % k.natAbs < k.natAbs := Nat.mod_lt _ (by omega);omega
theorem Qdl (x y m : Int) (w : World) (h1 : -128 <= x) (h2 : x <= 127) (h3 : -32768 <= y) (h4 : y <= 32767) :
  Calls Tryz.prog 13 #[.agg #[.int .i8 x, .int .i16 y, .int .u8 m]] w fun e' w' => ∃ v a b, e' = .returned v /\ Qx w' v a b /\ Qgs a b /\ Below w.heap.size w w' := by
 obtain ⟨a, ha⟩ : ∃ a, x.tmod 21 = a := ⟨_, rfl⟩;obtain ⟨b, hb⟩ : ∃ b, y.tmod 81 = b := ⟨_, rfl⟩;have ha1 := Qfj (x := x) (k := 21) (by decide);have hb1 := Qfj (x := y) (k := 81) (by decide);rw [ha] at ha1;rw [hb] at hb1;obtain ⟨ha2, ha3⟩ := ha1;obtain ⟨hb2, hb3⟩ := hb1;have e1 : IntKind.i8.wrap a = a := by simp [IntKind.wrap, IntKind.bits, IntKind.signed]; omega
 have e2 : IntKind.i16.wrap b = b := by simp [IntKind.wrap, IntKind.bits, IntKind.signed]; omega
 have e3 : IntKind.i64.wrap a = a := by rw [IntKind.wrap_i64]; omega
 have e4 : IntKind.i64.wrap b = b := by rw [IntKind.wrap_i64]; omega
 have b0 := Qa w (.cells #[.int .i8 x, .int .i16 y, .int .u8 m] 25);have b1 := Qa (w.alloc (.cells #[.int .i8 x, .int .i16 y, .int .u8 m] 25)) (.cells #[.bool false, .slice none 0 0, .bool false, .slice none 0 0] 35);have d0 := heap_alloc_new w (.cells #[.int .i8 x, .int .i16 y, .int .u8 m] 25);have d1 := heap_alloc_new (w.alloc (.cells #[.int .i8 x, .int .i16 y, .int .u8 m] 25)) (.cells #[.bool false, .slice none 0 0, .bool false, .slice none 0 0] 35);rw [show (w.alloc (.cells #[.int .i8 x, .int .i16 y, .int .u8 m] 25)).heap.size = w.heap.size + 1 by simp only [World.size_alloc]] at d1;replace d0 := (Kp.blk _ _).up d0 b1;have HB := Qh (Bl.up b0 b1);have HZ := Qh d1;go_enter Tryz.func13, Tryz.ntmps13
 go_upto_region 1 with fail;generalize (w.alloc (.cells #[.int .i8 x, .int .i16 y, .int .u8 m] 25)).alloc (.cells #[.bool false, .slice none 0 0, .bool false, .slice none 0 0] 35) = W at *;have hS0 : W.cell? ⟨w.heap.size, 0, none⟩ = some (.int .i8 x) /\ W.cell? ⟨w.heap.size, 1, none⟩ = some (.int .i16 y) := by constructor <;> simp [World.cell?, d0]
 refine Qc (by kernel_rfl) [] (S := fun w' => w'.cell? ⟨w.heap.size, 0, none⟩ = some (.int .i8 x) /\ w'.cell? ⟨w.heap.size, 1, none⟩ = some (.int .i16 y)) hS0 (fun hHeld => ?_);clear hS0 d0 d1 b0 b1;replace HB := Qh (Bl.drew HB.out);replace HZ := Qh ((Kp.blk _ _).dr HZ.out);generalize W.drew = w1 at *;(refine kL 0 rfl ?_; refine kL 1 rfl ?_; refine kL 2 rfl ?_; refine kL 3 rfl ?_; refine kL 4 rfl ?_; refine kL 5 rfl ?_; refine kL 6 rfl ?_; refine kL 7 rfl ?_; refine kL 8 rfl ?_; refine kL 9 rfl ?_)
 refine dT ?_;clear hHeld ha hb e1 e2 e3 e4;go_wp2_with fail
 go_loopw [4] (fun s4 wr => ∃ c : Int, s4 = .int .i64 c /\ -80 <= c /\ c <= 101 /\ wr = w1)
  (fun s4 _ => (200 - intOf s4).toNat)
 case atStart => exact ⟨b, rfl, by omega, by omega, rfl⟩
 case round =>
  obtain ⟨c, rfl, hc1, hc2, rfl⟩ := hrel
  have q1 : a * a <= 400 := by
   have h5 : a.natAbs * a.natAbs <= 20 * 20 := Nat.mul_le_mul (by omega) (by omega);rw [<- Int.natAbs_mul] at h5;omega
  have q0 : 0 <= a * a := by
   exact JX a
  obtain ⟨q, hq⟩ : ∃ q, a * a = q := ⟨_, rfl⟩;rw [hq] at q0 q1;have e1 : IntKind.i64.wrap q = q := by rw [IntKind.wrap_i64]; omega
  have e2 : IntKind.i64.wrap (4 * c) = 4 * c := by rw [IntKind.wrap_i64]; omega
  have e3 : IntKind.i64.wrap (c + 1) = c + 1 := by rw [IntKind.wrap_i64]; omega
  by_cases h0 : c = 0
  ·subst h0;go_wp2_with fail;refine ⟨⟨1, by go_num, by omega, by omega, by first | rfl | trivial⟩, by simp [intOf]⟩
  ·have c0 : (c == 0) = false := by rw [beq_eq_false_iff_ne]; exact h0
   by_cases h4 : q = 4 * c
   ·have c1 : (q == 4 * c) = true := by rw [beq_iff_eq]; exact h4
    have hcl : c <= 100 := by omega
    clear h0 h4;go_wp2_with fail;refine ⟨⟨c + 1, by go_num, by omega, by omega, by first | rfl | trivial⟩, by simp [intOf]; omega⟩
   ·have c1 : (q == 4 * c) = false := by rw [beq_eq_false_iff_ne]; exact h4
    have HCR := Qh (show Qgs a c from ⟨by omega, by omega, hc1, hc2, h0, by rw [hq]; exact h4⟩);clear h0 h4;go_wp2_with fail;refine (Qp a wr (by omega) (by omega)).mono ?_;rintro e w2 ⟨v, rfl, hv, hb2⟩;obtain ⟨s1, a1, n1, k1, rfl⟩ := hv.shape;have H1 := Qh hv;replace HB := Qh (Bl.up HB.out hb2);replace HZ := Qh ((Kp.blk _ _).up HZ.out hb2);clear hv hb2;go_wp2_with fail;refine (Qp c w2 (by omega) (by omega)).mono ?_;rintro e w3 ⟨v, rfl, hv, hb2⟩;obtain ⟨s2, a2, n2, k2, rfl⟩ := hv.shape;replace H1 := Qh (H1.out.up hb2);have H2 := Qh hv;replace HB := Qh (Bl.up HB.out hb2);replace HZ := Qh ((Kp.blk _ _).up HZ.out hb2);clear hv hb2;obtain ⟨z0, z1, z2, z3⟩ := QM HZ.out;obtain ⟨y0, y1, y2, y3⟩ := Qaw HZ.out;go_wp2_with fail;have hh := Qcu HZ.out (.bool s1) (.slice a1 n1 k1) (.bool s2) (.slice a2 n2 k2);have hbt := Qit w3 (w.heap.size + 1) (.bool s1) (.slice a1 n1 k1) (.bool s2) (.slice a2 n2 k2);have hnw := nw4 HZ.out;exact Qco (B := w.heap.size + 1) rfl rfl rfl (QjW _ _ _ _ _ _ _ _ hh) ⟨_, a, c, rfl, ⟨_, _, _, _, _, _, _, _, rfl, H1.out.fr hbt hnw, H2.out.fr hbt hnw⟩, HCR.out, ButS.below HB.out hbt HB.out.size (fun g e => by omega)⟩
theorem FrZ.eqs {n f : Int} (h : FrZ n f) : Eqs n f := by
 obtain ⟨⟨h1, h2, k, hk, e⟩, h3, h4⟩ := h
 have hn : n ≠ 0 := fun e0 => by
  subst e0;have := Nat.mul_pos (show 0 < f.natAbs by omega) (Nat.mul_pos (show 0 < k by omega) (show 0 < k by omega));rw [<- e] at this;exact absurd this (by decide)
 refine ⟨1, (k : Int), by decide, by omega, ?_⟩;have e2 : (n.natAbs : Int) = (f.natAbs : Int) * ((k : Int) * k) := by rw [e]; simp
 rcases Int.lt_or_gt_of_ne hn with h5 | h5
 ·have h6 : f < 0 := by omega
  have e3 : n = -(n.natAbs : Int) := by omega
  have e4 : f = -(f.natAbs : Int) := by omega
  rw [Int.mul_one, Int.mul_one, e3, e4, e2];simp [Int.neg_mul]
 ·have h6 : 0 < f := h3.1 h5;have e3 : n = (n.natAbs : Int) := by omega
  have e4 : f = (f.natAbs : Int) := by omega
  rw [Int.mul_one, Int.mul_one, e3, e4, e2]
theorem Qke {a b z : Int} (h : Spc a b z) (hz : z ≠ 0) (hb : b ≠ 0) {ps : List Nat} (hp : ∀ p ∈ ps, Pri p /\ p <= 4096) : z ∣ b /\ ¬ ObB z a (b / z) ps := by
 obtain ⟨c, m, e, n, hc, hg, h4⟩ := h;have hd : b / z = c := by rw [hc]; exact Int.mul_ediv_cancel_left c hz
 have hc0 : c ≠ 0 := fun e => hb (by rw [hc, e, Int.mul_zero]);refine ⟨⟨c, hc⟩, ?_⟩;rw [hd];rintro (h | ⟨p, hpm, k, hk1, hk2, hk3⟩)
 ·have := J6 (B1 := z) (A := a) (B2 := c) (m := m) (e := e) (n := n) (by
   rintro ⟨rfl, rfl⟩;exact absurd hg (by decide)) hz hc0 h4
  rw [h] at this; cases this
 ·have := QcD (hp p hpm).1 hk1 hg h4;rw [hk3] at this; cases this
theorem gdP.im {a b c : Int} {m e n : Nat} (h : gdP c a (b / c) m e n) (hc : c ≠ 0) (hd : c ∣ b) (hb : b ≠ 0) : Im a b c := by
 obtain ⟨h1, -, h3⟩ := h;exact Spc.im hb hc ⟨b / c, m, e, n, (Int.mul_ediv_cancel' hd).symm, h1, h3.symm⟩
theorem Qd8 {a b : Int} {ps : List Nat} {C Z N : List Int} (hb : b ≠ 0) (hC : Cand b.natAbs C) (hp : ∀ p ∈ ps, Pri p /\ p <= 4096) (hZ : ∀ z ∈ Z, Im a b z) (hne : Z.Pairwise fun x y => ¬ Eqs x y) (hN : N.Nodup) (hNC : ∀ c ∈ N, c ∈ C /\ ObB c a (b / c) ps) :
  Z.length + N.length <= C.length := by
 have hrep : ∀ z, ∃ f, Im a b z -> FrZ z f := fun z => by
  by_cases h : Im a b z
  ·obtain ⟨f, hf⟩ := Qgm h.1;exact ⟨f, fun _ => hf⟩
  ·exact ⟨0, fun h' => absurd h' h⟩
 obtain ⟨rep, hrep⟩ := Classical.axiomOfChoice hrep;have hf : ∀ z ∈ Z, FrZ z (rep z) := fun z hz => hrep z (hZ z hz);have him : ∀ z ∈ Z, Im a b (rep z) := fun z hz => (hZ z hz).eqs (hf z hz).eqs.symm (hf z hz).2.2;have hsp : ∀ z ∈ Z, rep z ∣ b /\ ¬ ObB (rep z) a (b / rep z) ps := fun z hz => Qke ((him z hz).spc hb (hf z hz).1.1) (hf z hz).2.2 hb hp;have hm : ∀ z ∈ Z, rep z ∈ C := fun z hz => (hC.2 _).2 ⟨by have := (hf z hz).2.2; omega, (hf z hz).1.1, Int.natAbs_dvd_natAbs.2 (hsp z hz).1⟩
 have hnd : (Z.map rep ++ N).Nodup := by
  refine List.nodup_append.2 ⟨?_, hN, ?_⟩
  ·refine List.pairwise_map.2 (List.Pairwise.imp_of_mem ?_ hne);intro x y hx hy h e;exact h ((hf x hx).eqs.trans (e ▸ (hf y hy).eqs.symm))
  ·intro x hx y hy e;subst e;obtain ⟨z, hz, rfl⟩ := List.mem_map.1 hx;exact (hsp z hz).2 (hNC _ hy).2
 have := Qad hnd (m := C) (fun x hx => by
  rcases List.mem_append.1 hx with hx | hx
  ·obtain ⟨z, hz, rfl⟩ := List.mem_map.1 hx;exact hm z hz
  ·exact (hNC x hx).1)
 rwa [List.length_append, List.length_map] at this
theorem JA {m n : Nat} (h : m <= n) : Nat.log2 m <= Nat.log2 n := by
 by_cases e : m = 0
 ·subst e; exact Nat.zero_le _
 ·exact (Nat.le_log2 (by omega)).2 (Qt (Nat.log2_self_le e) h)
theorem Qjx {x : Int} (h : Sq0 x) : rkM x 1 = x := Jv h ⟨by decide, SqF.one⟩ h (by rw [Int.mul_one]; exact Eqs.refl x)
theorem Qgx {n : Nat} {C : List Int} (hC : Cand n C) : ∀ (l g : List Int), Grp C g -> (∀ x ∈ l, x ∈ C) -> ∀ x, x ∈ g \/ x ∈ l -> x ∈ l.foldl rkS g
 | [], g, _, _, x, h => by
   rcases h with h | h
   ·exact h
   ·cases h
 | y :: l, g, hg, hl, x, h => by
   have hy := hl y List.mem_cons_self;refine Qgx hC l _ (QfL hC hg hy) (fun z hz => hl z (List.mem_cons_of_mem _ hz)) x ?_;rcases h with h | h
   ·left
    unfold rkS;split
    ·exact h
    ·exact List.mem_append_left _ h
   ·rcases List.mem_cons.1 h with rfl | h
    ·left
     unfold rkS;split
     ·assumption
     ·exact List.mem_append_right _ (List.mem_map.2 ⟨1, hg.one, Qjx (Ym hC hy)⟩)
    ·exact .inr h
theorem Qgw {n : Nat} {C l l' : List Int} (hC : Cand n C) (hl : ∀ x ∈ l, x ∈ C) (hs : ∀ x ∈ l', x ∈ l) : rkF l' <= rkF l := by
 have hG := JL hC hl;have hG' := JL (l := l') hC (fun x hx => hl x (hs x hx))
 have h1 := QcM (Q := fun x => x ∈ rkG l) hG.one (fun x y hx hy => hG.mul x hx y hy) l' [1] (fun x hx => by rw [List.mem_singleton] at hx; rw [hx]; exact hG.one)
  (fun x hx => Qgx hC l [1] (Grp.start hC) hl x (.inr (hs x hx)))
 exact JA (Qad hG'.nd h1)
theorem Qi2 {a b f : Int} {ps : List Nat} {C N : List Int} {l : List Int} (hb : b ≠ 0) (hC : Cand b.natAbs C) (hp : ∀ p ∈ ps, Pri p /\ p <= 4096) (hf : FrZ b f) (hl : ∀ c ∈ l, c ∈ C /\ Im a b c) (hN : N.Nodup) (hNC : ∀ c ∈ N, c ∈ C /\ ObB c a (b / c) ps) :
  rkF (f :: l) <= Nat.log2 (C.length - N.length) := by
 have hsub : ∀ x ∈ f :: l, x ∈ C := fun x hx => by
  rcases List.mem_cons.1 hx with rfl | hx
  ·exact hf.mem hC
  ·exact (hl x hx).1
 have hG := JL hC hsub
 have him := QcM (Q := fun x => Sq0 x /\ Im a b x) ⟨⟨by decide, SqF.one⟩, Im.one a b⟩ (fun x y hx hy => by
  obtain ⟨h1, h2⟩ := QaC hx.1 hy.1;exact ⟨h1, (Im.mul hb hx.2 hy.2).eqs h2 h1.1⟩) (f :: l) [1] (fun x hx => by rw [List.mem_singleton] at hx; rw [hx]; exact ⟨⟨by decide, SqF.one⟩, Im.one a b⟩)
  (fun x hx => by
   refine ⟨Ym hC (hsub x hx), ?_⟩;rcases List.mem_cons.1 hx with rfl | hx
   ·exact (Im.tor hb).eqs hf.eqs.symm hf.2.2
   ·exact (hl x hx).2)
 have h1 := Qd8 hb hC hp (fun z hz => (him z hz).2) (List.Pairwise.imp_of_mem (fun {x y} hx hy hne he => hne (he.uniq (him x hx).1.2 (him y hy).1.2 (him x hx).1.1 (him y hy).1.1)) hG.nd) hN hNC;refine JA ?_;show (rkG (f :: l)).length <= _
 have h2 : (List.foldl rkS [1] (f :: l)).length = (rkG (f :: l)).length := rfl;omega
end Go.Proofs.YteidokhjmbihlaaGreat
