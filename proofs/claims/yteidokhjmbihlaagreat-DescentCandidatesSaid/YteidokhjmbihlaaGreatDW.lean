/-
  law29.DescentCandidates: the walk.
-/
import Derived.Test.YteidokhjmbihlaaGreatDC
import Derived.Test.YteidokhjmbihlaaGreatDV
import Derived.Test.YteidokhjmbihlaaGreatDT3
import Derived.Test.YteidokhjmbihlaaGreatDS
set_option linter.unusedSimpArgs false
set_option linter.unusedVariables false
set_option maxRecDepth 100000
set_option maxHeartbeats 8000000
namespace Go.Proofs.YteidokhjmbihlaaGreat
open Go.RowKit
structure FlS (Y : Nat -> Value -> World -> Prop) (X : Value -> World -> Prop) (cd : Value) (q : Nat) (W0 : World) (b : Nat -> Bool) (x : Nat -> Value) (W : World) : Prop where
 bl : Below W0.heap.size W0 W
 pre : ∀ i, i < q -> b i = true -> Y i (x i) W
 tq : ∀ i, i = q \/ i = q + 1 -> b i = true -> ∃ u, x i = .tuple #[u, cd] /\ X u W
 e0 : b (q + 2) = true -> X (x (q + 2)) W
 e1 : b (q + 3) = true -> x (q + 3) = cd
 vr : b (q + 4) = true -> ∃ B c0 c1 c2 c3 c4 c5, x (q + 4) = .pointer (some ⟨B, 0, none⟩) /\ W0.heap.size <= B /\ W.heap[B]? = some (.cells #[c0, c1, c2, c3, c4, c5] 53 (0, 0)) /\ NoW W B /\ (b (q + 5) = true -> x (q + 2) = .agg #[c0, c1, c2, c3, c4, c5])
 so : b (q + 5) = true -> b (q + 4) = true /\ b (q + 2) = true
section
variable {Y : Nat -> Value -> World -> Prop} {X : Value -> World -> Prop} {cd : Value} {q : Nat} {W0 W W' : World} {b : Nat -> Bool} {x : Nat -> Value}
theorem FlS.start (Y : Nat -> Value -> World -> Prop) (X : Value -> World -> Prop) (cd : Value) (q : Nat) (W0 : World) (x : Nat -> Value) : FlS Y X cd q W0 (fun _ => false) x W0 :=
 ⟨Below.refl _ _, (fun _ _ h => nomatch h), (fun _ _ h => nomatch h), (fun h => nomatch h), (fun h => nomatch h), (fun h => nomatch h), fun h => nomatch h⟩
theorem FlS.put (h : FlS Y X cd q W0 b x W) (hY : ∀ i v, Kp (Y i v)) (hX : ∀ v, Kp (X v)) {i : Nat} (hi : i < q + 4) (hb0 : b (q + 5) = true -> i ≠ q + 2) {v : Value} (hb : Below W.heap.size W W') (h0 : i < q -> Y i v W') (h1 : i = q \/ i = q + 1 -> ∃ u, v = .tuple #[u, cd] /\ X u W') (h2 : i = q + 2 -> X v W') (h3 : i = q + 3 -> v = cd) :
  FlS Y X cd q W0 (QC b i true) (QC x i v) W' := by
 refine ⟨h.bl.trans (hb.mono h.bl.size), fun k hk hbk => ?_, fun k hk hbk => ?_, fun hbk => ?_, fun hbk => ?_, fun hbk => ?_, fun hbk => ?_⟩
 ·by_cases e : k = i
  ·subst e; rw [Qe]; exact h0 hk
  ·rw [Qd _ _ e] at hbk |-; exact (hY _ _).up (h.pre k hk hbk) hb
 ·by_cases e : k = i
  ·subst e; rw [Qe]; exact h1 hk
  ·rw [Qd _ _ e] at hbk |-;obtain ⟨u, k1, k2⟩ := h.tq k hk hbk;exact ⟨u, k1, (hX u).up k2 hb⟩
 ·by_cases e : q + 2 = i
  ·rw [e, Qe]; exact h2 e.symm
  ·rw [Qd _ _ e] at hbk |-; exact (hX _).up (h.e0 hbk) hb
 ·by_cases e : q + 3 = i
  ·rw [e, Qe]; exact h3 e.symm
  ·rw [Qd _ _ e] at hbk |-; exact h.e1 hbk
 ·rw [Qd _ _ (show q + 4 ≠ i by omega)] at hbk |-;obtain ⟨B, c0, c1, c2, c3, c4, c5, k1, k2, k3, k4, k5⟩ := h.vr hbk;refine ⟨B, c0, c1, c2, c3, c4, c5, k1, k2, (Kp.blk _ _).up k3 hb, k4.fr (ButS.of hb (fun _ => False)) (Ql k3).1 (fun h => h), fun e => ?_⟩;rw [Qd _ _ (show q + 5 ≠ i by omega)] at e;rw [Qd _ _ (Ne.symm (hb0 e))];exact k5 e
 ·rw [Qd _ _ (show q + 5 ≠ i by omega)] at hbk;obtain ⟨k1, k2⟩ := h.so hbk;refine ⟨by rw [Qd _ _ (show q + 4 ≠ i by omega)]; exact k1, ?_⟩;rw [Qd _ _ (Ne.symm (hb0 hbk))];exact k2
theorem FlS.var (h : FlS Y X cd q W0 b x W) (hY : ∀ i v, Kp (Y i v)) (hX : ∀ v, Kp (X v)) (h4 : b (q + 4) = false) :
  FlS Y X cd q W0 (QC b (q + 4) true) (QC x (q + 4) (.pointer (some ⟨W.heap.size, 0, none⟩))) (W.alloc (.cells #[.bool false, .slice none 0 0, .bool false, .slice none 0 0, .bool false, .slice none 0 0] 53)) := by
 have hb := Qa W (.cells #[.bool false, .slice none 0 0, .bool false, .slice none 0 0, .bool false, .slice none 0 0] 53)
 have h5 : b (q + 5) = false := by
  cases e : b (q + 5) with
  | false => rfl
  | true => have := (h.so e).1; rw [h4] at this; cases this
 refine ⟨h.bl.trans (hb.mono h.bl.size), fun k hk hbk => ?_, fun k hk hbk => ?_, fun hbk => ?_, fun hbk => ?_, fun hbk => ?_, fun hbk => ?_⟩
 ·rw [Qd _ _ (show k ≠ q + 4 by omega)] at hbk |-; exact (hY _ _).up (h.pre k hk hbk) hb
 ·rw [Qd _ _ (show k ≠ q + 4 by omega)] at hbk |-;obtain ⟨u, k1, k2⟩ := h.tq k hk hbk;exact ⟨u, k1, (hX u).up k2 hb⟩
 ·rw [Qd _ _ (show q + 2 ≠ q + 4 by omega)] at hbk |-; exact (hX _).up (h.e0 hbk) hb
 ·rw [Qd _ _ (show q + 3 ≠ q + 4 by omega)] at hbk |-; exact h.e1 hbk
 ·rw [Qe];refine ⟨_, _, _, _, _, _, _, rfl, h.bl.size, heap_alloc_new _ _, NoW.new _ _ _ (by decide), fun e => ?_⟩;rw [Qd _ _ (show q + 5 ≠ q + 4 by omega), h5] at e
  cases e
 ·rw [Qd _ _ (show q + 5 ≠ q + 4 by omega), h5] at hbk
  cases hbk
theorem FlS.sto (h : FlS Y X cd q W0 b x W) (hS : ∀ v w, X v w -> ∃ s1 a1 n1 k1 s2 a2 n2 k2 s3 a3 n3 k3, v = .agg #[.bool s1, .slice a1 n1 k1, .bool s2, .slice a2 n2 k2, .bool s3, .slice a3 n3 k3]) (h4 : b (q + 4) = true) (h2 : b (q + 2) = true) :
  ∃ p : Nat × (Bool × Option Addr × Nat × Nat) × (Bool × Option Addr × Nat × Nat) × (Bool × Option Addr × Nat × Nat) × Value × Value × Value × Value × Value × Value, x (q + 4) = .pointer (some ⟨p.1, 0, none⟩) /\ x (q + 2) = .agg #[.bool p.2.1.1, .slice p.2.1.2.1 p.2.1.2.2.1 p.2.1.2.2.2, .bool p.2.2.1.1, .slice p.2.2.1.2.1 p.2.2.1.2.2.1 p.2.2.1.2.2.2, .bool p.2.2.2.1.1, .slice p.2.2.2.1.2.1 p.2.2.2.1.2.2.1 p.2.2.2.1.2.2.2] /\
   W.heap[p.1]? = some (.cells #[p.2.2.2.2.1, p.2.2.2.2.2.1, p.2.2.2.2.2.2.1, p.2.2.2.2.2.2.2.1, p.2.2.2.2.2.2.2.2.1, p.2.2.2.2.2.2.2.2.2] 53 (0, 0)) := by
 obtain ⟨B, c0, c1, c2, c3, c4, c5, k1, k2, k3, k4, k5⟩ := h.vr h4;obtain ⟨s1, a1, n1, g1, s2, a2, n2, g2, s3, a3, n3, g3, e⟩ := hS _ _ (h.e0 h2);exact ⟨(B, (s1, a1, n1, g1), (s2, a2, n2, g2), (s3, a3, n3, g3), c0, c1, c2, c3, c4, c5), k1, e, k3⟩
theorem FlS.st (h : FlS Y X cd q W0 b x W) (hY : ∀ i v, Kq (fun _ => False) (Y i v)) (hX : ∀ v, Kq (fun _ => False) (X v)) (h4 : b (q + 4) = true) (h2 : b (q + 2) = true) {B : Nat} {s1 s2 s3 : Bool} {a1 a2 a3 : Option Addr} {n1 n2 n3 k1 k2 k3 : Nat} (e4 : x (q + 4) = .pointer (some ⟨B, 0, none⟩)) (e2 : x (q + 2) = .agg #[.bool s1, .slice a1 n1 k1, .bool s2, .slice a2 n2 k2, .bool s3, .slice a3 n3 k3]) {d : Value} :
  FlS Y X cd q W0 (QC b (q + 5) true) (QC x (q + 5) d) (Qkx W B (.bool s1) (.slice a1 n1 k1) (.bool s2) (.slice a2 n2 k2) (.bool s3) (.slice a3 n3 k3)) := by
 obtain ⟨B', c0, c1, c2, c3, c4, c5, g1, g2, g3, g4, g5⟩ := h.vr h4;have eB : B' = B := by rw [e4] at g1; injection g1 with g1; injection g1 with g1; injection g1 with g1; exact g1.symm
 subst eB;have hbt := QjL W B' (.bool s1) (.slice a1 n1 k1) (.bool s2) (.slice a2 n2 k2) (.bool s3) (.slice a3 n3 k3);have hn : ∀ g, g = B' -> NoW W g := fun g e => by subst e; exact g4
 refine ⟨ButS.below h.bl hbt h.bl.size (fun g e => by omega), fun k hk hbk => ?_, fun k hk hbk => ?_, fun hbk => ?_, fun hbk => ?_, fun hbk => ?_, fun hbk => ?_⟩
 ·rw [Qd _ _ (show k ≠ q + 5 by omega)] at hbk |-; exact (hY _ _).fr (h.pre k hk hbk) hbt hn (fun _ h => h.elim)
 ·rw [Qd _ _ (show k ≠ q + 5 by omega)] at hbk |-;obtain ⟨u, m1, m2⟩ := h.tq k hk hbk;exact ⟨u, m1, (hX u).fr m2 hbt hn (fun _ h => h.elim)⟩
 ·rw [Qd _ _ (show q + 2 ≠ q + 5 by omega)] at hbk |-; exact (hX _).fr (h.e0 hbk) hbt hn (fun _ h => h.elim)
 ·rw [Qd _ _ (show q + 3 ≠ q + 5 by omega)] at hbk |-; exact h.e1 hbk
 ·rw [Qd _ _ (show q + 4 ≠ q + 5 by omega), Qd _ _ (show q + 2 ≠ q + 5 by omega)];have hh := Qgs g3 (.bool s1) (.slice a1 n1 k1) (.bool s2) (.slice a2 n2 k2) (.bool s3) (.slice a3 n3 k3);exact ⟨B', _, _, _, _, _, _, e4, g2, hh, nw6 hh _ rfl, fun _ => e2⟩
 ·rw [Qd _ _ (show q + 4 ≠ q + 5 by omega), Qd _ _ (show q + 2 ≠ q + 5 by omega)];exact ⟨h4, h2⟩
theorem FlS.out (h : FlS Y X cd q W0 b x W) (h0 : b q = true) (h1 : b (q + 1) = true) (h2 : b (q + 2) = true) (h3 : b (q + 3) = true) (h4 : b (q + 4) = true) (h5 : b (q + 5) = true) :
  ∃ t u B c0 c1 c2 c3 c4 c5, x q = t /\ x (q + 1) = u /\ x (q + 2) = .agg #[c0, c1, c2, c3, c4, c5] /\ X (.agg #[c0, c1, c2, c3, c4, c5]) W /\ x (q + 3) = cd /\ x (q + 4) = .pointer (some ⟨B, 0, none⟩) /\ W.heap[B]? = some (.cells #[c0, c1, c2, c3, c4, c5] 53 (0, 0)) /\ Below W0.heap.size W0 W := by
 obtain ⟨B, c0, c1, c2, c3, c4, c5, k1, k2, k3, k4, k5⟩ := h.vr h4;have e := k5 h5;exact ⟨_, _, B, c0, c1, c2, c3, c4, c5, rfl, rfl, e, e ▸ h.e0 h2, h.e1 h3, k1, k3, h.bl⟩
end
theorem QiO {m n : Nat} (h1 : 1 <= m) (h2 : SqF m) (h : ∀ q, Pri q -> q ∣ m -> q ∣ n) : m ∣ n := by
 have : ∀ (k m : Nat), m <= k -> 1 <= m -> SqF m -> (∀ q, Pri q -> q ∣ m -> q ∣ n) -> m ∣ n := by
  intro k;induction k with
  | zero => intro m h0 h1; omega
  | succ k ih =>
    intro m hmk hm1 hms hmq;by_cases e : m = 1
    ·subst e; exact Nat.one_dvd n
    ·obtain ⟨q, hq, x, rfl⟩ := QN (n := m) (by omega)
     have hx1 : 1 <= x := by
      rcases Nat.eq_zero_or_pos x with e | e
      ·subst e; omega
      ·exact e
     have hxl : x < q * x := by have := Nat.mul_le_mul_right x hq.1; omega
     have hx := ih x (by omega) hx1 (hms.of_dvd (Nat.dvd_mul_left x q)) (fun r hr hrd => hmq r hr (Nat.dvd_trans hrd (Nat.dvd_mul_left x q)));have hqx : ¬ q ∣ x := fun ⟨y, hy⟩ => hms q hq.1 ⟨y, by rw [hy]; ac_rfl⟩;exact Nat.Coprime.mul_dvd_of_dvd_of_dvd (hq.cop hqx) (hmq q hq (Nat.dvd_mul_right q x)) hx
 exact this _ _ (Nat.le_refl _) h1 h2 h
theorem QiX {N : Nat} {ps : List Nat} {C : List Int} (hN : 1 <= N) (hp : Prs N ps) (hC : Cand N C) : C.length = 2 * 2 ^ ps.length := by
 have hnd : C.Nodup := hC.1.imp (fun h e => by omega);have hP : ∀ p ∈ ps, Pri p := fun p h => ((hp.2 p).1 h).1
 have hmem : ∀ d, d ∈ C ↔ d ∈ glI 1 ps := fun d => by
  rw [hC.2 d, Qd9, Qbt hP hp.1];refine and_congr_right fun h1 => and_congr_right fun h2 => ⟨fun h3 q hq hqd => (hp.2 q).2 ⟨hq, Nat.dvd_trans hqd h3⟩, fun h3 => ?_⟩;exact QiO h1 h2 (fun q hq hqd => ((hp.2 q).1 (h3 q hq hqd)).2)
 have e1 := JC hnd (fun d hd => (hmem d).1 hd);have e2 := JC (Qd8 hP hp.1) (fun d hd => (hmem d).2 hd);rw [Qbg] at e1 e2;omega
attribute [local go_sem ↓] Go.wp_at_zero Go.wp_at_succ
theorem QjO {b : Int} {l : List Int} {c : Int} (h : CanTo b l c) (h0 : b ≠ 0) (hl : b.natAbs < 1099511627776) : Cand b.natAbs l /\ c = 0 := by
 rcases h with ⟨h, -⟩ | ⟨-, h, -⟩ | ⟨-, -, h1, h2⟩
 ·exact absurd h h0
 ·omega
 ·exact ⟨h1, h2⟩
theorem QiA {a b x u v t c : Int} {l : List Int} (h : SpcTo a b x u v t c) (hr : JU a b = 0) (hl : Cand b.natAbs l) : (x ∈ l /\ u = x /\ v = a /\ t = b / x /\ c = 0) \/ (x ∉ l /\ c = 1) := by
 rcases h with ⟨h, -⟩ | ⟨-, l', hl', ⟨h1, -, -, -, h2⟩ | ⟨h1, h2, h3, h4, h5⟩⟩
 ·exact absurd hr h
 ·have e := hl'.uniq hl;subst e;exact .inr ⟨h1, h2⟩
 ·have e := hl'.uniq hl;subst e;exact .inl ⟨h1, h2, h3, h4, h5⟩
theorem Qha {c : Int} (h : SqF c.natAbs) (h0 : c ≠ 0) : FrZ c c := ⟨Sqc.self h (by omega), Iff.rfl, h0⟩
theorem Qgw {l : List Int} {c n : Int} {j : Nat} (h : n ∉ l.take j) (e : l.take (j + 1) = l.take j ++ [c]) : JG c n = decide (n ∈ l.take (j + 1)) := by
 rw [Bool.eq_iff_iff, YZ, decide_eq_true_iff, e, List.mem_append, List.mem_singleton];exact ⟨fun e => .inr e.symm, fun e => e.elim (fun h' => absurd h' h) Eq.symm⟩
theorem Qja {l : List Int} {c n : Int} {j : Nat} (h : n ∈ l.take j) (e : l.take (j + 1) = l.take j ++ [c]) : true = decide (n ∈ l.take (j + 1)) := by
 rw [decide_eq_true (by rw [e]; exact List.mem_append_left _ h)]
def SpS (v : Value) : Prop := ∃ s1 a1 n1 k1 s2 a2 n2 k2 s3 a3 n3 k3, v = .agg #[.bool s1, .slice a1 n1 k1, .bool s2, .slice a2 n2 k2, .bool s3, .slice a3 n3 k3]
theorem sps {w : World} {v : Value} {a b c : Int} (h : Sx w v a b c) : SpS v := by
 obtain ⟨s1, a1, n1, k1, s2, a2, n2, k2, s3, a3, n3, k3, e, -⟩ := h;exact ⟨s1, a1, n1, k1, s2, a2, n2, k2, s3, a3, n3, k3, e⟩
theorem QkL {l : List Int} (h : l.Pairwise (· < ·)) {j : Nat} (hj : j < l.length) (h0 : 0 < j) : l.getD (j - 1) 0 < l.getD j 0 := by
 have := List.pairwise_iff_getElem.1 h (j - 1) j (by omega) hj (by omega);rwa [List.getD_eq_getElem?_getD, List.getElem?_eq_getElem (show j - 1 < l.length by omega), List.getD_eq_getElem?_getD, List.getElem?_eq_getElem hj]
theorem Qe6 (x y m n : Int) (w : World) (h1 : -128 <= x) (h2 : x <= 127) (h3 : -32768 <= y) (h4 : y <= 32767) (hn1 : -32768 <= n) (hn2 : n <= 32767) :
  Calls Tryz.prog 5 #[.agg #[.int .i8 x, .int .i16 y, .int .u8 m], .int .i16 n] w fun e' w' => e' = .returned (.bool true) /\ Below w.heap.size w w' := by
 have hwn : IntKind.i64.wrap n = n := by rw [IntKind.wrap_i64]; omega
 have HB := Qh (Qa w (.cells #[.int .i8 x, .int .i16 y, .int .u8 m] 25));have HRW := Qh (heap_alloc_new w (.cells #[.int .i8 x, .int .i16 y, .int .u8 m] 25));go_enter Tryz.func5, Tryz.ntmps5
 go_upto_region 1 with fail;generalize w.alloc (.cells #[.int .i8 x, .int .i16 y, .int .u8 m] 25) = W at *;go_wp2_with fail;refine (QiZ W).mono ?_;rintro e w1 ⟨rfl, hb⟩;replace HB := Qh (Bl.up HB.out hb);replace HRW := Qh ((Kp.blk _ _).up HRW.out hb);clear hb;obtain ⟨p0, p1, p2, -⟩ := Qkl HRW.out;go_wp2_with fail;refine (Qdp x y m w1 h1 h2 h3 h4).mono ?_;rintro e w2 ⟨v, a, b, rfl, hq, hcr, hb⟩;obtain ⟨sa, aa, na, ka, sb, ab, nb, kb, rfl, hA, hB⟩ := hq;replace HB := Qh (Bl.up HB.out hb);have HCR := Qh hcr;clear hb p0 p1 p2 HRW hcr;go_upto_region 5 with fail;have bn := Qa w2 (.cells #[.bool sa, .slice aa na ka, .bool sb, .slice ab nb kb] 35);replace HB := Qh (Bl.up HB.out bn);have HPB := Qh (heap_alloc_new w2 (.cells #[.bool sa, .slice aa na ka, .bool sb, .slice ab nb kb] 35));have HA := Qh (hA.up bn);have HBB := Qh (hB.up bn);obtain ⟨BP, hBP⟩ : ∃ B, w2.heap.size = B := ⟨_, rfl⟩;rw [hBP] at HPB |-;clear bn hA hB hBP;generalize w2.alloc (.cells #[.bool sa, .slice aa na ka, .bool sb, .slice ab nb kb] 35) = w3 at *;obtain ⟨p0, p1, p2, p3⟩ := QI HPB.out;obtain ⟨hr0, hsa, hsb⟩ := Qc2 HCR.out;obtain ⟨hb0, -, hbl, -⟩ := Yk hr0;have HR0 := Qh hr0;clear hr0;go_wp2_with fail;refine (Qcs _ b w3 HBB.out (by omega)).mono ?_;rintro e w4 ⟨v, l, code, rfl, hl, hc, hb⟩;obtain ⟨hC, rfl⟩ := QjO hc hb0 hbl;obtain ⟨aL, cL, rfl, -⟩ := id hl;have kF : Kp fun w' => w'.heap[BP]? = some (.cells #[.bool sa, .slice aa na ka, .bool sb, .slice ab nb kb] 35) /\ It w' (.agg #[.bool sa, .slice aa na ka]) a /\ It w' (.agg #[.bool sb, .slice ab nb kb]) b /\ Sr eI w' (.slice aL l.length cL) l /\ Below w.heap.size w w' := kpf;have HF := Qh (And.intro ((Kp.blk _ _).up HPB.out hb) (And.intro (HA.out.up hb) (And.intro (HBB.out.up hb) (And.intro hl (Bl.up HB.out hb)))));have HCN := Qh hC;have hll := Jm hC (by omega) hbl;have HSZ := Qh (Yu (by omega) hbl (fun d hd => ((hC.2 d).1 hd).2.2));clear hb hl hc hC p0 p1 p2 p3 HPB HA HBB HB;go_wp2_with fail
 go_loopw [9, 10] (fun s9 s10 wr => ∃ (i : Nat), s9 = .int .i64 ((2 * 2 ^ i : Nat) : Int) /\ s10 = .int .i64 (i : Int) /\ Hid (2 * 2 ^ i <= l.length) /\ Hid (wr.heap[BP]? = some (.cells #[.bool sa, .slice aa na ka, .bool sb, .slice ab nb kb] 35) /\ It wr (.agg #[.bool sa, .slice aa na ka]) a /\ It wr (.agg #[.bool sb, .slice ab nb kb]) b /\ Sr eI wr (.slice aL l.length cL) l /\ Below w.heap.size w wr))
  (fun _ s10 _ => 100 - (intOf s10).toNat)
 case atStart => exact ⟨0, rfl, rfl, Qh (by have := HCN.out; have h5 : (1 : Int) ∈ l := (HCN.out.2 1).2 ⟨by decide, SqF.one, Nat.one_dvd _⟩; have h6 : (-1 : Int) ∈ l := (HCN.out.2 (-1)).2 ⟨by decide, SqF.one, Nat.one_dvd _⟩; exact JC (l := [1, -1]) (by decide) (fun x hx => by simp only [List.mem_cons, List.not_mem_nil, or_false] at hx; rcases hx with rfl | rfl; exact h5; exact h6)), HF⟩
 case round =>
  clear HF;obtain ⟨i, rfl, rfl, HI, HF⟩ := hrel
  have hi25 : i <= 25 := by
   rcases Nat.lt_or_ge 25 i with h | h
   ·have := Nat.pow_le_pow_right (show 0 < 2 by decide) h;have h8 := HI.out;have h9 : 2 ^ (25 + 1) = 67108864 := by decide
    omega
   ·exact h
  obtain ⟨p0, p1, p2, p3⟩ := QI HF.out.1;have hpi : 2 * 2 ^ i <= 67108864 := Qt HI.out hll;have HPS := Qh (show 2 * 2 ^ (i + 1) = 2 * 2 ^ i * 2 by rw [Nat.pow_succ, Nat.mul_assoc]);obtain ⟨q, hq⟩ : ∃ q, 2 * 2 ^ i = q := ⟨_, rfl⟩;rw [hq] at hpi HI HPS |-;have HQ := Qh hq;clear hq;go_wp2_with fail;refine (Qb1 _ b wr HF.out.2.2.1 hb0 hbl).mono ?_;rintro e w5 ⟨v, ps, rfl, hv, -, hps, hb⟩;have hlen := QiX (by omega) hps HCN.out;obtain ⟨aV, cV, rfl, -⟩ := id hv;replace HF := Qh (kF.up HF.out hb);have hzl := JW ps;obtain ⟨np, hnp⟩ : ∃ n, (zI ps).length = n := ⟨_, rfl⟩;rw [hnp] at hzl |-;have HLE := Qh (show l.length = 2 * 2 ^ np by rw [hzl]; exact hlen);clear hb hv hps hlen hzl hnp p0 p1 p2 p3;by_cases hlt : i < np
  ·have c0 : (i : Int) < (np : Int) := by omega
   have HIN := Qh (show 2 * 2 ^ (i + 1) <= l.length by rw [HLE.out]; exact Nat.mul_le_mul_left 2 (Nat.pow_le_pow_right (by decide) hlt));have hwq : IntKind.i64.wrap ((q : Int) * 2) = (q : Int) * 2 := by rw [IntKind.wrap_i64]; omega
   go_wp2_with fail;refine ⟨⟨i + 1, by rw [HPS.out]; simp, by go_num, HIN, HF⟩, by simp [intOf]; omega⟩
  ·have c0 : ¬ (i : Int) < (np : Int) := by omega
   have hqe : q = l.length := by
    have h5 := HI.out;have h6 := HLE.out;have h7 : 2 ^ np <= 2 ^ i := Nat.pow_le_pow_right (by decide) (by omega);rw [<- HQ.out] at h5 |-;omega
   have HQL := Qh hqe;clear HI HPS HQ HLE hqe;go_wp2_with fail;clear c0 hlt
   go_loopw [4, 11, 12, 13, 14] (fun _ s11 s12 _ _ wy => ∃ (j : Nat), s11 = .bool (decide (n ∈ l.take j)) /\ s12 = .int .i64 (j : Int) /\ j <= l.length /\ Hid (wy.heap[BP]? = some (.cells #[.bool sa, .slice aa na ka, .bool sb, .slice ab nb kb] 35) /\ It wy (.agg #[.bool sa, .slice aa na ka]) a /\ It wy (.agg #[.bool sb, .slice ab nb kb]) b /\ Sr eI wy (.slice aL l.length cL) l /\ Below w.heap.size w wy))
    (fun _ _ s12 _ _ _ => l.length - (intOf s12).toNat)
   case atStart => exact ⟨0, by simp, rfl, Nat.zero_le _, HF⟩
   case round =>
    clear HF;obtain ⟨j, rfl, rfl, hj, HF⟩ := hrel;by_cases hjl : j < l.length
    ·obtain ⟨k, hk⟩ : ∃ k, k = j - 1 := ⟨_, rfl⟩;have hkl : k < l.length := by omega
     have j0 : (0 : Int) <= (j : Int) := by omega
     have j1 : (j : Int) < (l.length : Int) := by omega
     have j2 : (k : Int) < (l.length : Int) := by omega
     have j3 : (0 : Int) <= (k : Int) := by omega
     obtain ⟨bL, ofL, rfl, -, hla⟩ := HF.out.2.2.2.1.at hjl;obtain ⟨sx, ax, nx, kx, p0, p1, hx⟩ := hla.int hjl;obtain ⟨sy, ay, ny, ky, q0, q1, hy⟩ := hla.int hkl;have hcC := Qy hjl 0;have hdC := Qy hkl 0;have HTK := Qh (QbW hjl 0);have HPW := Qh (fun h0 => QkL HCN.out.1 hjl h0);rw [<- hk] at HPW;obtain ⟨c, hc⟩ : ∃ c, l.getD j 0 = c := ⟨_, rfl⟩;obtain ⟨d, hd⟩ : ∃ d, l.getD k 0 = d := ⟨_, rfl⟩;rw [hc] at hx hcC HTK HPW;rw [hd] at hy hdC HPW;have hsc := HSZ.out c hcC;have hsd := HSZ.out d hdC;obtain ⟨hc0, hcd, -⟩ := QdR HCN.out hb0 hcC;have HCC := Qh hcC;obtain ⟨K0, hK0⟩ : ∃ K0 : World -> Prop, ∀ w', K0 w' ↔ (rc2 w' bL (ofL + j * 2) (.bool sx) (.slice ax nx kx) /\ rc2 w' bL (ofL + k * 2) (.bool sy) (.slice ay ny ky) /\ It w' (.agg #[.bool sx, .slice ax nx kx]) c /\ It w' (.agg #[.bool sy, .slice ay ny ky]) d) := ⟨_, fun _ => Iff.rfl⟩;have kK0 : Kp K0 := ⟨fun h hb => (hK0 _).2 (by obtain ⟨h1, h2, h3, h4⟩ := (hK0 _).1 h; exact ⟨(Kp.ck2 _ _ _ _).up h1 hb, (Kp.ck2 _ _ _ _).up h2 hb, h3.up hb, h4.up hb⟩)⟩;have HK0 := Qh hK0;have HE := Qh ((hK0 wr).2 ⟨⟨p0, p1⟩, ⟨q0, q1⟩, hx, hy⟩);have HKJ := Qh hk;have HCD := Qh hcd;have HBL := Qh hbl;have HLL := Qh hll;have HNN := Qh (And.intro hn1 hn2);clear hla hc hd hcC hdC hx hy p0 p1 q0 q1 hK0 hk hcd hbl hi25 hpi hn1 hn2 h1 h2 h3 h4 hsa hsb hkl hj hll hwn;have hsa := (Qc2 HCR.out).2.1;have hsb := (Qc2 HCR.out).2.2;go_upto_region 15 with fail;have hS0 : bc4 wr BP (.bool sa) (.slice aa na ka) (.bool sb) (.slice ab nb kb) /\ rc2 wr bL (ofL + j * 2) (.bool sx) (.slice ax nx kx) := ⟨QI HF.out.1, ((HK0.out _).1 HE.out).1⟩;refine Qc (by kernel_rfl) [] (S := fun w' => bc4 w' BP (.bool sa) (.slice aa na ka) (.bool sb) (.slice ab nb kb) /\ rc2 w' bL (ofL + j * 2) (.bool sx) (.slice ax nx kx)) hS0 (fun hHeld => ?_);have kS : Kp fun w' => bc4 w' BP (.bool sa) (.slice aa na ka) (.bool sb) (.slice ab nb kb) /\ rc2 w' bL (ofL + j * 2) (.bool sx) (.slice ax nx kx) := kpf;clear hS0;replace HF := Qh (kF.dr HF.out);replace HE := Qh (kK0.dr HE.out);generalize wr.drew = w6 at *;(refine tS 0 rfl ?_; refine tS 1 rfl ?_; refine tS 2 rfl ?_; refine tS 3 rfl ?_; refine tS 4 rfl ?_; refine tS 5 rfl ?_; refine tS 6 rfl ?_; refine tS 7 rfl ?_)
     have kX : ∀ v, Kp fun w' => Sx w' v c a (b / c) := fun v => Kp.sx _ _ _ _;have qX : ∀ v, Kq (fun _ => False) fun w' => Sx w' v c a (b / c) := fun v => Kq.sx _ _ _ _;have kY : ∀ (i : Nat) (v : Value), Kp fun _ => True := fun _ _ => Kp.no _;have qY : ∀ (i : Nat) (v : Value), Kq (fun _ => False) fun _ => True := fun _ _ => ⟨fun h _ _ _ => h⟩;refine QA [(8, some 53), (9, some 44), (10, some 54), (11, some 55), (12, some 13), (13, none)] 1 (FlS (fun _ _ _ => True) (fun v w' => Sx w' v c a (b / c)) (.int .i64 0) 8 w6) rfl (by kernel_rfl) (by decide) (by kernel_rfl) (by kernel_rfl) (by kernel_rfl) (fun bb xx wz h => kS.up hHeld h.bl) (fun xx => FlS.start _ _ _ _ _ _) ?_ ?_
     ·intro i hi;have hi' : i = 8 \/ i = 9 \/ i = 10 \/ i = 11 \/ i = 12 \/ i = 13 := by simpa using hi
      clear hi;rcases hi' with rfl | rfl | rfl | rfl | rfl | rfl
      ·refine ⟨_, rfl, fun bb xx wz hJ hbf hw K hK => ?_⟩;clear hbf hw;simp only [QG] at hK |-;go_simp;refine (JQ _ _ _ a b c wz (HF.out.2.1.up hJ.bl) (HF.out.2.2.1.up hJ.bl) (((HK0.out _).1 (kK0.up HE.out hJ.bl)).2.2.1) (by omega) (by omega) (by omega)).mono ?_;rintro e w8 ⟨v, u1, u2, u3, cd, rfl, hs, hp, hb⟩;rcases QiA hp HR0.out HCN.out with ⟨-, rfl, rfl, rfl, rfl⟩ | ⟨hn, -⟩
       ·exact hK.out _ _ (hJ.put kY kX (i := 8) (by decide) (fun _ => by decide) hb nzz (fun _ => ⟨_, rfl, hs⟩) nzz nzz)
       ·exact absurd HCC.out hn
      ·refine ⟨_, rfl, fun bb xx wz hJ hbf hw K hK => ?_⟩;have hv := hw 8 (by kernel_rfl);clear hbf hw;simp only [QG] at hK |-;go_simp;exact hK.out _ _ (hJ.put kY kX (i := 9) (by decide) (fun _ => by decide) (Below.refl _ _) nzz (fun _ => hJ.tq 8 (.inl rfl) hv) nzz nzz)
      ·refine ⟨_, rfl, fun bb xx wz hJ hbf hw K hK => ?_⟩;have hd := hJ.tq 9 (.inr rfl) (hw 9 (by kernel_rfl));have hh := Classical.choose_spec hd;generalize Classical.choose hd = u at hh;have hxu := hh.1;have HXQ := Qh hh.2;clear hw hh hd;simp only [QG, hxu] at hK |-;clear hxu;go_simp;exact hK.out _ _ (hJ.put kY kX (i := 10) (by decide) (fun e => by have h := (hJ.so e).2; rw [show bb (8 + 2) = false from hbf] at h; cases h) (Below.refl _ _) nzz nzz (fun _ => HXQ.out) nzz)
      ·refine ⟨_, rfl, fun bb xx wz hJ hbf hw K hK => ?_⟩;have hd := hJ.tq 9 (.inr rfl) (hw 9 (by kernel_rfl));have hh := Classical.choose_spec hd;generalize Classical.choose hd = u at hh;have hxu := hh.1;have HXQ := Qh hh.2;clear hw hh hd;simp only [QG, hxu] at hK |-;clear hxu;go_simp;exact hK.out _ _ (hJ.put kY kX (i := 11) (by decide) (fun _ => by decide) (Below.refl _ _) nzz nzz nzz (fun _ => rfl))
      ·refine ⟨_, rfl, fun bb xx wz hJ hbf hw K hK => ?_⟩;have HBF := Qh hbf;clear hbf hw;simp only [QG] at hK |-;go_simp;exact hK.out _ _ (hJ.var kY kX HBF.out)
      ·refine ⟨_, rfl, fun bb xx wz hJ hbf hw K hK => ?_⟩;have h4 := hw 12 (by kernel_rfl);have h2 := hw 10 (by kernel_rfl);have hd := hJ.sto (fun v w h => by obtain ⟨s1, a1, n1, k1, s2, a2, n2, k2, s3, a3, n3, k3, e, -⟩ := h; exact ⟨s1, a1, n1, k1, s2, a2, n2, k2, s3, a3, n3, k3, e⟩) h4 h2;have hh := Classical.choose_spec hd;generalize Classical.choose hd = p at hh;have e4 := hh.1;have e2 := hh.2.1;have hc := hh.2.2;have HE4 := Qh e4;have HE2 := Qh e2;have HH4 := Qh h4;have HH2 := Qh h2;have HJ := Qh hJ;have d0 := (QU hc).1;have d1 := (QU hc).2.1;have d2 := (QU hc).2.2.1;have d3 := (QU hc).2.2.2.1;have d4 := (QU hc).2.2.2.2.1;have d5 := (QU hc).2.2.2.2.2;have f0 := (Jd hc).1;have f1 := (Jd hc).2.1;have f2 := (Jd hc).2.2.1;have f3 := (Jd hc).2.2.2.1;have f4 := (Jd hc).2.2.2.2.1;have f5 := (Jd hc).2.2.2.2.2;have HC := Qh hc;clear hbf hw hJ hd h4 h2 hc hh;simp only [QG, show xx 12 = _ from e4, show xx 10 = _ from e2] at hK |-;clear e4 e2;go_simp;go_wp2_with fail;exact hK.out _ _ (HJ.out.st qY qX HH4.out HH2.out HE4.out HE2.out (d := undef))
     intro bb xx wz hbb hJ;obtain ⟨zt, zu, B9, c0, c1, c2, c3, c4, c5, e0, e1, e2, hX9, e3, e4, hB9, hbz⟩ := hJ.out (hbb 8 (by decide)) (hbb 9 (by decide)) (hbb 10 (by decide)) (hbb 11 (by decide)) (hbb 12 (by decide)) (hbb 13 (by decide));clear hbb hJ;simp only [QeT, show xx 8 = _ from e0, show xx 9 = _ from e1, show xx 10 = _ from e2, show xx 11 = _ from e3, show xx 12 = _ from e4];clear e0 e1 e2 e3 e4;have h9 := hX9;obtain ⟨s1, a1, n1, k1, s2, a2, n2, k2, s3, a3, n3, k3, e9, i1, i2, i3⟩ := id h9;clear h9;injection e9 with e9;injection e9 with e9;simp only [List.cons.injEq, and_true] at e9;obtain ⟨rfl, rfl, rfl, rfl, rfl, rfl⟩ := e9;replace HF := Qh (kF.up HF.out hbz);replace HE := Qh (kK0.up HE.out hbz);have HI9 := Qh (And.intro i1 (And.intro i2 i3));clear i1 i2 i3;have hHeld : bc4 wz BP (.bool sa) (.slice aa na ka) (.bool sb) (.slice ab nb kb) /\ rc2 wz bL (ofL + j * 2) (.bool sx) (.slice ax nx kx) := kS.up hHeld hbz;have hS0 : bc4 wz BP (.bool sa) (.slice aa na ka) (.bool sb) (.slice ab nb kb) /\ bc6 wz B9 (.bool s1) (.slice a1 n1 k1) (.bool s2) (.slice a2 n2 k2) (.bool s3) (.slice a3 n3 k3) /\ rc2 wz bL (ofL + j * 2) (.bool sx) (.slice ax nx kx) /\ rc2 wz bL (ofL + k * 2) (.bool sy) (.slice ay ny ky) := ⟨hHeld.1, QU hB9, hHeld.2, ((HK0.out _).1 HE.out).2.1⟩;clear hX9 hB9 kX qX kY qY;(refine pL 14 rfl ?_)
     refine dT ?_;clear hHeld kS;go_upto_region 16 with fail;refine Qc (by kernel_rfl) [] (S := fun w' => bc4 w' BP (.bool sa) (.slice aa na ka) (.bool sb) (.slice ab nb kb) /\ bc6 w' B9 (.bool s1) (.slice a1 n1 k1) (.bool s2) (.slice a2 n2 k2) (.bool s3) (.slice a3 n3 k3) /\ rc2 w' bL (ofL + j * 2) (.bool sx) (.slice ax nx kx) /\ rc2 w' bL (ofL + k * 2) (.bool sy) (.slice ay ny ky)) hS0 (fun hHeld => ?_);have kS : Kp fun w' => bc4 w' BP (.bool sa) (.slice aa na ka) (.bool sb) (.slice ab nb kb) /\ bc6 w' B9 (.bool s1) (.slice a1 n1 k1) (.bool s2) (.slice a2 n2 k2) (.bool s3) (.slice a3 n3 k3) /\ rc2 w' bL (ofL + j * 2) (.bool sx) (.slice ax nx kx) /\ rc2 w' bL (ofL + k * 2) (.bool sy) (.slice ay ny ky) := kpf;have kI : Kp fun w' => It w' (.agg #[.bool s1, .slice a1 n1 k1]) c /\ It w' (.agg #[.bool s2, .slice a2 n2 k2]) a /\ It w' (.agg #[.bool s3, .slice a3 n3 k3]) (b / c) := kpf;clear hS0;replace HF := Qh (kF.dr HF.out);replace HE := Qh (kK0.dr HE.out);replace HI9 := Qh (kI.dr HI9.out);generalize wz.drew = w7 at *;(refine tS 0 rfl ?_; refine tS 1 rfl ?_; refine tS 2 rfl ?_; refine tS 3 rfl ?_; refine tS 4 rfl ?_; refine tS 5 rfl ?_; refine tS 6 rfl ?_; refine tS 8 rfl ?_; refine tS 9 rfl ?_)
     (refine oL 7 rfl fun K hK => tL ?_; go_simp);have hsq : sz (b / c) <= 2 := QbI (Nat.lt_of_le_of_lt (Int.natAbs_ediv_le_natAbs b c) HBL.out);refine (QdU _ _ c (b / c) w7 HI9.out.1 HI9.out.2.2 (by omega) (by omega)).mono ?_;rintro e wm ⟨v, rfl, hv, hb⟩;rw [Int.mul_ediv_cancel' HCD.out] at hv;obtain ⟨sm, am, nm, km, rfl⟩ := hv.shape;replace HF := Qh (kF.up HF.out hb);replace HE := Qh (kK0.up HE.out hb);replace HI9 := Qh (kI.up HI9.out hb);have HM := Qh hv;have hS2 := kS.up hHeld hb;clear hv hb hHeld;(go_wp2_with fail; clear hHeld; refine nxL hK hS2 fun hHeld => tL ?_; clear hK);(refine oL 10 rfl fun K hK => tL ?_; go_simp);refine (Yi _ _ b b wm HM.out HF.out.2.2.1 (by omega) (by omega)).mono ?_;rintro e wn ⟨rfl, hb⟩;replace HF := Qh (kF.up HF.out hb);replace HE := Qh (kK0.up HE.out hb);replace HI9 := Qh (kI.up HI9.out hb);replace hS2 := kS.up hS2 hb;clear hb HM;(go_wp2_with fail; clear hHeld; refine nxL hK hS2 fun hHeld => tL ?_; clear hK);have HTB := Qh hS2;simp only [show JG b b = true from YZ.2 rfl];(refine tS 11 rfl ?_; refine tS 12 rfl ?_; refine tS 13 rfl ?_; refine tS 14 rfl ?_; refine tS 15 rfl ?_; refine tS 16 rfl ?_; refine tS 17 rfl ?_)
     (refine oL 18 rfl fun K hK => tL ?_; go_simp);refine (Yi _ _ a a wn HI9.out.2.1 HF.out.2.1 (by omega) (by omega)).mono ?_;rintro e wo ⟨rfl, hb⟩;replace HF := Qh (kF.up HF.out hb);replace HE := Qh (kK0.up HE.out hb);replace HI9 := Qh (kI.up HI9.out hb);replace hS2 := kS.up hS2 hb;clear hb HTB;(go_wp2_with fail; clear hHeld; refine nxL hK hS2 fun hHeld => tL ?_; clear hK);simp only [show JG a a = true from YZ.2 rfl];(refine tS 19 rfl ?_; refine tS 20 rfl ?_; refine tS 21 rfl ?_; refine tS 22 rfl ?_; refine tS 23 rfl ?_; refine tS 24 rfl ?_; refine tS 25 rfl ?_; refine tS 27 rfl ?_; refine tS 28 rfl ?_; refine tS 29 rfl ?_; refine tS 30 rfl ?_)
     (refine oL 26 rfl fun K hK => tL ?_; go_simp);refine (Qes _ c wo ((HK0.out _).1 HE.out).2.2.1 hc0 (Nat.lt_of_le_of_lt (Nat.le_of_dvd (Int.natAbs_pos.2 hb0) (Int.natAbs_dvd_natAbs.2 HCD.out)) HBL.out)).mono ?_;rintro e wp ⟨v, f, rfl, hv, hf, hb⟩;rw [hf.uniq (Qha ((HCN.out.2 c).1 HCC.out).2.1 hc0)] at hv;obtain ⟨sf, af, nf, kf, rfl⟩ := hv.shape;replace HF := Qh (kF.up HF.out hb);replace HE := Qh (kK0.up HE.out hb);replace hS2 := kS.up hS2 hb;have HM := Qh hv;clear hv hf hb HI9 kI;(go_wp2_with fail; clear hHeld; refine nxL hK hS2 fun hHeld => tL ?_; clear hK);(refine oL 31 rfl fun K hK => tL ?_; go_simp);refine (Yi _ _ c c wp HM.out ((HK0.out _).1 HE.out).2.2.1 (by omega) (by omega)).mono ?_;rintro e wq ⟨rfl, hb⟩;replace HF := Qh (kF.up HF.out hb);replace HE := Qh (kK0.up HE.out hb);replace hS2 := kS.up hS2 hb;clear hb HM;(go_wp2_with fail; clear hHeld; refine nxL hK hS2 fun hHeld => tL ?_; clear hK);simp only [show JG c c = true from YZ.2 rfl];(refine tS 32 rfl ?_; refine tS 33 rfl ?_; refine tS 34 rfl ?_; refine tS 35 rfl ?_)
     rcases Nat.eq_zero_or_pos j with hj0 | hj0
     ·have j4 : ¬ (0 : Int) < (j : Int) := by omega
      have hin : n ∉ l.take j := by subst hj0; simp
      clear HPW;(refine tS 36 rfl ?_; refine tS 37 rfl ?_)
      (refine uL 38 rfl ?_; refine uL 39 rfl ?_; refine uL 40 rfl ?_; refine uL 41 rfl ?_; refine uL 42 rfl ?_; refine uL 43 rfl ?_; refine uL 44 rfl ?_; refine uL 45 rfl ?_; refine uL 46 rfl ?_; refine uL 47 rfl ?_; refine uL 48 rfl ?_)
      (refine tS 49 rfl ?_; refine tS 50 rfl ?_)
      refine dT ?_;clear hHeld kS hS2 hj0
      as_aux_lemma =>
       simp only [show decide (n ∈ l.take j) = false from decide_eq_false hin];go_upto_region 18 with fail;have hS3 : rc2 wq bL (ofL + j * 2) (.bool sx) (.slice ax nx kx) := ((HK0.out _).1 HE.out).1;refine Qc (by kernel_rfl) [] (S := fun w' => rc2 w' bL (ofL + j * 2) (.bool sx) (.slice ax nx kx)) hS3 (fun hHeld => ?_);replace HF := Qh (kF.dr HF.out);replace HE := Qh (kK0.dr HE.out);clear hS3;generalize wq.drew = wb at *;have kS : Kp fun w' => rc2 w' bL (ofL + j * 2) (.bool sx) (.slice ax nx kx) := kpf;have hwn : IntKind.i64.wrap n = n := by rw [IntKind.wrap_i64]; have := HNN.out; omega
       (refine tS 0 rfl ?_; refine tS 1 rfl ?_; refine tS 2 rfl ?_; refine tS 3 rfl ?_; refine tS 4 rfl ?_; refine tS 5 rfl ?_; refine tS 6 rfl ?_; refine tS 7 rfl ?_)
       (refine oL 8 rfl fun K hK => tL ?_; go_simp);refine (Qm n wb (by have := HNN.out; omega) (by have := HNN.out; omega)).mono ?_;rintro e wc ⟨v, rfl, hv, hb⟩;obtain ⟨sn, an, nn, kn, rfl⟩ := hv.shape;replace HF := Qh (kF.up HF.out hb);replace HE := Qh (kK0.up HE.out hb);have hS2 := kS.up hHeld hb;have HM := Qh hv;have hsn : sz n <= 2 := QbI (by have := HNN.out; omega);clear hv hb;(go_wp2_with fail; clear hHeld; refine nxL hK hS2 fun hHeld => tL ?_; clear hK);(refine oL 9 rfl fun K hK => tL ?_; go_simp);refine (Yi _ _ c n wc ((HK0.out _).1 HE.out).2.2.1 HM.out (by omega) (by omega)).mono ?_;rintro e wd ⟨rfl, hb⟩;replace HF := Qh (kF.up HF.out hb);replace hS2 := kS.up hS2 hb;clear hb HM HE;(go_wp2_with fail; clear hHeld; refine nxL hK hS2 fun hHeld => tL ?_; clear hK);(refine tS 10 rfl ?_)
       (refine pL 11 rfl ?_)
       refine dT ?_;have j7 : IntKind.i64.wrap ((j : Int) + 1) = ((j + 1 : Nat) : Int) := by rw [IntKind.wrap_i64]; have := HLL.out; omega
       go_wp2_with fail;exact ⟨⟨j + 1, congrArg Value.bool (Qgw hin HTK.out), rfl, by omega, HF⟩, by simp only [intOf, Int.toNat_natCast]; omega⟩
     ·have j4 : (0 : Int) < (j : Int) := by omega
      have hj5 : IntKind.i64.wrap ((j : Int) - 1) = (k : Int) := by rw [IntKind.wrap_i64]; have := HLL.out; have := HKJ.out; omega
      have hdc := HPW.out hj0;clear HPW;(refine tS 36 rfl ?_; refine tS 37 rfl ?_; refine tS 38 rfl ?_; refine tS 39 rfl ?_; refine tS 40 rfl ?_; refine tS 41 rfl ?_; refine tS 42 rfl ?_; refine tS 43 rfl ?_; refine tS 44 rfl ?_; refine tS 45 rfl ?_; refine tS 46 rfl ?_)
      (refine oL 47 rfl fun K hK => tL ?_; go_simp);refine (Qhc _ _ d c wq ((HK0.out _).1 HE.out).2.2.2 ((HK0.out _).1 HE.out).2.2.1 (by omega) (by omega)).mono ?_;rintro e wa ⟨rfl, hb⟩;replace HF := Qh (kF.up HF.out hb);replace HE := Qh (kK0.up HE.out hb);replace hS2 := kS.up hS2 hb;have hcm : ¬ Qk d c >= 0 := by unfold Qk; split <;> omega
      clear hb hdc;(go_wp2_with fail; clear hHeld; refine nxL hK hS2 fun hHeld => tL ?_; clear hK);(refine tS 48 rfl ?_; refine tS 49 rfl ?_; refine tS 50 rfl ?_)
      refine dT ?_;clear hHeld kS hS2 hj5;by_cases hin : n ∈ l.take j
      ·as_aux_lemma =>
        simp only [show decide (n ∈ l.take j) = true from decide_eq_true hin];go_upto_region 18 with fail;have hS3 : rc2 wa bL (ofL + j * 2) (.bool sx) (.slice ax nx kx) := ((HK0.out _).1 HE.out).1;refine Qc (by kernel_rfl) [] (S := fun w' => rc2 w' bL (ofL + j * 2) (.bool sx) (.slice ax nx kx)) hS3 (fun hHeld => ?_);replace HF := Qh (kF.dr HF.out);replace HE := Qh (kK0.dr HE.out);clear hS3;generalize wa.drew = wb at *;(refine tS 0 rfl ?_; refine tS 1 rfl ?_)
        (refine uL 2 rfl ?_; refine uL 3 rfl ?_; refine uL 4 rfl ?_; refine uL 5 rfl ?_; refine uL 6 rfl ?_; refine uL 7 rfl ?_; refine uL 8 rfl ?_; refine uL 9 rfl ?_)
        (refine tS 10 rfl ?_)
        (refine pL 11 rfl ?_)
        refine dT ?_;have j7 : IntKind.i64.wrap ((j : Int) + 1) = ((j + 1 : Nat) : Int) := by rw [IntKind.wrap_i64]; have := HLL.out; omega
        go_wp2_with fail;exact ⟨⟨j + 1, congrArg Value.bool (Qja hin HTK.out), rfl, by omega, HF⟩, by simp only [intOf, Int.toNat_natCast]; omega⟩
      ·as_aux_lemma =>
        simp only [show decide (n ∈ l.take j) = false from decide_eq_false hin];go_upto_region 18 with fail;have hS3 : rc2 wa bL (ofL + j * 2) (.bool sx) (.slice ax nx kx) := ((HK0.out _).1 HE.out).1;refine Qc (by kernel_rfl) [] (S := fun w' => rc2 w' bL (ofL + j * 2) (.bool sx) (.slice ax nx kx)) hS3 (fun hHeld => ?_);replace HF := Qh (kF.dr HF.out);replace HE := Qh (kK0.dr HE.out);clear hS3;generalize wa.drew = wb at *;have kS : Kp fun w' => rc2 w' bL (ofL + j * 2) (.bool sx) (.slice ax nx kx) := kpf;have hwn : IntKind.i64.wrap n = n := by rw [IntKind.wrap_i64]; have := HNN.out; omega
        (refine tS 0 rfl ?_; refine tS 1 rfl ?_; refine tS 2 rfl ?_; refine tS 3 rfl ?_; refine tS 4 rfl ?_; refine tS 5 rfl ?_; refine tS 6 rfl ?_; refine tS 7 rfl ?_)
        (refine oL 8 rfl fun K hK => tL ?_; go_simp);refine (Qm n wb (by have := HNN.out; omega) (by have := HNN.out; omega)).mono ?_;rintro e wc ⟨v, rfl, hv, hb⟩;obtain ⟨sn, an, nn, kn, rfl⟩ := hv.shape;replace HF := Qh (kF.up HF.out hb);replace HE := Qh (kK0.up HE.out hb);have hS2 := kS.up hHeld hb;have HM := Qh hv;have hsn : sz n <= 2 := QbI (by have := HNN.out; omega);clear hv hb;(go_wp2_with fail; clear hHeld; refine nxL hK hS2 fun hHeld => tL ?_; clear hK);(refine oL 9 rfl fun K hK => tL ?_; go_simp);refine (Yi _ _ c n wc ((HK0.out _).1 HE.out).2.2.1 HM.out (by omega) (by omega)).mono ?_;rintro e wd ⟨rfl, hb⟩;replace HF := Qh (kF.up HF.out hb);replace hS2 := kS.up hS2 hb;clear hb HM HE;(go_wp2_with fail; clear hHeld; refine nxL hK hS2 fun hHeld => tL ?_; clear hK);(refine tS 10 rfl ?_)
        (refine pL 11 rfl ?_)
        refine dT ?_;have j7 : IntKind.i64.wrap ((j : Int) + 1) = ((j + 1 : Nat) : Int) := by rw [IntKind.wrap_i64]; have := HLL.out; omega
        go_wp2_with fail;exact ⟨⟨j + 1, congrArg Value.bool (Qgw hin HTK.out), rfl, by omega, HF⟩, by simp only [intOf, Int.toNat_natCast]; omega⟩
    ·obtain rfl : j = l.length := by omega
     as_aux_lemma =>
      simp only [List.take_length];go_upto_region 19 with fail;have hS0 : bc4 wr BP (.bool sa) (.slice aa na ka) (.bool sb) (.slice ab nb kb) := QI HF.out.1;refine Qc (by kernel_rfl) [] (S := fun w' => bc4 w' BP (.bool sa) (.slice aa na ka) (.bool sb) (.slice ab nb kb)) hS0 (fun hHeld => ?_);have kS : Kp fun w' => bc4 w' BP (.bool sa) (.slice aa na ka) (.bool sb) (.slice ab nb kb) := kpf;clear hS0;replace HF := Qh (kF.dr HF.out);generalize wr.drew = w6 at *;have hwn : IntKind.i64.wrap n = n := by rw [IntKind.wrap_i64]; omega
      (refine tS 0 rfl ?_; refine tS 1 rfl ?_; refine tS 2 rfl ?_; refine tS 3 rfl ?_; refine tS 4 rfl ?_; refine tS 5 rfl ?_)
      have HNN := Qh (And.intro hn1 hn2);have hsn : sz n <= 2 := QbI (by omega);clear hwn;have kX : ∀ v, Kp fun _ => SpS v := fun v => Kp.no _;have qX : ∀ v, Kq (fun _ => False) fun _ => SpS v := fun v => ⟨fun h _ _ _ => h⟩;have kY : ∀ (i : Nat) (v : Value), Kp fun w' => i = 6 -> It w' v n := fun _ _ => ⟨fun h hb e => (h e).up hb⟩;have qY : ∀ (i : Nat) (v : Value), Kq (fun _ => False) fun w' => i = 6 -> It w' v n := fun _ _ => ⟨fun h hb hn hd e => (Kq.it _ _).fr (h e) hb hn hd⟩;refine QA [(6, some 125), (7, some 126), (8, some 118), (9, some 127), (10, some 128), (11, some 15), (12, none)] 1 (FlS (fun i v w' => i = 6 -> It w' v n) (fun v _ => SpS v) (.int .i64 (if n ∈ l then 0 else 1)) 7 w6) rfl (by kernel_rfl) (by decide) (by kernel_rfl) (by kernel_rfl) (by kernel_rfl) (fun bb xx wz h => kS.up hHeld h.bl) (fun xx => FlS.start _ _ _ _ _ _) ?_ ?_
      ·intro i hi;have hi' : i = 6 \/ i = 7 \/ i = 8 \/ i = 9 \/ i = 10 \/ i = 11 \/ i = 12 := by simpa using hi
       clear hi;rcases hi' with rfl | rfl | rfl | rfl | rfl | rfl | rfl
       ·refine ⟨_, rfl, fun bb xx wz hJ hbf hw K hK => ?_⟩;clear hbf hw;simp only [QG] at hK |-;go_simp;refine (Qm n wz (by have := HNN.out; omega) (by have := HNN.out; omega)).mono ?_;rintro e w8 ⟨v, rfl, hv, hb⟩;exact hK.out _ _ (hJ.put kY kX (i := 6) (by decide) (fun _ => by decide) hb (fun _ _ => hv) nzz nzz nzz)
       ·refine ⟨_, rfl, fun bb xx wz hJ hbf hw K hK => ?_⟩;have hv := hJ.pre 6 (by decide) (hw 6 (by kernel_rfl)) rfl;clear hbf hw;simp only [QG] at hK |-;go_simp;refine (JQ _ _ _ a b n wz (HF.out.2.1.up hJ.bl) (HF.out.2.2.1.up hJ.bl) hv (by omega) (by omega) (by omega)).mono ?_;rintro e w8 ⟨v, u1, u2, u3, cd, rfl, hs, hp, hb⟩;obtain rfl : cd = if n ∈ l then 0 else 1 := by rcases QiA hp HR0.out HCN.out with ⟨h1, -, -, -, h2⟩ | ⟨h1, h2⟩ <;> simp [h1, h2]
        exact hK.out _ _ (hJ.put kY kX (i := 7) (by decide) (fun _ => by decide) hb nzz (fun _ => ⟨_, rfl, sps hs⟩) nzz nzz)
       ·refine ⟨_, rfl, fun bb xx wz hJ hbf hw K hK => ?_⟩;have hv := hw 7 (by kernel_rfl);clear hbf hw;simp only [QG] at hK |-;go_simp;exact hK.out _ _ (hJ.put kY kX (i := 8) (by decide) (fun _ => by decide) (Below.refl _ _) nzz (fun _ => hJ.tq 7 (.inl rfl) hv) nzz nzz)
       ·refine ⟨_, rfl, fun bb xx wz hJ hbf hw K hK => ?_⟩;have hd := hJ.tq 8 (.inr rfl) (hw 8 (by kernel_rfl));have hh := Classical.choose_spec hd;generalize Classical.choose hd = u at hh;have hxu := hh.1;have HXQ := Qh hh.2;clear hw hh hd;simp only [QG, hxu] at hK |-;clear hxu;go_simp;exact hK.out _ _ (hJ.put kY kX (i := 9) (by decide) (fun e => by have h := (hJ.so e).2; rw [show bb (7 + 2) = false from hbf] at h; cases h) (Below.refl _ _) nzz nzz (fun _ => HXQ.out) nzz)
       ·refine ⟨_, rfl, fun bb xx wz hJ hbf hw K hK => ?_⟩;have hd := hJ.tq 8 (.inr rfl) (hw 8 (by kernel_rfl));have hh := Classical.choose_spec hd;generalize Classical.choose hd = u at hh;have hxu := hh.1;have HXQ := Qh hh.2;clear hw hh hd;simp only [QG, hxu] at hK |-;clear hxu;go_simp;exact hK.out _ _ (hJ.put kY kX (i := 10) (by decide) (fun _ => by decide) (Below.refl _ _) nzz nzz nzz (fun _ => rfl))
       ·refine ⟨_, rfl, fun bb xx wz hJ hbf hw K hK => ?_⟩;have HBF := Qh hbf;clear hbf hw;simp only [QG] at hK |-;go_simp;exact hK.out _ _ (hJ.var kY kX HBF.out)
       ·refine ⟨_, rfl, fun bb xx wz hJ hbf hw K hK => ?_⟩;have h4 := hw 11 (by kernel_rfl);have h2 := hw 9 (by kernel_rfl);have hd := hJ.sto (fun v w h => h) h4 h2;have hh := Classical.choose_spec hd;generalize Classical.choose hd = p at hh;have e4 := hh.1;have e2 := hh.2.1;have hc := hh.2.2;have HE4 := Qh e4;have HE2 := Qh e2;have HH4 := Qh h4;have HH2 := Qh h2;have HJ := Qh hJ;have d0 := (QU hc).1;have d1 := (QU hc).2.1;have d2 := (QU hc).2.2.1;have d3 := (QU hc).2.2.2.1;have d4 := (QU hc).2.2.2.2.1;have d5 := (QU hc).2.2.2.2.2;have f0 := (Jd hc).1;have f1 := (Jd hc).2.1;have f2 := (Jd hc).2.2.1;have f3 := (Jd hc).2.2.2.1;have f4 := (Jd hc).2.2.2.2.1;have f5 := (Jd hc).2.2.2.2.2;have HC := Qh hc;clear hbf hw hJ hd h4 h2 hc hh;simp only [QG, show xx 11 = _ from e4, show xx 9 = _ from e2] at hK |-;clear e4 e2;go_simp;go_wp2_with fail;exact hK.out _ _ (HJ.out.st qY qX HH4.out HH2.out HE4.out HE2.out (d := undef))
      intro bb xx wz hbb hJ;obtain ⟨z6, hz6⟩ : ∃ u, u = xx 6 := ⟨_, rfl⟩;obtain ⟨zt, zu, B9, c0, c1, c2, c3, c4, c5, e0, e1, e2, hX9, e3, e4, hB9, hbz⟩ := hJ.out (hbb 7 (by decide)) (hbb 8 (by decide)) (hbb 9 (by decide)) (hbb 10 (by decide)) (hbb 11 (by decide)) (hbb 12 (by decide));clear hbb hJ;simp only [QeT, show xx 7 = _ from e0, show xx 8 = _ from e1, show xx 9 = _ from e2, show xx 10 = _ from e3, show xx 11 = _ from e4, <- hz6];clear e0 e1 e2 e3 e4 hz6;replace HF := Qh (kF.up HF.out hbz);have hHeld : bc4 wz BP (.bool sa) (.slice aa na ka) (.bool sb) (.slice ab nb kb) := kS.up hHeld hbz;clear hX9 hB9 kX qX kY qY hbz;(refine pL 13 rfl ?_)
      refine dT ?_;clear hHeld kS;have hq9 := HQL.out;subst hq9;by_cases hin : n ∈ l
      ·simp only [show decide (n ∈ l) = true from decide_eq_true hin, if_pos hin];go_wp2_with fail;go_ret
       exact ⟨rfl, HF.out.2.2.2.2⟩
      ·simp only [show decide (n ∈ l) = false from decide_eq_false hin, if_neg hin];go_wp2_with fail;go_ret
       exact ⟨rfl, HF.out.2.2.2.2⟩
end Go.Proofs.YteidokhjmbihlaaGreat
