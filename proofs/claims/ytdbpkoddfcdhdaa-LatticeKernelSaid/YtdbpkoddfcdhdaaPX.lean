/-
  algoristlaw12.LatticeKernel: the walk.
-/
import Derived.Test.YtdbpkoddfcdhdaaPV
import Derived.Test.YtdbpkoddfcdhdaaPO
set_option linter.unusedSimpArgs false
set_option linter.unusedVariables false

namespace Go.Proofs.Ytdbpkoddfcdhdaa
open Go.RowKit
attribute [local go_sem ↓] Go.wp_at_zero Go.wp_at_succ

/-- What lasts: the array, the matrix. -/
structure KnF (w : World) (c0 c1 c2 c3 c4 : Int) (vm : Value) (m : List (List Int)) (W : World) : Prop where
  bl : Below w.heap.size w W
  y0 : W.cell? ⟨w.heap.size + 1, 0, none⟩ = some (.int .i8 c0)
  y1 : W.cell? ⟨w.heap.size + 1, 1, none⟩ = some (.int .i8 c1)
  y2 : W.cell? ⟨w.heap.size + 1, 2, none⟩ = some (.int .i8 c2)
  y3 : W.cell? ⟨w.heap.size + 1, 3, none⟩ = some (.int .i8 c3)
  y4 : W.cell? ⟨w.heap.size + 1, 4, none⟩ = some (.int .i8 c4)
  mx : Mx W vm m
theorem KnF.up {w : World} {c0 c1 c2 c3 c4 : Int} {vm : Value} {m : List (List Int)} {W W' : World} (h : KnF w c0 c1 c2 c3 c4 vm m W) (hb : Below W.heap.size W W') : KnF w c0 c1 c2 c3 c4 vm m W' :=
  ⟨Bl.up h.bl hb, keepc hb h.y0, keepc hb h.y1, keepc hb h.y2, keepc hb h.y3, keepc hb h.y4, h.mx.up hb⟩

/-- .. and the kernel. -/
structure KnG (w : World) (c0 c1 c2 c3 c4 : Int) (vm : Value) (m : List (List Int)) (B : Nat) (ak : Option Addr) (ck : Nat) (K : List (List Int)) (W : World) : Prop where
  F : KnF w c0 c1 c2 c3 c4 vm m W
  k0 : W.cell? ⟨B, 0, none⟩ = some (.slice ak K.length ck)
  k1 : W.cell? ⟨B, 1, none⟩ = some (.int .i64 0)
  km : Mx W (.slice ak K.length ck) K
theorem KnG.up {w : World} {c0 c1 c2 c3 c4 : Int} {vm : Value} {m : List (List Int)} {B : Nat} {ak : Option Addr} {ck : Nat} {K : List (List Int)} {W W' : World} (h : KnG w c0 c1 c2 c3 c4 vm m B ak ck K W) (hb : Below W.heap.size W W') : KnG w c0 c1 c2 c3 c4 vm m B ak ck K W' :=
  ⟨h.F.up hb, keepc hb h.k0, keepc hb h.k1, h.km.up hb⟩

def Ktrue (w : World) (e : Ending) (w' : World) : Prop := e = .returned (.bool true) ∧ Below w.heap.size w w'

set_option maxRecDepth 100000 in
set_option maxHeartbeats 8000000 in
theorem kernelL_any (r c : Nat) (a : Option Addr) (cap : Nat) (V : List Int) (c0 c1 c2 c3 c4 : Int) (w : World) (hV : Cl w a V.length (fun i => .int .i8 (V.getD i 0))) (hv : ∀ i, -128 ≤ V.getD i 0 ∧ V.getD i 0 ≤ 127) (hN : V.length ≤ 9223372036854775807)
    (hr : r ≤ 255) (hc : c ≤ 255) (h0 : -128 ≤ c0 ∧ c0 ≤ 127) (h1 : -128 ≤ c1 ∧ c1 ≤ 127) (h2 : -128 ≤ c2 ∧ c2 ≤ 127) (h3 : -128 ≤ c3 ∧ c3 ≤ 127) (h4 : -128 ≤ c4 ∧ c4 ≤ 127) :
    Calls Try.prog 4 #[.agg #[.int .u8 (r : Int), .int .u8 (c : Int), .slice a V.length cap], .agg #[.int .i8 c0, .int .i8 c1, .int .i8 c2, .int .i8 c3, .int .i8 c4]] w (Ktrue w) := by
  have CM := Lib.hid fun W (hW : Below w.heap.size w W) => rmade_any r c 5 3 a cap V W (hV.up hW) hv hN hr hc (by decide) (by decide) (by decide)
  have hnb : c % 3 < 3 := Nat.mod_lt _ (by decide)
  have hRb : r % (5 + 1) < 5 + 1 := Nat.mod_lt _ (by decide)
  have hbt := madeM_bt V (r % (5 + 1)) (1 + c % 3) hv
  have hsh := madeM_shape V (r % (5 + 1)) (1 + c % 3)
  obtain ⟨n, hn⟩ : ∃ n, n = 1 + c % 3 := ⟨_, rfl⟩
  obtain ⟨R, hR⟩ : ∃ R, R = r % (5 + 1) := ⟨_, rfl⟩
  have hn0 : 0 < n := by omega
  have hn1 : n ≤ 3 := by omega
  have hR1 : R ≤ 5 := by omega
  rw [← hn, ← hR] at hbt hsh
  simp only [← hn, ← hR] at CM
  generalize hm : madeM V R n = m at *
  clear hm hn hR hnb hRb hv hV hN
  go_enter Try.func4, Try.ntmps4
  go_wp2_with fail
  obtain ⟨W2, hW2⟩ : ∃ W2, W2 = (w.alloc (.cells #[.int .u8 (r : Int), .int .u8 (c : Int), .slice a V.length cap] 24)).alloc (.cells #[.int .i8 c0, .int .i8 c1, .int .i8 c2, .int .i8 c3, .int .i8 c4] 46) := ⟨_, rfl⟩
  have b2 : Below w.heap.size w W2 := by rw [hW2]; exact Bl.alloc (below_new _ _) _
  have x0 : W2.cell? ⟨w.heap.size, 0, none⟩ = some (.int .u8 (r : Int)) := by rw [hW2]; exact cellN (by rw [World.cell?_alloc_at _ _ _ _ rfl]; rfl) _
  have x1 : W2.cell? ⟨w.heap.size, 1, none⟩ = some (.int .u8 (c : Int)) := by rw [hW2]; exact cellN (by rw [World.cell?_alloc_at _ _ _ _ rfl]; rfl) _
  have x2 : W2.cell? ⟨w.heap.size, 2, none⟩ = some (.slice a V.length cap) := by rw [hW2]; exact cellN (by rw [World.cell?_alloc_at _ _ _ _ rfl]; rfl) _
  have y0 : W2.cell? ⟨w.heap.size + 1, 0, none⟩ = some (.int .i8 c0) := by rw [hW2, World.cell?_alloc_at _ _ _ _ (by simp)]; rfl
  have y1 : W2.cell? ⟨w.heap.size + 1, 1, none⟩ = some (.int .i8 c1) := by rw [hW2, World.cell?_alloc_at _ _ _ _ (by simp)]; rfl
  have y2 : W2.cell? ⟨w.heap.size + 1, 2, none⟩ = some (.int .i8 c2) := by rw [hW2, World.cell?_alloc_at _ _ _ _ (by simp)]; rfl
  have y3 : W2.cell? ⟨w.heap.size + 1, 3, none⟩ = some (.int .i8 c3) := by rw [hW2, World.cell?_alloc_at _ _ _ _ (by simp)]; rfl
  have y4 : W2.cell? ⟨w.heap.size + 1, 4, none⟩ = some (.int .i8 c4) := by rw [hW2, World.cell?_alloc_at _ _ _ _ (by simp)]; rfl
  rw [← hW2]
  clear hW2
  refine (examples_any _).mono ?_
  rintro e W3 ⟨rfl, hb⟩
  replace b2 := Bl.up b2 hb
  replace x0 := keepc hb x0
  replace x1 := keepc hb x1
  replace x2 := keepc hb x2
  replace y0 := keepc hb y0
  replace y1 := keepc hb y1
  replace y2 := keepc hb y2
  replace y3 := keepc hb y3
  replace y4 := keepc hb y4
  clear hb
  go_wp2_with fail
  refine (CM.out _ b2).mono ?_
  rintro e W4 ⟨vm, rfl, hM, hb⟩
  have F : KnF w c0 c1 c2 c3 c4 vm m W4 := ⟨Bl.up b2 hb, keepc hb y0, keepc hb y1, keepc hb y2, keepc hb y3, keepc hb y4, hM⟩
  clear hb b2 x0 x1 x2 y0 y1 y2 y3 y4 hM CM
  obtain ⟨am, cm, rfl, -, hMi⟩ := id F.mx
  rw [hsh.1] at F ⊢
  rcases Nat.eq_zero_or_pos R with hR0 | hR0
  · subst hR0
    go_wp2_with fail
    go_ret
    exact ⟨rfl, F.bl⟩
  · have hRne : ((R : Int) == 0) = false := by rw [beq_eq_false_iff_ne]; omega
    go_wp2_with fail
    have hKc := Lkernel_any (.slice am R cm) W4 0 (fun K => KerOf R n m K 6480 ∧ ∀ i, i < K.length → 0 < (K.getD i []).length) (fun K hK => hK.2)
      (fun W hW => (Kernel_g (E := 9) _ W (F.mx.up hW) hsh hR0 hR1 hn0 (by omega) (by decide) (by decide) hbt).mono (by
        rintro e w' ⟨v', K, rfl, hex, hM, hb⟩
        exact ⟨v', K, rfl, ⟨⟨hex⟩, fun i hi => by rw [(KerOf.shape ⟨hex⟩).2 i hi]; exact hR0⟩, hM, hb⟩))
    refine hKc.mono ?_
    rintro e W5 ⟨vk, K, rfl, ⟨hK, -⟩, hkm, hb⟩
    clear hKc
    obtain ⟨ak, ck, rfl, -, -⟩ := id hkm
    replace F := F.up hb
    clear hb
    go_upto_region 8 with fail
    obtain ⟨W6, hW6⟩ : ∃ W6, W6 = W5.alloc (.cells #[.slice ak K.length ck, .int .i64 0] 33) := ⟨_, rfl⟩
    have G : KnG w c0 c1 c2 c3 c4 (.slice am R cm) m W5.heap.size ak ck K W6 := ⟨F.up (by rw [hW6]; exact below_new _ _), by rw [hW6, World.cell?_alloc_at _ _ _ _ rfl]; rfl, by rw [hW6, World.cell?_alloc_at _ _ _ _ rfl]; rfl, hkm.up (by rw [hW6]; exact below_new _ _)⟩
    rw [← hW6]
    clear hW6 F hkm
    generalize W5.heap.size = Bk at *
    go_wp2_with fail
    refine (Rank_g (E := 9) _ _ G.F.mx hsh hR0 hR1 hn0 (by omega) (by decide) (by decide) hbt).mono ?_
    rintro e W7 ⟨h, piv, rfl, hh, hb⟩
    have hrk := hK.rank hsh hh
    replace G := G.up hb
    clear hb hh
    obtain ⟨_, _, e0, -, hMi'⟩ := id G.F.mx
    rw [hsh.1] at e0
    injection e0 with e1 e2 e3
    subst e1
    clear e2 e3 hMi
    obtain ⟨xb, xo, rfl, hxb, hxc⟩ := hMi'.at (by rw [hsh.1]; exact hR0)
    obtain ⟨cc, kk, c0', -⟩ := hxc 0 (by rw [hsh.1]; exact hR0)
    rw [hsh.2 0 hR0] at c0'
    have z0 : W7.cell? ⟨xb, xo, none⟩ = some (.slice cc n kk) := c0'
    have hR0' : (0 : Int) < (R : Int) := by omega
    clear hxc c0'
    have k0 := G.k0
    have k1 := G.k1
    have hsum : ((h.length : Int) + (K.length : Int) != (R : Int)) = false := by rw [bne_eq_false_iff_eq]; omega
    have hl1 : (h.length : Int) ≤ 5 := by omega
    have hl2 : (K.length : Int) ≤ 5 := by omega
    have HRK := Lib.hid hrk
    clear hrk
    go_wp2_with fail
    go_loopw [11] (fun s wq => ∃ i, i ≤ K.length ∧ s = .int .i64 i ∧ KnG w c0 c1 c2 c3 c4 (.slice (some ⟨xb, xo, none⟩) R cm) m Bk ak ck K wq) (fun s _ => K.length - (intOf s).toNat)
    case atStart => exact ⟨0, Nat.zero_le _, rfl, G⟩
    case round =>
      clear G k0 k1 z0
      obtain ⟨i, hi, rfl, G⟩ := hrel
      have i0 : (0 : Int) ≤ (i : Int) := by omega
      have k0 := G.k0
      by_cases hlt : i < K.length
      · have i1 : (i : Int) < (K.length : Int) := by omega
        obtain ⟨_, _, e0, -, hKi⟩ := id G.km
        injection e0 with e1 e2 e3
        subst e1
        clear e2 e3
        obtain ⟨xk, ok, rfl, hxk, hkc⟩ := hKi.at hlt
        obtain ⟨ci, ki, r0, r1⟩ := hkc i hlt
        have hlen : (K.getD i []).length = R := hK.shape.2 i hlt
        rw [hlen] at r0 r1
        have CC := Lib.hid fun W (hW : Below wr.heap.size wr W) => combined_g (c := K.getD i []) _ _ W (G.F.mx.up hW) (r1.up hW) hsh hlen (by omega) (by omega) hbt (fun k => hK.bt i k) (by decide) (by decide)
        have CS := Lib.hid fun va vb W (h1 : Rw W va (combR m (K.getD i []) n R)) (h2 : Rw W vb (zRow n)) => same0_g (c := K.getD i []) va vb W h1 h2 (by omega) (by omega) hbt (fun k => hK.bt i k) (by decide) (by decide)
        have hz := hK.row hsh hlt
        have HZB := Lib.hid hz
        have hmk := mk_row (n : Int) n rfl (by omega)
        have hRR : ((R : Int) != (R : Int)) = false := by simp
        clear hz hkc hKi hlen
        go_upto_region 15 with fail
        go_region_held3 (fun w' => w'.cell? ⟨Bk, 0, none⟩ = some (.slice (some ⟨xk, ok, none⟩) K.length ck) ∧ w'.cell? ⟨xk, ok + i, none⟩ = some (.slice ci R ki))
          ((repeat' (first | with_reducible assumption | (with_reducible refine And.intro ?_ ?_) | (with_reducible refine cellD ?_) | (with_reducible refine cellN ?_ _) | (with_reducible refine cellS ?_ (by omega)) | (with_reducible refine keepc (by with_reducible assumption) ?_))))
          (first
            | (go_at_call 19; (refine (CC.out _ (by (repeat' (first | with_reducible assumption | (with_reducible exact Vx.va (by with_reducible assumption)) | (with_reducible refine Va.new0 (by first | rfl | (simp only [World.size_alloc, World.size_drew, World.size_setCell]; done) | (simp only [World.size_alloc, World.size_drew, World.size_setCell]; omega) | omega)) | (with_reducible refine Va.alloc ?_ _) | (with_reducible refine Va.drew ?_) | (with_reducible refine Va.st ?_ ?_ (by omega)) | (with_reducible refine Va.up ?_ (by with_reducible assumption)) | (with_reducible refine Vx.put ?_ ?_) | (with_reducible refine Vx.other ?_ ?_ (by omega)) | (with_reducible refine Vx.new0 (by first | rfl | (simp only [World.size_alloc, World.size_drew, World.size_setCell]; done) | (simp only [World.size_alloc, World.size_drew, World.size_setCell]; omega) | omega)) | (with_reducible refine Vx.new (by first | rfl | (simp only [World.size_alloc, World.size_drew, World.size_setCell]; done) | (simp only [World.size_alloc, World.size_drew, World.size_setCell]; omega) | omega) ?_) | (with_reducible refine Vx.alloc ?_ _) | (with_reducible refine Vx.drew ?_) | (with_reducible refine Vx.up ?_ (by with_reducible assumption)) | (with_reducible refine It.st ?_ ?_) | (with_reducible refine It.alloc ?_ _) | (with_reducible refine It.drew ?_) | (with_reducible refine It.up ?_ (by with_reducible assumption)) | (with_reducible refine Nt.st ?_ ?_) | (with_reducible refine Nt.alloc ?_ _) | (with_reducible refine Nt.drew ?_) | (with_reducible refine Nt.up ?_ (by with_reducible assumption)) | (with_reducible refine Bl.st ?_ (by omega)) | (with_reducible refine Bl.alloc ?_ _) | (with_reducible refine Bl.drew ?_) | (with_reducible refine Bl.up ?_ (by with_reducible assumption)) | (with_reducible exact Below.refl _ _))))).mono ?_); rintro e w2 ⟨v, rfl, hvc, hb2⟩)
            | (go_at_call 18; (refine (CS.out _ _ _ (by first | exact hvc | exact hvc.up (below_new _ _)) (by first | exact rw_zr _ _ | exact ((rw_zr wr n).drew).up hb2)).mono ?_); rintro e w3 ⟨rfl, hb3⟩; rw [HZB.out]))
        all_goals
          go_wp2_with fail
          go_roundw
          case rel => exact ⟨i + 1, by omega, by go_num, G.up (by (repeat' (first | with_reducible assumption | (with_reducible exact Vx.va (by with_reducible assumption)) | (with_reducible refine Va.new0 (by first | rfl | (simp only [World.size_alloc, World.size_drew, World.size_setCell]; done) | (simp only [World.size_alloc, World.size_drew, World.size_setCell]; omega) | omega)) | (with_reducible refine Va.alloc ?_ _) | (with_reducible refine Va.drew ?_) | (with_reducible refine Va.st ?_ ?_ (by omega)) | (with_reducible refine Va.up ?_ (by with_reducible assumption)) | (with_reducible refine Vx.put ?_ ?_) | (with_reducible refine Vx.other ?_ ?_ (by omega)) | (with_reducible refine Vx.new0 (by first | rfl | (simp only [World.size_alloc, World.size_drew, World.size_setCell]; done) | (simp only [World.size_alloc, World.size_drew, World.size_setCell]; omega) | omega)) | (with_reducible refine Vx.new (by first | rfl | (simp only [World.size_alloc, World.size_drew, World.size_setCell]; done) | (simp only [World.size_alloc, World.size_drew, World.size_setCell]; omega) | omega) ?_) | (with_reducible refine Vx.alloc ?_ _) | (with_reducible refine Vx.drew ?_) | (with_reducible refine Vx.up ?_ (by with_reducible assumption)) | (with_reducible refine It.st ?_ ?_) | (with_reducible refine It.alloc ?_ _) | (with_reducible refine It.drew ?_) | (with_reducible refine It.up ?_ (by with_reducible assumption)) | (with_reducible refine Nt.st ?_ ?_) | (with_reducible refine Nt.alloc ?_ _) | (with_reducible refine Nt.drew ?_) | (with_reducible refine Nt.up ?_ (by with_reducible assumption)) | (with_reducible refine Bl.st ?_ (by omega)) | (with_reducible refine Bl.alloc ?_ _) | (with_reducible refine Bl.drew ?_) | (with_reducible refine Bl.up ?_ (by with_reducible assumption)) | (with_reducible exact Below.refl _ _))))⟩
          case measure => simp [intOf]; omega
      · have i1 : ¬ (i : Int) < (K.length : Int) := by omega
        have y0 := G.F.y0
        have y1 := G.F.y1
        have y2 := G.F.y2
        have y3 := G.F.y3
        have y4 := G.F.y4
        have hR5 : (R : Int) ≤ 5 := by omega
        clear hlt hi
        go_wp2_with fail
        refine (row_any wr.heap.size 0 5 5 [c0, c1, c2, c3, c4] _ rfl (by decide) (fun i hi => ?_) (fun i hi => ?_)).mono ?_
        · rw [World.cell?_alloc_at _ _ _ _ rfl]
          rcases i with _ | _ | _ | _ | _ | i
          · rfl
          · rfl
          · rfl
          · rfl
          · rfl
          · omega
        · rcases i with _ | _ | _ | _ | _ | i
          · exact (show -9223372036854775808 ≤ c0 ∧ c0 ≤ 9223372036854775807 by omega)
          · exact (show -9223372036854775808 ≤ c1 ∧ c1 ≤ 9223372036854775807 by omega)
          · exact (show -9223372036854775808 ≤ c2 ∧ c2 ≤ 9223372036854775807 by omega)
          · exact (show -9223372036854775808 ≤ c3 ∧ c3 ≤ 9223372036854775807 by omega)
          · exact (show -9223372036854775808 ≤ c4 ∧ c4 ≤ 9223372036854775807 by omega)
          · omega
        rintro e W8 ⟨vl, rfl, hl, hb⟩
        have hlb : ∀ k, Bt (([c0, c1, c2, c3, c4].take R).getD k 0) 9 := getD_take_bt (bt_list (by
          intro x hx
          simp at hx
          rcases hx with rfl | rfl | rfl | rfl | rfl <;> exact bt_small (by assumption))) R
        obtain ⟨al, cl, rfl, hcl, -⟩ := id hl
        have hcl' : 5 ≤ cl := hcl
        have hl' := rw_front (n := R) hl (by simp; omega)
        have hll : ([c0, c1, c2, c3, c4].take R).length = R := by simp; omega
        generalize [c0, c1, c2, c3, c4].take R = l at *
        replace G := G.up ((below_new wr _).trans (hb.mono (by simp)))
        clear hl hb y0 y1 y2 y3 y4 hcl k0
        have k0 := G.k0
        rw [show ([c0, c1, c2, c3, c4] : List Int).length = 5 from rfl]
        go_upto_region 18 with fail
        have CC := Lib.hid fun W (hW : Below W8.heap.size W8 W) => combined_g (c := l) _ _ W (G.F.mx.up hW) (hl'.up hW) hsh hll (by omega) (by omega) hbt hlb (by decide) (by decide)
        have CS := Lib.hid fun va vb W (h1 : Rw W va (combR m l n R)) (h2 : Rw W vb (zRow n)) => same0_g (c := l) va vb W h1 h2 (by omega) (by omega) hbt hlb (by decide) (by decide)
        have hmk := mk_row (n : Int) n rfl (by omega)
        have CI := Lib.hid fun W (hW : Below W8.heap.size W8 W) => kernel_in hK hsh hR0 (by omega) (by decide) (by decide) _ _ l W (G.km.up hW) (hl'.up hW) hll (fun k => (hlb k).mono (by decide))
        have CT := Lib.hid fun va W (hv : It W va 2) (hW : Below W8.heap.size W8 W) => times_any va _ 2 l W hv (hl'.up hW) (by omega) (by decide) (fun k => Nat.le_trans (sz30 (hlb k) (by decide)) (by decide))
        have htl : (timesR 2 l).length = R := by rw [timesR_len]; exact hll
        have htb : ∀ k, Bt ((timesR 2 l).getD k 0) 6480 := fun k => by
          rw [timesR_at]
          exact (bt_double (hlb k)).mono (by decide)
        have CJ := Lib.hid fun vt W (ht : Rw W vt (timesR 2 l)) (hW : Below W8.heap.size W8 W) => kernel_in hK hsh hR0 (by omega) (by decide) (by decide) _ _ (timesR 2 l) W (G.km.up hW) ht htl htb
        rw [zb_times] at CJ
        go_region_held3 (fun w' => w'.cell? ⟨Bk, 0, none⟩ = some (.slice ak K.length ck))
          ((repeat' (first | with_reducible assumption | (with_reducible refine And.intro ?_ ?_) | (with_reducible refine cellD ?_) | (with_reducible refine cellN ?_ _) | (with_reducible refine cellS ?_ (by omega)) | (with_reducible refine keepc (by with_reducible assumption) ?_))))
          (first
            | (go_at_call 19; (refine (CC.out _ (by (repeat' (first | with_reducible assumption | (with_reducible exact Vx.va (by with_reducible assumption)) | (with_reducible refine Va.new0 (by first | rfl | (simp only [World.size_alloc, World.size_drew, World.size_setCell]; done) | (simp only [World.size_alloc, World.size_drew, World.size_setCell]; omega) | omega)) | (with_reducible refine Va.alloc ?_ _) | (with_reducible refine Va.drew ?_) | (with_reducible refine Va.st ?_ ?_ (by omega)) | (with_reducible refine Va.up ?_ (by with_reducible assumption)) | (with_reducible refine Vx.put ?_ ?_) | (with_reducible refine Vx.other ?_ ?_ (by omega)) | (with_reducible refine Vx.new0 (by first | rfl | (simp only [World.size_alloc, World.size_drew, World.size_setCell]; done) | (simp only [World.size_alloc, World.size_drew, World.size_setCell]; omega) | omega)) | (with_reducible refine Vx.new (by first | rfl | (simp only [World.size_alloc, World.size_drew, World.size_setCell]; done) | (simp only [World.size_alloc, World.size_drew, World.size_setCell]; omega) | omega) ?_) | (with_reducible refine Vx.alloc ?_ _) | (with_reducible refine Vx.drew ?_) | (with_reducible refine Vx.up ?_ (by with_reducible assumption)) | (with_reducible refine It.st ?_ ?_) | (with_reducible refine It.alloc ?_ _) | (with_reducible refine It.drew ?_) | (with_reducible refine It.up ?_ (by with_reducible assumption)) | (with_reducible refine Nt.st ?_ ?_) | (with_reducible refine Nt.alloc ?_ _) | (with_reducible refine Nt.drew ?_) | (with_reducible refine Nt.up ?_ (by with_reducible assumption)) | (with_reducible refine Bl.st ?_ (by omega)) | (with_reducible refine Bl.alloc ?_ _) | (with_reducible refine Bl.drew ?_) | (with_reducible refine Bl.up ?_ (by with_reducible assumption)) | (with_reducible exact Below.refl _ _))))).mono ?_); rintro e w2 ⟨v, rfl, hvc, hb2⟩)
            | (go_at_call 18; (refine (CS.out _ _ _ (by first | exact hvc | exact hvc.up (below_new _ _)) (by first | exact rw_zr _ _ | exact ((rw_zr W8 n).drew).up hb2)).mono ?_); rintro e w3 ⟨rfl, hb3⟩))
        all_goals
          have hb8 : Below W8.heap.size W8 w3 := by (repeat' (first | with_reducible assumption | (with_reducible exact Vx.va (by with_reducible assumption)) | (with_reducible refine Va.new0 (by first | rfl | (simp only [World.size_alloc, World.size_drew, World.size_setCell]; done) | (simp only [World.size_alloc, World.size_drew, World.size_setCell]; omega) | omega)) | (with_reducible refine Va.alloc ?_ _) | (with_reducible refine Va.drew ?_) | (with_reducible refine Va.st ?_ ?_ (by omega)) | (with_reducible refine Va.up ?_ (by with_reducible assumption)) | (with_reducible refine Vx.put ?_ ?_) | (with_reducible refine Vx.other ?_ ?_ (by omega)) | (with_reducible refine Vx.new0 (by first | rfl | (simp only [World.size_alloc, World.size_drew, World.size_setCell]; done) | (simp only [World.size_alloc, World.size_drew, World.size_setCell]; omega) | omega)) | (with_reducible refine Vx.new (by first | rfl | (simp only [World.size_alloc, World.size_drew, World.size_setCell]; done) | (simp only [World.size_alloc, World.size_drew, World.size_setCell]; omega) | omega) ?_) | (with_reducible refine Vx.alloc ?_ _) | (with_reducible refine Vx.drew ?_) | (with_reducible refine Vx.up ?_ (by with_reducible assumption)) | (with_reducible refine It.st ?_ ?_) | (with_reducible refine It.alloc ?_ _) | (with_reducible refine It.drew ?_) | (with_reducible refine It.up ?_ (by with_reducible assumption)) | (with_reducible refine Nt.st ?_ ?_) | (with_reducible refine Nt.alloc ?_ _) | (with_reducible refine Nt.drew ?_) | (with_reducible refine Nt.up ?_ (by with_reducible assumption)) | (with_reducible refine Bl.st ?_ (by omega)) | (with_reducible refine Bl.alloc ?_ _) | (with_reducible refine Bl.drew ?_) | (with_reducible refine Bl.up ?_ (by with_reducible assumption)) | (with_reducible exact Below.refl _ _)))
          clear hb2 hb3 hvc k0
          have k0 := keepc hb8 G.k0
          go_wp2_with fail
          refine (CI.out _ hb8).mono ?_
          rintro e W9 ⟨rfl, hb9⟩
          replace hb8 := Bl.up hb8 hb9
          clear hb9 k0
          have k0 := keepc hb8 G.k0
          go_upto_region 20 with fail
          go_region_held3 (fun w' => w'.cell? ⟨Bk, 0, none⟩ = some (.slice ak K.length ck))
            ((repeat' (first | with_reducible assumption | (with_reducible refine And.intro ?_ ?_) | (with_reducible refine cellD ?_) | (with_reducible refine cellN ?_ _) | (with_reducible refine cellS ?_ (by omega)) | (with_reducible refine keepc (by with_reducible assumption) ?_))))
            (first
              | (go_at_call 13; (refine (rof_any 2 _ (by decide) (by decide)).mono ?_); rintro e w2 ⟨v2, rfl, hv2, hb2⟩)
              | (go_at_call 12; (refine (CT.out _ _ hv2 (by (repeat' (first | with_reducible assumption | (with_reducible exact Vx.va (by with_reducible assumption)) | (with_reducible refine Va.new0 (by first | rfl | (simp only [World.size_alloc, World.size_drew, World.size_setCell]; done) | (simp only [World.size_alloc, World.size_drew, World.size_setCell]; omega) | omega)) | (with_reducible refine Va.alloc ?_ _) | (with_reducible refine Va.drew ?_) | (with_reducible refine Va.st ?_ ?_ (by omega)) | (with_reducible refine Va.up ?_ (by with_reducible assumption)) | (with_reducible refine Vx.put ?_ ?_) | (with_reducible refine Vx.other ?_ ?_ (by omega)) | (with_reducible refine Vx.new0 (by first | rfl | (simp only [World.size_alloc, World.size_drew, World.size_setCell]; done) | (simp only [World.size_alloc, World.size_drew, World.size_setCell]; omega) | omega)) | (with_reducible refine Vx.new (by first | rfl | (simp only [World.size_alloc, World.size_drew, World.size_setCell]; done) | (simp only [World.size_alloc, World.size_drew, World.size_setCell]; omega) | omega) ?_) | (with_reducible refine Vx.alloc ?_ _) | (with_reducible refine Vx.drew ?_) | (with_reducible refine Vx.up ?_ (by with_reducible assumption)) | (with_reducible refine It.st ?_ ?_) | (with_reducible refine It.alloc ?_ _) | (with_reducible refine It.drew ?_) | (with_reducible refine It.up ?_ (by with_reducible assumption)) | (with_reducible refine Nt.st ?_ ?_) | (with_reducible refine Nt.alloc ?_ _) | (with_reducible refine Nt.drew ?_) | (with_reducible refine Nt.up ?_ (by with_reducible assumption)) | (with_reducible refine Bl.st ?_ (by omega)) | (with_reducible refine Bl.alloc ?_ _) | (with_reducible refine Bl.drew ?_) | (with_reducible refine Bl.up ?_ (by with_reducible assumption)) | (with_reducible exact Below.refl _ _))))).mono ?_); rintro e w3 ⟨v3, rfl, hv3, hb3⟩)
              | (go_at_call 21; (refine (CJ.out _ _ hv3 (by (repeat' (first | with_reducible assumption | (with_reducible exact Vx.va (by with_reducible assumption)) | (with_reducible refine Va.new0 (by first | rfl | (simp only [World.size_alloc, World.size_drew, World.size_setCell]; done) | (simp only [World.size_alloc, World.size_drew, World.size_setCell]; omega) | omega)) | (with_reducible refine Va.alloc ?_ _) | (with_reducible refine Va.drew ?_) | (with_reducible refine Va.st ?_ ?_ (by omega)) | (with_reducible refine Va.up ?_ (by with_reducible assumption)) | (with_reducible refine Vx.put ?_ ?_) | (with_reducible refine Vx.other ?_ ?_ (by omega)) | (with_reducible refine Vx.new0 (by first | rfl | (simp only [World.size_alloc, World.size_drew, World.size_setCell]; done) | (simp only [World.size_alloc, World.size_drew, World.size_setCell]; omega) | omega)) | (with_reducible refine Vx.new (by first | rfl | (simp only [World.size_alloc, World.size_drew, World.size_setCell]; done) | (simp only [World.size_alloc, World.size_drew, World.size_setCell]; omega) | omega) ?_) | (with_reducible refine Vx.alloc ?_ _) | (with_reducible refine Vx.drew ?_) | (with_reducible refine Vx.up ?_ (by with_reducible assumption)) | (with_reducible refine It.st ?_ ?_) | (with_reducible refine It.alloc ?_ _) | (with_reducible refine It.drew ?_) | (with_reducible refine It.up ?_ (by with_reducible assumption)) | (with_reducible refine Nt.st ?_ ?_) | (with_reducible refine Nt.alloc ?_ _) | (with_reducible refine Nt.drew ?_) | (with_reducible refine Nt.up ?_ (by with_reducible assumption)) | (with_reducible refine Bl.st ?_ (by omega)) | (with_reducible refine Bl.alloc ?_ _) | (with_reducible refine Bl.drew ?_) | (with_reducible refine Bl.up ?_ (by with_reducible assumption)) | (with_reducible exact Below.refl _ _))))).mono ?_); rintro e w4 ⟨rfl, hb4⟩))
          have hb7 : Below W8.heap.size W8 w4 := by (repeat' (first | with_reducible assumption | (with_reducible exact Vx.va (by with_reducible assumption)) | (with_reducible refine Va.new0 (by first | rfl | (simp only [World.size_alloc, World.size_drew, World.size_setCell]; done) | (simp only [World.size_alloc, World.size_drew, World.size_setCell]; omega) | omega)) | (with_reducible refine Va.alloc ?_ _) | (with_reducible refine Va.drew ?_) | (with_reducible refine Va.st ?_ ?_ (by omega)) | (with_reducible refine Va.up ?_ (by with_reducible assumption)) | (with_reducible refine Vx.put ?_ ?_) | (with_reducible refine Vx.other ?_ ?_ (by omega)) | (with_reducible refine Vx.new0 (by first | rfl | (simp only [World.size_alloc, World.size_drew, World.size_setCell]; done) | (simp only [World.size_alloc, World.size_drew, World.size_setCell]; omega) | omega)) | (with_reducible refine Vx.new (by first | rfl | (simp only [World.size_alloc, World.size_drew, World.size_setCell]; done) | (simp only [World.size_alloc, World.size_drew, World.size_setCell]; omega) | omega) ?_) | (with_reducible refine Vx.alloc ?_ _) | (with_reducible refine Vx.drew ?_) | (with_reducible refine Vx.up ?_ (by with_reducible assumption)) | (with_reducible refine It.st ?_ ?_) | (with_reducible refine It.alloc ?_ _) | (with_reducible refine It.drew ?_) | (with_reducible refine It.up ?_ (by with_reducible assumption)) | (with_reducible refine Nt.st ?_ ?_) | (with_reducible refine Nt.alloc ?_ _) | (with_reducible refine Nt.drew ?_) | (with_reducible refine Nt.up ?_ (by with_reducible assumption)) | (with_reducible refine Bl.st ?_ (by omega)) | (with_reducible refine Bl.alloc ?_ _) | (with_reducible refine Bl.drew ?_) | (with_reducible refine Bl.up ?_ (by with_reducible assumption)) | (with_reducible exact Below.refl _ _)))
          have hbz := Bl.up G.F.bl hb7
          clear hb2 hb3 hb4 hv2 hv3 hb7 hb8
          go_wp2_with fail
          go_ret
          exact ⟨rfl, hbz⟩
end Go.Proofs.Ytdbpkoddfcdhdaa
