/-
  algoristlaw12.LatticeSame: the walk.
-/
import Derived.IntWalk
import Derived.Test.YtdbpkoddfcdhdaaPY
import Derived.Test.YtdbpkoddfcdhdaaPO
set_option linter.unusedSimpArgs false
set_option linter.unusedVariables false

namespace Go.Proofs.Ytdbpkoddfcdhdaa
open Go.RowKit
attribute [local go_sem ↓] Go.wp_at_zero Go.wp_at_succ

/-- What lasts: two numbers, the matrix. -/
structure SaF (w : World) (n0 n1 : Int) (vm : Value) (m : List (List Int)) (W : World) : Prop where
  bl : Below w.heap.size w W
  y0 : W.cell? ⟨w.heap.size + 1, 0, none⟩ = some (.int .u8 n0)
  y1 : W.cell? ⟨w.heap.size + 1, 1, none⟩ = some (.int .u8 n1)
  mx : Mx W vm m
theorem SaF.up {w : World} {n0 n1 : Int} {vm : Value} {m : List (List Int)} {W W' : World} (h : SaF w n0 n1 vm m W) (hb : Below W.heap.size W W') : SaF w n0 n1 vm m W' :=
  ⟨Bl.up h.bl hb, keepc hb h.y0, keepc hb h.y1, h.mx.up hb⟩

/-- .. and the normal form. -/
structure SaG (w : World) (n0 n1 : Int) (vm : Value) (m : List (List Int)) (B : Nat) (ak : Option Addr) (ck : Nat) (h : List (List Int)) (W : World) : Prop where
  F : SaF w n0 n1 vm m W
  k0 : W.cell? ⟨B, 0, none⟩ = some (.slice ak h.length ck)
  k1 : W.cell? ⟨B, 1, none⟩ = some (.int .i64 0)
  hm : Mx W (.slice ak h.length ck) h
theorem SaG.up {w : World} {n0 n1 : Int} {vm : Value} {m : List (List Int)} {B : Nat} {ak : Option Addr} {ck : Nat} {h : List (List Int)} {W W' : World} (x : SaG w n0 n1 vm m B ak ck h W) (hb : Below W.heap.size W W') : SaG w n0 n1 vm m B ak ck h W' :=
  ⟨x.F.up hb, keepc hb x.k0, keepc hb x.k1, x.hm.up hb⟩

/-- The other matrix. -/
structure SaO (w7 : World) (R g cap : Nat) (m : List (List Int)) (W : World) : Prop where
  bl : Below w7.heap.size w7 W
  am : Am2 W w7.heap.size (.slice (some ⟨g, 0, none⟩) R cap) m
theorem SaO.up {w7 : World} {R g cap : Nat} {m : List (List Int)} {W W' : World} (h : SaO w7 R g cap m W) (hb : Below W.heap.size W W') : SaO w7 R g cap m W' := ⟨Bl.up h.bl hb, h.am.up hb⟩
theorem SaO.set {w7 : World} {R g cap : Nat} {m : List (List Int)} {W : World} (h : SaO w7 R g cap m W) {i : Nat} {x : List Int} {c : Option Addr} {n k : Nat} (hi : i < m.length) (hn : x.length = n) (hr : Rw W (.slice c n k) x) :
    SaO w7 R g cap (m.set i x) (W.setCell ⟨g, i, none⟩ (.slice c n k)) := by
  subst hn
  exact ⟨h.bl.setCell (h.am.slot hi).1 _, h.am.set hi hr⟩

def Strue (w : World) (e : Ending) (w' : World) : Prop := e = .returned (.bool true) ∧ Below w.heap.size w w'

set_option maxRecDepth 100000 in
set_option maxHeartbeats 8000000 in
theorem sameL_any (r c : Nat) (a : Option Addr) (cap : Nat) (V : List Int) (n0 n1 : Nat) (kk : Int) (w : World) (hV : Cl w a V.length (fun i => .int .i8 (V.getD i 0))) (hv : ∀ i, -128 ≤ V.getD i 0 ∧ V.getD i 0 ≤ 127) (hN : V.length ≤ 9223372036854775807)
    (hr : r ≤ 255) (hc : c ≤ 255) (h0 : n0 ≤ 255) (h1 : n1 ≤ 255) (hkk : -32768 ≤ kk ∧ kk ≤ 32767) :
    Calls Try.prog 3 #[.agg #[.int .u8 (r : Int), .int .u8 (c : Int), .slice a V.length cap], .agg #[.int .u8 (n0 : Int), .int .u8 (n1 : Int)], .int .i16 kk] w (Strue w) := by
  have CM := Lib.hid fun W (hW : Below w.heap.size w W) => rmade_any r c 5 5 a cap V W (hV.up hW) hv hN hr hc (by decide) (by decide) (by decide)
  have hnb : c % 5 < 5 := Nat.mod_lt _ (by decide)
  have hRb : r % (5 + 1) < 5 + 1 := Nat.mod_lt _ (by decide)
  have hbt := madeM_bt V (r % (5 + 1)) (1 + c % 5) hv
  have hsh := madeM_shape V (r % (5 + 1)) (1 + c % 5)
  obtain ⟨n, hn⟩ : ∃ n, n = 1 + c % 5 := ⟨_, rfl⟩
  obtain ⟨R, hR⟩ : ∃ R, R = r % (5 + 1) := ⟨_, rfl⟩
  have hn0 : 0 < n := by omega
  have hn1 : n ≤ 5 := by omega
  have hR1 : R ≤ 5 := by omega
  rw [← hn, ← hR] at hbt hsh
  simp only [← hn, ← hR] at CM
  generalize hm : madeM V R n = m at *
  clear hm hn hR hnb hRb hv hV hN
  go_enter Try.func3, Try.ntmps3
  go_wp2_with fail
  obtain ⟨W2, hW2⟩ : ∃ W2, W2 = (w.alloc (.cells #[.int .u8 (r : Int), .int .u8 (c : Int), .slice a V.length cap] 24)).alloc (.cells #[.int .u8 (n0 : Int), .int .u8 (n1 : Int)] 25) := ⟨_, rfl⟩
  have b2 : Below w.heap.size w W2 := by rw [hW2]; exact Bl.alloc (below_new _ _) _
  have x0 : W2.cell? ⟨w.heap.size, 0, none⟩ = some (.int .u8 (r : Int)) := by rw [hW2]; exact cellN (by rw [World.cell?_alloc_at _ _ _ _ rfl]; rfl) _
  have x1 : W2.cell? ⟨w.heap.size, 1, none⟩ = some (.int .u8 (c : Int)) := by rw [hW2]; exact cellN (by rw [World.cell?_alloc_at _ _ _ _ rfl]; rfl) _
  have x2 : W2.cell? ⟨w.heap.size, 2, none⟩ = some (.slice a V.length cap) := by rw [hW2]; exact cellN (by rw [World.cell?_alloc_at _ _ _ _ rfl]; rfl) _
  have y0 : W2.cell? ⟨w.heap.size + 1, 0, none⟩ = some (.int .u8 (n0 : Int)) := by rw [hW2, World.cell?_alloc_at _ _ _ _ (by simp)]; rfl
  have y1 : W2.cell? ⟨w.heap.size + 1, 1, none⟩ = some (.int .u8 (n1 : Int)) := by rw [hW2, World.cell?_alloc_at _ _ _ _ (by simp)]; rfl
  rw [← hW2]
  clear hW2
  refine (examples_any _).mono ?_
  rintro e W3 ⟨rfl, hb⟩
  replace b2 := Bl.up b2 hb
  replace x0 := keepc hb x0
  replace x1 := keepc hb x1
  replace x2 := keepc hb x2
  replace y0 := keepc hb y0
  replace y1 := keepc hb y1
  clear hb
  go_wp2_with fail
  refine (CM.out _ b2).mono ?_
  rintro e W4 ⟨vm, rfl, hM, hb⟩
  have F : SaF w n0 n1 vm m W4 := ⟨Bl.up b2 hb, keepc hb y0, keepc hb y1, hM⟩
  clear hb b2 x0 x1 x2 y0 y1 hM CM
  obtain ⟨am, cm, rfl, -, hMi⟩ := id F.mx
  rw [hsh.1] at F ⊢
  rcases Nat.eq_zero_or_pos R with hR0 | hR0
  · subst hR0
    have hm0 : m = [] := List.eq_nil_of_length_eq_zero hsh.1
    subst hm0
    have hH := Lhermite_any (.slice am 0 cm) W4 0 (fun h => h = []) (fun h hh i hi => by subst hh; exact absurd hi (Nat.not_lt_zero i))
      (fun W hW => (Hermite_nil _ W (F.mx.up hW)).mono (by rintro e w' ⟨rfl, hb⟩; exact ⟨_, [], rfl, rfl, ⟨none, 0, rfl, Nat.le_refl _, .inl rfl⟩, hb⟩))
    go_wp2_with fail
    refine hH.mono ?_
    rintro e W5 ⟨vh, h, rfl, rfl, hhm, hb⟩
    obtain ⟨ah, ch, rfl, -, -⟩ := id hhm
    have hbz := Bl.alloc (Bl.up F.bl hb) (.cells #[.slice ah 0 ch, .int .i64 0] 33)
    clear hb hH
    go_wp2_with fail
    go_ret
    exact ⟨rfl, hbz⟩
  · have hRne : ((R : Int) == 0) = false := by rw [beq_eq_false_iff_ne]; omega
    have hH := Lhermite_any (.slice am R cm) W4 0 (fun h => ∃ piv, Herm R n m h 6480 piv) (fun h ⟨piv, hh⟩ i hi => by rw [hh.sh.2 i hi]; exact hn0)
      (fun W hW => Hermite_g (E := 9) _ W (F.mx.up hW) hsh hR0 hR1 hn0 (by omega) (by decide) (by decide) hbt)
    go_wp2_with fail
    refine hH.mono ?_
    rintro e W5 ⟨vh, h, rfl, ⟨piv, hh⟩, hhm, hb⟩
    clear hH
    obtain ⟨ak, ck, rfl, -, -⟩ := id hhm
    replace F := F.up hb
    clear hb
    go_upto_region 6 with fail
    obtain ⟨W6, hW6⟩ : ∃ W6, W6 = W5.alloc (.cells #[.slice ak h.length ck, .int .i64 0] 33) := ⟨_, rfl⟩
    have G : SaG w n0 n1 (.slice am R cm) m W5.heap.size ak ck h W6 := ⟨F.up (by rw [hW6]; exact below_new _ _), by rw [hW6, World.cell?_alloc_at _ _ _ _ rfl]; rfl, by rw [hW6, World.cell?_alloc_at _ _ _ _ rfl]; rfl, hhm.up (by rw [hW6]; exact below_new _ _)⟩
    rw [← hW6]
    clear hW6 F hhm
    generalize W5.heap.size = Bk at *
    obtain ⟨_, _, e0, -, hMi'⟩ := id G.F.mx
    rw [hsh.1] at e0
    injection e0 with e1 e2 e3
    subst e1
    clear e2 e3 hMi hMi'
    have hhl : h.length ≤ 5 := Nat.le_trans hh.le hR1
    have k0 := G.k0
    have k1 := G.k1
    go_wp2_with fail
    go_loopw [10] (fun s wq => ∃ i, i ≤ R ∧ s = .int .i64 i ∧ SaG w n0 n1 (.slice am R cm) m Bk ak ck h wq) (fun s _ => R - (intOf s).toNat)
    case atStart => exact ⟨0, Nat.zero_le _, rfl, G⟩
    case round =>
      clear G k0 k1
      obtain ⟨i, hi, rfl, G⟩ := hrel
      have i0 : (0 : Int) ≤ (i : Int) := by omega
      have k0 := G.k0
      by_cases hlt : i < R
      · have i1 : (i : Int) < (R : Int) := by omega
        obtain ⟨_, _, e0, -, hMi⟩ := id G.F.mx
        rw [hsh.1] at e0
        injection e0 with e1 e2 e3
        subst e1
        clear e2 e3
        obtain ⟨xb, xo, rfl, hxb, hxc⟩ := hMi.at (by rw [hsh.1]; exact hR0)
        obtain ⟨ci, ki, r0, r1⟩ := hxc i (by rw [hsh.1]; exact hlt)
        rw [hsh.2 i hlt] at r0 r1
        have hIn := Lin_any (.slice ak h.length ck) (.slice ci n ki) wr.drew true 0 (fun W hW => herm_in hh hR1 hn0 (by omega) (by decide) (by decide) _ _ (m.getD i []) W (G.hm.drew.up hW) (r1.drew.up hW) (hsh.2 i hlt) (fun k => (hbt i k).mono (by decide : 9 ≤ 6480)) (Lat.row hlt))
        rw [show (true && decide ((0 : Int) = 0)) = true from rfl] at hIn
        have HIN := Lib.hid hIn
        clear hIn hxc hMi
        go_upto_region 13 with fail
        go_region_held3 (fun w' => w'.cell? ⟨Bk, 0, none⟩ = some (.slice ak h.length ck) ∧ w'.cell? ⟨xb, xo + i, none⟩ = some (.slice ci n ki))
          ((repeat' (first | with_reducible assumption | (with_reducible refine And.intro ?_ ?_) | (with_reducible refine cellD ?_) | (with_reducible refine cellN ?_ _) | (with_reducible refine cellS ?_ (by omega)) | (with_reducible refine keepc (by with_reducible assumption) ?_))))
          (first
            | (go_at_call 11; (refine HIN.out.mono ?_); rintro e w2 ⟨rfl, hb2⟩))
        go_wp2_with fail
        go_roundw
        case rel => exact ⟨i + 1, by omega, by go_num, (G.up (Below.refl _ _).drew).up hb2⟩
        case measure => simp [intOf]; omega
      · have i1 : ¬ (i : Int) < (R : Int) := by omega
        clear hlt hi
        go_wp2_with fail
        clear k0
        go_loopw [11] (fun s wq => ∃ i, i ≤ h.length ∧ s = .int .i64 i ∧ SaG w n0 n1 (.slice am R cm) m Bk ak ck h wq) (fun s _ => h.length - (intOf s).toNat)
        case atStart => exact ⟨0, Nat.zero_le _, rfl, G⟩
        case round =>
          clear G
          obtain ⟨i, hi, rfl, G⟩ := hrel
          have i0 : (0 : Int) ≤ (i : Int) := by omega
          have k0 := G.k0
          obtain ⟨_, _, e0, -, hMi⟩ := id G.F.mx
          rw [hsh.1] at e0
          injection e0 with e1 e2 e3
          subst e1
          clear e2 e3
          obtain ⟨xb, xo, rfl, hxb, hxc⟩ := hMi.at (by rw [hsh.1]; exact hR0)
          by_cases hlt : i < h.length
          · have i1 : (i : Int) < (h.length : Int) := by omega
            obtain ⟨cc, kc, c0', -⟩ := hxc 0 (by rw [hsh.1]; exact hR0)
            rw [hsh.2 0 hR0] at c0'
            have z0 : wr.cell? ⟨xb, xo, none⟩ = some (.slice cc n kc) := c0'
            obtain ⟨_, _, e0, -, hKi⟩ := id G.hm
            injection e0 with e1 e2 e3
            subst e1
            clear e2 e3
            obtain ⟨xk, ok, rfl, hxk, hkc⟩ := hKi.at hlt
            obtain ⟨ci, ki, r0, r1⟩ := hkc i hlt
            have hlen : (h.getD i []).length = n := hh.sh.2 i hlt
            rw [hlen] at r0 r1
            have hIn := Lin_any (.slice (some ⟨xb, xo, none⟩) R cm) (.slice ci n ki) wr.drew true 0 (fun W hW => (In_g (trkplan_g hsh hR1 (by decide : 2 ≤ 9) (by decide) hbt) _ _ (h.getD i []) W (G.F.mx.drew.up hW) (r1.drew.up hW) hsh hlen hR0 (by omega) hn0 (by omega) (fun k => hh.bt i k) (by decide) (by omega)).mono (by
              rintro e w' ⟨b, rfl, hbl, hb⟩
              rw [hbl.2 ((hh.lat _).1 (Lat.row hlt))]
              exact ⟨rfl, hb⟩))
            rw [show (true && decide ((0 : Int) = 0)) = true from rfl] at hIn
            have HIN := Lib.hid hIn
            have hnn : ((n : Int) != (n : Int)) = false := by simp
            have hR0' : (0 : Int) < (R : Int) := by omega
            clear hIn hxc hMi hkc hKi c0' hlen
            go_upto_region 18 with fail
            go_region_held3 (fun w' => w'.cell? ⟨Bk, 0, none⟩ = some (.slice (some ⟨xk, ok, none⟩) h.length ck) ∧ w'.cell? ⟨xk, ok + i, none⟩ = some (.slice ci n ki) ∧ w'.cell? ⟨xb, xo, none⟩ = some (.slice cc n kc))
              ((repeat' (first | with_reducible assumption | (with_reducible refine And.intro ?_ ?_) | (with_reducible refine cellD ?_) | (with_reducible refine cellN ?_ _) | (with_reducible refine cellS ?_ (by omega)) | (with_reducible refine keepc (by with_reducible assumption) ?_))))
              (first
                | (go_at_call 11; (refine HIN.out.mono ?_); rintro e w2 ⟨rfl, hb2⟩))
            go_wp2_with fail
            go_roundw
            case rel => exact ⟨i + 1, by omega, by go_num, (G.up (Below.refl _ _).drew).up hb2⟩
            case measure => simp [intOf]; omega
          · have i1 : ¬ (i : Int) < (h.length : Int) := by omega
            clear hlt hi
            obtain ⟨A, hA⟩ : ∃ A, A = n0 % R := ⟨_, rfl⟩
            obtain ⟨B, hB⟩ : ∃ B, B = n1 % R := ⟨_, rfl⟩
            have hAl : A < R := by rw [hA]; exact Nat.mod_lt _ hR0
            have hBl : B < R := by rw [hB]; exact Nat.mod_lt _ hR0
            have y0 := G.F.y0
            have y1 := G.F.y1
            have q0 : (n0 : Int) % (R : Int) = (A : Int) := by rw [hA]; simp
            have q1 : (n1 : Int) % (R : Int) = (B : Int) := by rw [hB]; simp
            have Q0 := Lib.hid q0
            have Q1 := Lib.hid q1
            have w0 : IntKind.i64.wrap (n0 : Int) = (n0 : Int) := IntWalk.i64_in _ (by omega)
            have w1 : IntKind.i64.wrap (n1 : Int) = (n1 : Int) := IntWalk.i64_in _ (by omega)
            have u0 : (0 : Int) ≤ (n0 : Int) := by omega
            have u1 : (0 : Int) ≤ (n1 : Int) := by omega
            have u2 : (0 : Int) < (R : Int) := by omega
            clear hA hB q0 q1
            go_upto_region 20 with fail
            go_quiet (fail)
            clear w0 w1 y0 y1 k0
            rw [Q0.out, Q1.out]
            replace G := G.up (below_drewN wr nq)
            have hxb7 : xb < (wr.drewN nq).heap.size := Nat.lt_of_lt_of_le hxb (below_drewN wr nq).size
            clear hxc hMi
            generalize wr.drewN nq = W7 at *
            have hm0 := hsh.1
            go_wp2_with (at_builtin; go_must (refine wpl_apM rfl (.tmp 90) (.tmp 91) _ rfl Try.underlying29 W7.heap.size (.slice (some ⟨W7.heap.size, 0, none⟩) 0 0) [] m rfl (Am2.lit0 W7 (Nat.le_refl _)) (by simp) (some ⟨xb, xo, none⟩) R cm hm0 rfl (G.F.mx.up (below_new _ _)) hR0 (by simp; omega) ?_); rw [List.length_nil, Nat.zero_add, List.nil_append]; intro g cap W8 hAm8 hb8)
            have O : SaO W7 R g cap m W8 := ⟨(below_new _ _).trans (hb8.mono (by simp)), hAm8⟩
            clear hAm8 hb8
            obtain ⟨_, _, e0, -, hMi⟩ := id G.F.mx
            rw [hsh.1] at e0
            injection e0 with e1 e2 e3
            subst e1
            clear e2 e3
            obtain ⟨_, _, e0, hxb, hxc⟩ := hMi.at (by rw [hsh.1]; exact hR0)
            injection e0 with e1
            injection e1 with e1 e2
            subst e1 e2
            obtain ⟨ca, ka, p0, p1⟩ := hxc A (by rw [hsh.1]; exact hAl)
            obtain ⟨cb, kb, q0, q1⟩ := hxc B (by rw [hsh.1]; exact hBl)
            rw [hsh.2 A hAl] at p0 p1
            rw [hsh.2 B hBl] at q0 q1
            have A0 : (0 : Int) ≤ (A : Int) := by omega
            have A1 : (A : Int) < (R : Int) := by omega
            have B0 : (0 : Int) ≤ (B : Int) := by omega
            have B1 : (B : Int) < (R : Int) := by omega
            have hAm : A < m.length := by omega
            have hBm : B < m.length := by omega
            have hAlen := hsh.2 A hAl
            have hBlen := hsh.2 B hBl
            have HA := Lib.hid hAlen
            have HB := Lib.hid hBlen
            clear hxc hMi
            have CT := Lib.hid fun vk W (hk : It W vk (-1)) (hW : Below W7.heap.size W7 W) => times_any vk _ (-1) (m.getD A []) W hk (p1.up hW) (by rw [hAlen]; omega) (by decide) (fun k => Nat.le_trans (sz30 (hbt A k) (by decide)) (by decide))
            have hbk : Bt kk 17 := by unfold Bt; omega
            have CP := Lib.hid fun vk W (hk : It W vk kk) (hW : Below W7.heap.size W7 W) => plusR_any _ vk _ kk (m.getD B []) (m.getD A []) W (q1.up hW) hk (p1.up hW) (by rw [hAlen, hBlen]; exact Nat.le_refl _) (by rw [hBlen]; omega) (Nat.le_trans (sz30 hbk (by decide)) (by decide)) (fun k => Nat.le_trans (sz30 (hbt B k) (by decide)) (by decide)) (fun k => Nat.le_trans (sz30 (hbt A k) (by decide)) (by decide))
            clear hAlen hBlen hbk
            obtain ⟨hg8, ⟨c8, k8, s0⟩, s1⟩ := O.am.slot hAm
            have hxg : g ≠ xb := by
              intro e
              subst e
              exact Nat.lt_irrefl _ (Nat.lt_of_lt_of_le hxb7 hg8)
            have a0 := keepc O.bl p0
            have O1 := O.up (Below.refl _ _).drew
            go_upto_region 22 with fail
            go_region_held3 (fun w' => w'.cell? ⟨xb, xo + A, none⟩ = some (.slice ca n ka))
              (first | exact cellS (keepc hb3 (keepc hb2 (cellD a0))) hxg | (repeat' (first | with_reducible assumption | (with_reducible refine And.intro ?_ ?_) | (with_reducible refine cellD ?_) | (with_reducible refine cellN ?_ _) | (with_reducible refine cellS ?_ (by omega)) | (with_reducible refine keepc (by with_reducible assumption) ?_))))
              (first
                | (go_at_call 13; (refine (rof_any (-1) _ (by decide) (by decide)).mono ?_); rintro e w2 ⟨v2, rfl, hv2, hb2⟩)
                | (go_at_call 12; (refine (CT.out _ _ hv2 (O1.up hb2).bl).mono ?_); rintro e w3 ⟨v3, rfl, hv3, hb3⟩; obtain ⟨c3, n3, k3, rfl⟩ := hv3.shape; have t0 := keepc hb3 (keepc hb2 (cellD s0)); have t1 := keepf hb3 (keepc hb2 (cellD s0)) (keepf hb2 (cellD s0) s1)))
            have hn3 : (timesR (-1) (m.getD A [])).length = n ∧ n = n3 := by
              obtain ⟨_, _, e, -, -⟩ := id hv3
              injection e with e1 e2
              rw [timesR_len, HA.out] at e2
              rw [timesR_len]
              exact ⟨HA.out, e2.symm⟩
            obtain ⟨hn3, rfl⟩ := hn3
            have O3 := ((O1.up hb2).up hb3).set hAm hn3 hv3
            clear hb2 hb3 hv2 hv3 t0 t1 s0 s1 O1 O a0
            generalize w3.setCell ⟨g, A, none⟩ (.slice c3 n k3) = W9 at *
            have hx9 : ∀ k, Bt ((timesR (-1) (m.getD A [])).getD k 0) 9 := bt_times (hbt A)
            rcases Nat.decEq A B with hAB | hAB
            case' isTrue =>
              have e : ((A : Int) != (B : Int)) = false := by rw [hAB]; simp
              go_upto_region 26 with fail
              have S9 := same_neg hsh hAl
              have T9 : ∀ j k, Bt (en (m.set A (timesR (-1) (m.getD A []))) j k) 25 := fun j k => (bt_set hbt hx9 j k).mono (by decide)
              generalize m.set A (timesR (-1) (m.getD A [])) = m' at *
            case' isFalse =>
              have e : ((A : Int) != (B : Int)) = true := by rw [bne_iff_ne]; omega
              have O9 := O3.up (Below.refl _ _).drew
              have a0 := keepc O3.bl p0
              have b0 := keepc O3.bl q0
              obtain ⟨-, ⟨c8, k8, s0⟩, s1⟩ := O3.am.slot (i := A) (by rw [List.length_set]; exact hAm)
              have hwk : IntKind.i64.wrap kk = kk := IntWalk.i64_in _ (by omega)
              go_upto_region 24 with fail
              go_region_held3 (fun w' => w'.cell? ⟨xb, xo + A, none⟩ = some (.slice ca n ka) ∧ w'.cell? ⟨xb, xo + B, none⟩ = some (.slice cb n kb))
                (first | exact cellS (keepc hb3 (keepc hb2 (cellD a0))) hxg | exact cellS (keepc hb3 (keepc hb2 (cellD b0))) hxg | (repeat' (first | with_reducible assumption | (with_reducible refine And.intro ?_ ?_) | (with_reducible refine cellD ?_) | (with_reducible refine cellN ?_ _) | (with_reducible refine cellS ?_ (by omega)) | (with_reducible refine keepc (by with_reducible assumption) ?_))))
                (first
                  | (go_at_call 13; (refine (rof_any kk _ (by omega) (by omega)).mono ?_); rintro e w2 ⟨v2, rfl, hv2, hb2⟩)
                  | (go_at_call 14; (refine (CP.out _ _ hv2 (O9.up hb2).bl).mono ?_); rintro e w3 ⟨v3, rfl, hv3, hb3⟩; obtain ⟨c3, n3, k3, rfl⟩ := hv3.shape; have t0 := keepc hb3 (keepc hb2 (cellD s0)); have t1 := keepf hb3 (keepc hb2 (cellD s0)) (keepf hb2 (cellD s0) s1)))
              have hn3' : (plusR (m.getD B []) kk (m.getD A [])).length = n ∧ n = n3 := by
                obtain ⟨_, _, e, -, -⟩ := id hv3
                injection e with e1 e2
                rw [plusR_len, HB.out] at e2
                rw [plusR_len]
                exact ⟨HB.out, e2.symm⟩
              obtain ⟨hn4, rfl⟩ := hn3'
              have O4 := ((O9.up hb2).up hb3).set (i := A) (by rw [List.length_set]; exact hAm) hn4 hv3
              clear hb2 hb3 hv2 hv3 t0 t1 s0 s1 O3 O9 a0 b0
              generalize w3.setCell ⟨g, A, none⟩ (.slice c3 n k3) = W9 at *
              have a0 := keepc O4.bl p0
              obtain ⟨-, ⟨c8, k8, s0⟩, s1⟩ := O4.am.slot (i := B) (by rw [List.length_set, List.length_set]; exact hBm)
              go_upto_region 26 with fail
              have O3 := O4.set (i := B) (by rw [List.length_set, List.length_set]; exact hBm) HA.out (p1.up O4.bl)
              clear O4 s0 s1 a0
              generalize W9.setCell ⟨g, B, none⟩ (.slice ca n ka) = W9 at *
              have S9 := same_mix hsh hAl hBl hAB kk (timesR (-1) (m.getD A []))
              have T9 : ∀ j k, Bt (en (((m.set A (timesR (-1) (m.getD A []))).set A (plusR (m.getD B []) kk (m.getD A []))).set B (m.getD A [])) j k) 25 := fun j k => bt_set (bt_set (fun j k => (bt_set hbt hx9 j k).mono (by decide)) (bt_plus hkk (hbt B) (hbt A))) (fun k => (hbt A k).mono (by decide)) j k
              generalize ((m.set A (timesR (-1) (m.getD A []))).set A (plusR (m.getD B []) kk (m.getD A []))).set B (m.getD A []) = m' at *
            all_goals
              replace G := G.up O3.bl
              have hH := Lhermite_any (.slice (some ⟨g, 0, none⟩) R cap) W9 0 (fun h => ∃ piv, Herm R n m' h 18000 piv) (fun h ⟨piv, hh⟩ i hi => by rw [hh.sh.2 i hi]; exact hn0)
                (fun W hW => Hermite_g (E := 25) _ W ((O3.up hW).am.1.mx (Below.refl _ _)) S9.1 hR0 hR1 hn0 (by omega) (by decide) (by decide) T9)
              clear CT CP p0 p1 q0 q1
              go_wp2_with fail
              refine hH.mono ?_
              rintro e W5 ⟨vh', h', rfl, ⟨piv', hh'⟩, hhm', hb⟩
              clear hH
              obtain ⟨al, cl, rfl, -, -⟩ := id hhm'
              replace G := G.up hb
              clear hb
              have eh := hh.same hh' S9.2
              subst eh
              go_upto_region 27 with fail
              obtain ⟨W6, hW6⟩ : ∃ W6, W6 = W5.alloc (.cells #[.slice al h'.length cl, .int .i64 0] 33) := ⟨_, rfl⟩
              have b6 : Below W5.heap.size W5 W6 := by rw [hW6]; exact below_new _ _
              have x0 : W6.cell? ⟨W5.heap.size, 0, none⟩ = some (.slice al h'.length cl) := by rw [hW6, World.cell?_alloc_at _ _ _ _ rfl]; rfl
              have x1 : W6.cell? ⟨W5.heap.size, 1, none⟩ = some (.int .i64 0) := by rw [hW6, World.cell?_alloc_at _ _ _ _ rfl]; rfl
              replace hhm' := hhm'.up b6
              replace G := G.up b6
              rw [← hW6]
              clear hW6 b6
              generalize W5.heap.size = Bg at *
              have k0 := G.k0
              have hsm : ∀ i, SmallR (h'.getD i []) := fun i k => Nat.le_trans (sz30 (hh.bt i k) (by decide)) (by decide)
              have hln : ∀ i, (h'.getD i []).length ≤ 1099511627776 := fun i => by
                by_cases hi : i < h'.length
                · rw [hh.sh.2 i hi]; omega
                · rw [List.getD_eq_getElem?_getD, List.getElem?_eq_none (by omega)]; simp
              have hRS := rsameM_any _ _ h' h' W6 hhm' G.hm (by omega) (by omega) hsm hsm hln hln
              rw [show sameMB h' h' = true from by simp [sameMB]] at hRS
              go_wp2_with fail
              refine hRS.mono ?_
              rintro e W7 ⟨rfl, hb⟩
              have hbz := Bl.up G.F.bl hb
              clear hb k0 x0 x1
              go_wp2_with fail
              go_ret
              exact ⟨rfl, hbz⟩
end Go.Proofs.Ytdbpkoddfcdhdaa
