/-
  algoristlaw12.LatticeDivisors: the walk.
-/
import Derived.IntWalk
import Derived.Test.YtdbpkoddfcdhdaaQA
import Derived.Test.YtdbpkoddfcdhdaaQB
import Derived.Test.YtdbpkoddfcdhdaaPO
import Derived.Test.YtdbpkoddfcdhdaaPP
set_option linter.unusedSimpArgs false
set_option linter.unusedVariables false

namespace Go.Proofs.Ytdbpkoddfcdhdaa
open Go.RowKit
attribute [local go_sem ↓] Go.wp_at_zero Go.wp_at_succ

theorem Elem.len {R N E : Nat} {m : List (List Int)} {l : List Int} (h : Elem R N m l E) : l.length ≤ R := Classical.byContradiction fun hlt =>
  prodN_ne (n := l.length) (f := lf l) (fun i hi => by have := h.ch.pos i hi; omega) (Int.zero_dvd.1 ((h.ch.md (Nat.le_refl _) (Nat.le_refl _) 0).1 ((h.md _ 0).2 (MD.many (by omega)))))

def Dtrue (w : World) (e : Ending) (w' : World) : Prop := e = .returned (.bool true) ∧ Below w.heap.size w w'

set_option maxRecDepth 100000 in
set_option maxHeartbeats 8000000 in
theorem divisorsL_any (r c : Nat) (a : Option Addr) (cap : Nat) (V : List Int) (w : World) (hV : Cl w a V.length (fun i => .int .i8 (V.getD i 0))) (hv : ∀ i, -128 ≤ V.getD i 0 ∧ V.getD i 0 ≤ 127) (hN : V.length ≤ 9223372036854775807)
    (hr : r ≤ 255) (hc : c ≤ 255) :
    Calls Try.prog 5 #[.agg #[.int .u8 (r : Int), .int .u8 (c : Int), .slice a V.length cap]] w (Dtrue w) := by
  have CM := Lib.hid fun W (hW : Below w.heap.size w W) => rmade_any r c 5 5 a cap V W (hV.up hW) hv hN hr hc (by decide) (by decide) (by decide)
  have hnb : c % 5 < 5 := Nat.mod_lt _ (by decide)
  have hRb : r % (5 + 1) < 5 + 1 := Nat.mod_lt _ (by decide)
  have hbt := madeM_bt V (r % (5 + 1)) (1 + c % 5) hv
  have hsh := madeM_shape V (r % (5 + 1)) (1 + c % 5)
  obtain ⟨n, hn⟩ : ∃ n, n = 1 + c % 5 := ⟨_, rfl⟩
  obtain ⟨R, hR⟩ : ∃ R, R = r % (5 + 1) := ⟨_, rfl⟩
  have hn0 : 0 < n := by omega
  have hn1 : n ≤ 5 := by omega
  have hR1 : R ≤ 5 := by omega
  rw [← hn, ← hR] at hbt hsh
  simp only [← hn, ← hR] at CM
  generalize hm : madeM V R n = m at *
  clear hm hn hR hnb hRb hv hV hN
  go_enter Try.func5, Try.ntmps5
  go_wp2_with fail
  obtain ⟨W2, hW2⟩ : ∃ W2, W2 = w.alloc (.cells #[.int .u8 (r : Int), .int .u8 (c : Int), .slice a V.length cap] 24) := ⟨_, rfl⟩
  have b2 : Below w.heap.size w W2 := by rw [hW2]; exact below_new _ _
  have x0 : W2.cell? ⟨w.heap.size, 0, none⟩ = some (.int .u8 (r : Int)) := by rw [hW2, World.cell?_alloc_at _ _ _ _ rfl]; rfl
  have x1 : W2.cell? ⟨w.heap.size, 1, none⟩ = some (.int .u8 (c : Int)) := by rw [hW2, World.cell?_alloc_at _ _ _ _ rfl]; rfl
  have x2 : W2.cell? ⟨w.heap.size, 2, none⟩ = some (.slice a V.length cap) := by rw [hW2, World.cell?_alloc_at _ _ _ _ rfl]; rfl
  rw [← hW2]
  clear hW2
  refine (examples_any _).mono ?_
  rintro e W3 ⟨rfl, hb⟩
  replace b2 := Bl.up b2 hb
  replace x0 := keepc hb x0
  replace x1 := keepc hb x1
  replace x2 := keepc hb x2
  clear hb
  go_wp2_with fail
  refine (CM.out _ b2).mono ?_
  rintro e W4 ⟨vm, rfl, hM, hb⟩
  replace b2 := Bl.up b2 hb
  clear hb x0 x1 x2 CM
  obtain ⟨am, cm, rfl, -, -⟩ := id hM
  rw [hsh.1] at hM ⊢
  rcases Nat.eq_zero_or_pos R with hR0 | hR0
  · subst hR0
    have hm0 : m = [] := List.eq_nil_of_length_eq_zero hsh.1
    subst hm0
    have hS := zSmith (.slice am 0 cm) [] W4 hM (by decide)
    rw [show refM (zMat []) = 0 from rfl] at hS
    go_wp2_with fail
    refine hS.mono ?_
    rintro e W5 ⟨asl, cs, rfl, hb⟩
    have hbz := Bl.up b2 hb
    clear hb hS
    go_wp2_with fail
    go_ret
    exact ⟨rfl, hbz⟩
  · have hRne : ((R : Int) == 0) = false := by rw [beq_eq_false_iff_ne]; omega
    have C1 := Lib.hid (Smith_g _ W4 hM hsh hR0 hR1 hn0 hn1 hbt)
    go_wp2_with fail
    refine C1.out.mono ?_
    rintro e W5 ⟨vs, s, rfl, hs, hsR, hb⟩
    clear C1
    obtain ⟨asl, cs, rfl, -, -⟩ := id hsR
    replace b2 := Bl.up b2 hb
    replace hM := hM.up hb
    clear hb
    have C2 := Lib.hid (Lhermite_any (.slice am R cm) W5 0 (fun h => ∃ piv, Herm R n m h 6480 piv) (fun h ⟨piv, hh⟩ i hi => by rw [hh.sh.2 i hi]; exact hn0)
      (fun W hW => Hermite_g (E := 9) _ W (hM.up hW) hsh hR0 hR1 hn0 (by omega) (by decide) (by decide) hbt))
    go_wp2_with fail
    refine C2.out.mono ?_
    rintro e W6 ⟨vh, h, rfl, ⟨piv, hh⟩, hhm, hb⟩
    clear C2
    obtain ⟨ah, ch, rfl, -, -⟩ := id hhm
    replace b2 := Bl.up b2 hb
    replace hM := hM.up hb
    replace hsR := hsR.up hb
    clear hb
    go_upto_region 9 with fail
    obtain ⟨W7, hW7⟩ : ∃ W7, W7 = W6.alloc (.cells #[.slice ah h.length ch, .int .i64 0] 33) := ⟨_, rfl⟩
    have b7 : Below W6.heap.size W6 W7 := by rw [hW7]; exact below_new _ _
    have k0 : W7.cell? ⟨W6.heap.size, 0, none⟩ = some (.slice ah h.length ch) := by rw [hW7, World.cell?_alloc_at _ _ _ _ rfl]; rfl
    have k1 : W7.cell? ⟨W6.heap.size, 1, none⟩ = some (.int .i64 0) := by rw [hW7, World.cell?_alloc_at _ _ _ _ rfl]; rfl
    replace b2 := Bl.up b2 b7
    replace hM := hM.up b7
    replace hsR := hsR.up b7
    replace hhm := hhm.up b7
    rw [← hW7]
    clear hW7 b7
    generalize W6.heap.size = Bk at *
    have C3 := Lib.hid (rtrans_any _ m R n W7 hM hsh hR0 (by omega) (by omega))
    go_wp2_with fail
    refine C3.out.mono ?_
    rintro e W8 ⟨vt, rfl, htm, hb⟩
    clear C3
    replace b2 := Bl.up b2 hb
    replace hsR := hsR.up hb
    replace hhm := hhm.up hb
    replace k0 := keepc hb k0
    replace k1 := keepc hb k1
    clear hb hM
    have C4 := Lib.hid (Smith_t vt W8 htm hsh hR0 hR1 hn0 hn1 hbt)
    go_wp2_with fail
    refine C4.out.mono ?_
    rintro e W9 ⟨vs2, t, rfl, ht, htR, hb⟩
    clear C4
    obtain ⟨at2, ct2, rfl, -, -⟩ := id htR
    replace b2 := Bl.up b2 hb
    replace hsR := hsR.up hb
    replace hhm := hhm.up hb
    replace k0 := keepc hb k0
    replace k1 := keepc hb k1
    clear hb htm
    have C5 := Lib.hid (Smith_h hh hR1 hn0 hn1 _ W9 hhm)
    go_wp2_with fail
    refine C5.out.mono ?_
    rintro e WA ⟨vs3, u, rfl, hu, huR, hb⟩
    clear C5
    obtain ⟨au2, cu2, rfl, -, -⟩ := id huR
    replace b2 := Bl.up b2 hb
    replace hsR := hsR.up hb
    replace htR := htR.up hb
    replace k0 := keepc hb k0
    replace k1 := keepc hb k1
    clear hb hhm
    have e1 := hs.same ht (md_trM hsh hR0)
    subst e1
    have e2 := hs.same hu (fun _ _ => Iff.rfl)
    subst e2
    have hch := hs.ch
    have hlen : u.length ≤ 5 := Nat.le_trans hs.len hR1
    have hsm : SmallR u := fun k => Nat.le_trans (sz30 (hs.bt k) (by decide)) (by decide)
    have C6 := Lib.hid fun W (hW : Below WA.heap.size WA W) => rsameRow_any _ _ u u W (hsR.up hW) (htR.up hW) (by omega) (by omega) hsm hsm
    have C7 := Lib.hid fun W (hW : Below WA.heap.size WA W) => rsameRow_any _ _ u u W (hsR.up hW) (huR.up hW) (by omega) (by omega) hsm hsm
    rw [show sameRowB u u = true from by simp [sameRowB]] at C6 C7
    have HST := Lib.hid (show ∀ k, sz (u.getD k 0) ≤ 1099511627776 from fun k => sz_bits (hs.bt k) (by decide))
    clear hs ht hu
    go_wp2_with fail
    refine (C6.out _ (Below.refl _ _)).mono ?_
    rintro e WB ⟨rfl, hb⟩
    replace k0 := keepc hb k0
    replace k1 := keepc hb k1
    go_wp2_with fail
    refine (C7.out _ hb).mono ?_
    rintro e WC ⟨rfl, hb'⟩
    replace b2 := Bl.up b2 (Bl.up hb hb')
    replace hsR := hsR.up (Bl.up hb hb')
    clear hb hb' C6 C7 htR huR k0 k1
    go_wp2_with fail
    go_loopw [12, 13, 14, 15] (fun s _ _ _ wq => ∃ j : Nat, s = .int .i64 ((j : Int) + 1) ∧ (j + 1 ≤ u.length ∨ j = 0) ∧ Below WC.heap.size WC wq)
      (fun s _ _ _ _ => u.length - (intOf s).toNat)
    case atStart => exact ⟨0, by go_num, .inr rfl, Below.refl _ _⟩
    case round =>
      obtain ⟨j, rfl, hj, hbl⟩ := hrel
      have j0 : (0 : Int) ≤ (j : Int) + 1 := by omega
      have j2 : (0 : Int) ≤ (j : Int) := by omega
      by_cases hlt : j + 1 < u.length
      · have j1 : (j : Int) + 1 < (u.length : Int) := by omega
        have j3 : (j : Int) < (u.length : Int) := by omega
        have hsub : IntKind.i64.wrap ((j : Int) + 1 - 1) = (j : Int) := by rw [show (j : Int) + 1 - 1 = (j : Int) by omega]; exact IntWalk.i64_in _ (by omega)
        have ht1 : ((j : Int) + 1).toNat = j + 1 := by omega
        obtain ⟨bb, offb, cb, hv⟩ := hsR.some (by omega)
        injection hv with e1 e2 e3
        subst e1 e3
        clear e2
        obtain ⟨-, -, s1, a1, n1, q1, x0, x1, x2⟩ := hsR.elem (k := j + 1) (by omega)
        obtain ⟨-, -, s2, a2, n2, q2, y0, y1, y2⟩ := hsR.elem (k := j) (by omega)
        have px : 0 < u.getD (j + 1) 0 := hch.pos (j + 1) hlt
        have py : 0 < u.getD j 0 := hch.pos j (by omega)
        have hd : u.getD j 0 ∣ u.getD (j + 1) 0 := hch.dvd j (j + 1) (by omega) hlt
        have sx := HST.out (j + 1)
        have sy := HST.out j
        have X0 := x0
        have X1 := x1
        have X2 := x2
        replace x0 := keepc hbl x0
        replace x1 := keepc hbl x1
        replace x2 := x2.up hbl
        replace y0 := keepc hbl y0
        replace y1 := keepc hbl y1
        replace y2 := y2.up hbl
        generalize u.getD (j + 1) 0 = x at *
        generalize u.getD j 0 = y at *
        have hy0 : y ≠ 0 := by omega
        have hsub2 : IntKind.i64.wrap (j : Int) = (j : Int) := IntWalk.i64_in _ (by omega)
        have hbbw := World.block_lt_of_cell? wr ⟨bb, offb + j * 2, none⟩ y0
        have hbbw' : bb < wr.heap.size := hbbw
        have hm0 : x % y = 0 := Int.emod_eq_zero_of_dvd hd
        have hzw := hbl.size
        go_upto_region 16 with fail
        go_cut [14, 15] (fun s14 s15 wd => ∃ B14, s14 = .pointer (some ⟨B14, 0, none⟩) ∧ s15 = .int .i64 0 ∧ Vx wd B14 (x % y) ∧ Below WC.heap.size WC wd)
        case first =>
          go_region_held3 (fun w' => w'.cell? ⟨bb, offb + (j + 1) * 2, none⟩ = some (.bool s1) ∧ w'.cell? ⟨bb, offb + (j + 1) * 2 + 1, none⟩ = some (.slice a1 n1 q1) ∧ w'.cell? ⟨bb, offb + j * 2, none⟩ = some (.bool s2) ∧ w'.cell? ⟨bb, offb + j * 2 + 1, none⟩ = some (.slice a2 n2 q2))
            ((repeat' (first | with_reducible assumption | (with_reducible refine And.intro ?_ ?_) | (with_reducible refine cellD ?_) | (with_reducible refine cellN ?_ _) | (with_reducible refine cellS ?_ (by omega)) | (with_reducible refine keepc (by with_reducible assumption) ?_))))
            (first
              | (go_at_call 24; (refine (divmod_any _ _ x y _ (by (repeat' (first | with_reducible assumption | (with_reducible exact Vx.va (by with_reducible assumption)) | (with_reducible refine Va.new0 (by first | rfl | (simp only [World.size_alloc, World.size_drew, World.size_setCell]; done) | (simp only [World.size_alloc, World.size_drew, World.size_setCell]; omega) | omega)) | (with_reducible refine Va.alloc ?_ _) | (with_reducible refine Va.drew ?_) | (with_reducible refine Va.st ?_ ?_ (by omega)) | (with_reducible refine Va.up ?_ (by with_reducible assumption)) | (with_reducible refine Vx.put ?_ ?_) | (with_reducible refine Vx.other ?_ ?_ (by omega)) | (with_reducible refine Vx.new0 (by first | rfl | (simp only [World.size_alloc, World.size_drew, World.size_setCell]; done) | (simp only [World.size_alloc, World.size_drew, World.size_setCell]; omega) | omega)) | (with_reducible refine Vx.new (by first | rfl | (simp only [World.size_alloc, World.size_drew, World.size_setCell]; done) | (simp only [World.size_alloc, World.size_drew, World.size_setCell]; omega) | omega) ?_) | (with_reducible refine Vx.alloc ?_ _) | (with_reducible refine Vx.drew ?_) | (with_reducible refine Vx.up ?_ (by with_reducible assumption)) | (with_reducible refine It.st ?_ ?_) | (with_reducible refine It.alloc ?_ _) | (with_reducible refine It.drew ?_) | (with_reducible refine It.up ?_ (by with_reducible assumption)) | (with_reducible refine Nt.st ?_ ?_) | (with_reducible refine Nt.alloc ?_ _) | (with_reducible refine Nt.drew ?_) | (with_reducible refine Nt.up ?_ (by with_reducible assumption)) | (with_reducible refine Bl.st ?_ (by omega)) | (with_reducible refine Bl.alloc ?_ _) | (with_reducible refine Bl.drew ?_) | (with_reducible refine Bl.up ?_ (by with_reducible assumption)) | (with_reducible exact Below.refl _ _)))) (by (repeat' (first | with_reducible assumption | (with_reducible exact Vx.va (by with_reducible assumption)) | (with_reducible refine Va.new0 (by first | rfl | (simp only [World.size_alloc, World.size_drew, World.size_setCell]; done) | (simp only [World.size_alloc, World.size_drew, World.size_setCell]; omega) | omega)) | (with_reducible refine Va.alloc ?_ _) | (with_reducible refine Va.drew ?_) | (with_reducible refine Va.st ?_ ?_ (by omega)) | (with_reducible refine Va.up ?_ (by with_reducible assumption)) | (with_reducible refine Vx.put ?_ ?_) | (with_reducible refine Vx.other ?_ ?_ (by omega)) | (with_reducible refine Vx.new0 (by first | rfl | (simp only [World.size_alloc, World.size_drew, World.size_setCell]; done) | (simp only [World.size_alloc, World.size_drew, World.size_setCell]; omega) | omega)) | (with_reducible refine Vx.new (by first | rfl | (simp only [World.size_alloc, World.size_drew, World.size_setCell]; done) | (simp only [World.size_alloc, World.size_drew, World.size_setCell]; omega) | omega) ?_) | (with_reducible refine Vx.alloc ?_ _) | (with_reducible refine Vx.drew ?_) | (with_reducible refine Vx.up ?_ (by with_reducible assumption)) | (with_reducible refine It.st ?_ ?_) | (with_reducible refine It.alloc ?_ _) | (with_reducible refine It.drew ?_) | (with_reducible refine It.up ?_ (by with_reducible assumption)) | (with_reducible refine Nt.st ?_ ?_) | (with_reducible refine Nt.alloc ?_ _) | (with_reducible refine Nt.drew ?_) | (with_reducible refine Nt.up ?_ (by with_reducible assumption)) | (with_reducible refine Bl.st ?_ (by omega)) | (with_reducible refine Bl.alloc ?_ _) | (with_reducible refine Bl.drew ?_) | (with_reducible refine Bl.up ?_ (by with_reducible assumption)) | (with_reducible exact Below.refl _ _)))) (by exact hy0) (by exact sx) (by exact sy)).mono ?_); rintro e w2 ⟨vq, vr, rfl, hq, hr2, hb2⟩; obtain ⟨hc2, hf2⟩ := bcell hb2; have z2 := hb2.size; (try simp only [World.size_alloc, World.size_drew, World.size_setCell] at z2); (try have y2 := Nat.lt_of_succ_le z2); (try have x2 := Nat.lt_of_succ_le (Nat.le_of_succ_le z2)); obtain ⟨s3, a3, n3, q3, rfl⟩ := hq.shape; obtain ⟨s4, a4, n4, q4, rfl⟩ := hr2.shape))
          all_goals go_wp2_with fail
          all_goals (go_meet; case rel => (refine ⟨_, rfl, rfl, ?_, ?_⟩ <;> (repeat' (first | with_reducible assumption | (with_reducible exact Vx.va (by with_reducible assumption)) | (with_reducible refine Va.new0 (by first | rfl | (simp only [World.size_alloc, World.size_drew, World.size_setCell]; done) | (simp only [World.size_alloc, World.size_drew, World.size_setCell]; omega) | omega)) | (with_reducible refine Va.alloc ?_ _) | (with_reducible refine Va.drew ?_) | (with_reducible refine Va.st ?_ ?_ (by omega)) | (with_reducible refine Va.up ?_ (by with_reducible assumption)) | (with_reducible refine Vx.put ?_ ?_) | (with_reducible refine Vx.other ?_ ?_ (by omega)) | (with_reducible refine Vx.new0 (by first | rfl | (simp only [World.size_alloc, World.size_drew, World.size_setCell]; done) | (simp only [World.size_alloc, World.size_drew, World.size_setCell]; omega) | omega)) | (with_reducible refine Vx.new (by first | rfl | (simp only [World.size_alloc, World.size_drew, World.size_setCell]; done) | (simp only [World.size_alloc, World.size_drew, World.size_setCell]; omega) | omega) ?_) | (with_reducible refine Vx.alloc ?_ _) | (with_reducible refine Vx.drew ?_) | (with_reducible refine Vx.up ?_ (by with_reducible assumption)) | (with_reducible refine It.st ?_ ?_) | (with_reducible refine It.alloc ?_ _) | (with_reducible refine It.drew ?_) | (with_reducible refine It.up ?_ (by with_reducible assumption)) | (with_reducible refine Nt.st ?_ ?_) | (with_reducible refine Nt.alloc ?_ _) | (with_reducible refine Nt.drew ?_) | (with_reducible refine Nt.up ?_ (by with_reducible assumption)) | (with_reducible refine Bl.st ?_ (by omega)) | (with_reducible refine Bl.alloc ?_ _) | (with_reducible refine Bl.drew ?_) | (with_reducible refine Bl.up ?_ (by with_reducible assumption)) | (with_reducible exact Below.refl _ _)))))
        case rest =>
          obtain ⟨B14, rfl, rfl, v14, hb14⟩ := hcut
          rw [hm0] at v14
          replace x0 := keepc hb14 X0
          replace x1 := keepc hb14 X1
          replace x2 := X2.up hb14
          clear y0 y1 y2 X0 X1 X2 hbbw hbbw' hbl hzw
          have hxl : cmpI x 0 = 1 := cmpI_gt (by omega)
          obtain ⟨s4, a4, n4, q4, z0, z1, z2, z3, iz⟩ := v14.cells
          go_upto_region 17 with fail
          go_wp2_with fail
          refine (sign_any _ 0 _ iz).mono ?_
          rintro e w6 ⟨rfl, hb6⟩
          replace x0 := keepc hb6 x0
          replace x1 := keepc hb6 x1
          replace x2 := x2.up hb6
          replace hb14 := Bl.up hb14 hb6
          rw [show cmpI 0 0 = 0 from rfl]
          clear hb6 z0 z1 z2 z3 iz v14
          go_wp2_with fail
          refine (sign_any _ x _ x2).mono ?_
          rintro e w7 ⟨rfl, hb7⟩
          replace hb14 := Bl.up hb14 hb7
          rw [hxl]
          clear hb7 x0 x1 x2
          go_wp2_with fail
          go_roundw
          case rel => exact ⟨j + 1, by go_num, .inl (by omega), hb14⟩
          case measure => simp [intOf]; omega
      · have j1 : ¬ (j : Int) + 1 < (u.length : Int) := by omega
        have hbz := Bl.up b2 hbl
        go_wp2_with fail
        go_ret
        exact ⟨rfl, hbz⟩
end Go.Proofs.Ytdbpkoddfcdhdaa
