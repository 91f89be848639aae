/-
  The reference: word, plus, minus; words that an append lays.
  The reference: Neg, Abs, Sign, Add.
  The reference: Mul.
  The reference: rows: Times, Plus, Combined.
  The reference: Combined, Transposed.
  The reference: Made.
-/
import Derived.IntWalk
import Derived.Test.YtdbpkoddfcdhdaaGreatPN
import Derived.Test.YtdbpkoddfcdhdaaGreatPK
import Derived.Test.YtdbpkoddfcdhdaaGreatPH
set_option linter.unusedSimpArgs false
set_option linter.unusedVariables false

namespace Go.Proofs.YtdbpkoddfcdhdaaGreat
open Go.RowKit
attribute [local go_sem ↓] Go.wp_at_zero Go.wp_at_succ

/-- A size of the call's own, from block base on, to be appended to: i words. -/
def Aw (w : World) (base : Nat) (v : Value) (i : Nat) (o : Nat → Nat) : Prop := w.ownsRow base 85 1 v i (lst i (wv o))

theorem Aw.lit0 (w : World) {base : Nat} (hb : base ≤ w.heap.size) (o : Nat → Nat) : Aw (w.alloc (.cells #[] 85)) base (.slice (some ⟨w.heap.size, 0, none⟩) 0 0) 0 o := World.ownsRow_lit w #[] 0 hb (by decide) rfl
theorem Aw.up {w w' : World} {base : Nat} {v : Value} {i : Nat} {o : Nat → Nat} (h : Aw w base v i o) (hb : Below w.heap.size w w') : Aw w' base v i o := by
  refine World.ownsRow.kept h (row := none) ⟨hb.os, hb.tape, hb.output, hb.size, fun k hk _ => hb.block k hk⟩ ?_
  cases hv : v.ownBlock with
  | none => exact .inl rfl
  | some k => exact .inr (by simp)
theorem Aw.alloc {w : World} {base : Nat} {v : Value} {i : Nat} {o : Nat → Nat} (h : Aw w base v i o) (ob : Obj) : Aw (w.alloc ob) base v i o := h.up (below_new _ _)
theorem Aw.drew {w : World} {base : Nat} {v : Value} {i : Nat} {o : Nat → Nat} (h : Aw w base v i o) : Aw w.drew base v i o := h

theorem lst_snoc (i x : Nat) (o : Nat → Nat) : lst i (wv o) ++ [.int .u32 (x : Int)] = lst (i + 1) (wv (upd o i x)) := by
  unfold lst
  rw [List.range_succ, List.map_append]
  congr 1
  · refine List.map_congr_left fun j hj => ?_
    rw [List.mem_range] at hj
    unfold wv
    rw [upd_other _ _ _ _ (by omega)]
  · simp [wv, upd_same]

/-- What it reads as. -/
theorem Aw.out {w : World} {base : Nat} {v : Value} {i : Nat} {o : Nat → Nat} (h : Aw w base v i o) : ∃ a c, v = .slice a i c ∧ i ≤ c ∧ Wd w a i o := by
  have hx := h.1
  rcases h.2 with ⟨rfl, h0⟩ | ⟨g, cap, cur, rfl, h3, h4, h5, -⟩
  · subst h0
    exact ⟨none, 0, rfl, Nat.le_refl _, .inl rfl⟩
  · refine ⟨_, cap, rfl, h5, .inr ⟨g, 0, rfl, (Array.getElem?_eq_some_iff.1 h4).1, fun j hj => ?_⟩⟩
    have e0 := World.ownsRow.cellAt h j (by omega)
    rw [Nat.zero_add, e0]
    exact lst_get _ _ _ hj

theorem wpl_apW {ops : Array Oper} {rest : List Oper} {o : Oper} {a : Act} {Q : Exit → Act → World → Prop} {w : World} (hgd : o.guard = none) (su sx : Operand) (t : TypeId)
    (ho : o.op = .call { callee := .builtin .append, args := #[su, sx], argTypes := #[t, t] }) (ht : Tryz.prog.underlying t = some (.slice 85)) (base : Nat) (v : Value) (i : Nat) (f : Nat → Nat) (hs : a.eval su = v) (h : Aw w base v i f) (hbase : base ≤ w.heap.size)
    (B T c1 : Nat) (fr : Nat × Nat) (x : Nat) (hxv : a.eval sx = .slice (some ⟨B, 0, none⟩) 1 c1) (hB : w.heap[B]? = some (.cells #[.int .u32 (x : Int)] T fr)) (hl : i ≤ 17592186044416)
    (hK : ∀ v' w', Aw w' base v' (i + 1) (upd f i x) → Below base w w' → wpList Tryz.prog ops Q rest (a.put o.dst v') w') :
    wpList Tryz.prog ops Q (o :: rest) a w := by
  obtain ⟨i0, hi, hz0, hz1, hz2⟩ := info_parts infoW
  have hlt := World.ownsRow.lt h
  refine wpList_append_own w hgd su sx t ho base 85 i0 _ 1 4 ht hi hz0 hz1 hz2 rfl (by omega) v i (lst i (wv f)) hs h ⟨B, 0, none⟩ 1 c1 [.int .u32 (x : Int)] hxv rfl
    (World.news_of_block hB) (by simp [Value.oneCell']) (by unfold maxLen; omega) (by omega) hbase fun v' w' h2 h3 _ => hK v' w' ?_ (Below.of_grown h3 hbase (fun k hk => (hlt k hk).1))
  rw [lst_snoc] at h2
  exact h2

theorem word_any (a : Option Addr) (n cap : Nat) (f : Nat → Nat) (i : Nat) (w : World) (hn : n ≤ 4611686018427387904) (hi : i ≤ 4611686018427387904) (hw : Wd w a n f) (hf : Wf f n) :
    Calls Tryz.prog 100 #[.slice a n cap, .int .i64 (i : Int)] w fun e w' => e = .returned (.int .u64 (pad f n i : Int)) ∧ w = w' := by
  have i0 : (0 : Int) ≤ (i : Int) := by omega
  by_cases hlt : i < n
  · obtain ⟨b, off, rfl, hb, hc⟩ := hw.at hlt
    have hci := hc i hlt
    have hfi := hf i hlt
    rw [pad_lt hlt]
    have i1 : (i : Int) < (n : Int) := by omega
    have i2 : ¬ (n : Int) ≤ (i : Int) := by omega
    clear hc hlt
    go_enter Tryz.func100, Tryz.ntmps100
    go_wp2_with fail
    go_ret
    exact ⟨rfl, rfl⟩
  · rw [pad_ge (by omega)]
    have i2 : (n : Int) ≤ (i : Int) := by omega
    clear hlt
    go_enter Tryz.func100, Tryz.ntmps100
    go_wp2_with fail
    go_ret
    exact ⟨rfl, rfl⟩

/-- A size, perhaps with zeros at its end. -/
def Pl (w : World) (v : Value) (B x : Nat) : Prop := ∃ a n c f, v = .slice a n c ∧ n ≤ c ∧ n ≤ B ∧ Wd w a n f ∧ Wf f n ∧ nv f n = x
theorem Pl.up {w w' : World} {v : Value} {B x : Nat} (h : Pl w v B x) (hb : Below w.heap.size w w') : Pl w' v B x := by
  obtain ⟨a, n, c, f, h1, h2, h3, h4, h5⟩ := h
  exact ⟨a, n, c, f, h1, h2, h3, h4.up hb, h5⟩

set_option maxRecDepth 100000 in
set_option maxHeartbeats 4000000 in
theorem plus_any (a b : Option Addr) (n m ca cb : Nat) (f h : Nat → Nat) (w : World) (hn : n ≤ 2199023255552) (hm : m ≤ 2199023255552) (hwf : Wd w a n f) (hwh : Wd w b m h) (hf : Wf f n) (hh : Wf h m) :
    Calls Tryz.prog 94 #[.slice a n ca, .slice b m cb] w fun e w' => ∃ v, e = .returned v ∧ Pl w' v (max n m + 1) (nv f n + nv h m) ∧ Below w.heap.size w w' := by
  have hmx : max (n : Int) (m : Int) = ((max n m : Nat) : Int) := by omega
  obtain ⟨M, hM⟩ : ∃ M, M = max n m := ⟨_, rfl⟩
  have hMn : n ≤ M := by omega
  have hMm : m ≤ M := by omega
  have hMb : M ≤ 2199023255552 := by omega
  rw [← hM] at hmx ⊢
  have HMX := Lib.hid hmx
  clear hM hmx
  go_enter Tryz.func94, Tryz.ntmps94
  go_wp2_with fail
  go_loopw [5, 6, 7] (fun s5 s6 s wq => ∃ (i c : Nat) (u : Value) (o : Nat → Nat), i ≤ M ∧ s = .int .i64 i ∧ s6 = .int .u64 c ∧ c ≤ 1 ∧ s5 = u ∧ Aw wq w.heap.size u i o ∧ Wf o i ∧ nv o i + c * 4294967296 ^ i = nv (pad f n) i + nv (pad h m) i ∧ Below w.heap.size w wq)
    (fun _ _ s _ => M - (intOf s).toNat)
  case atStart => exact ⟨0, 0, _, fun _ => 0, Nat.zero_le _, rfl, rfl, by omega, rfl, Aw.lit0 _ (Nat.le_refl _) _, fun i hi => absurd hi (Nat.not_lt_zero i), rfl, below_new _ _⟩
  case round =>
    obtain ⟨i, c, u, o, hi, rfl, rfl, hc, rfl, hA, hwo, hval, hbl⟩ := hrel
    have HV := Lib.hid hval
    clear hval
    have i0 : (0 : Int) ≤ (i : Int) := by omega
    by_cases hlt : i < M
    · have i1 : (i : Int) < max (n : Int) (m : Int) := by rw [HMX.out]; omega
      have b1 := wf_pad hf M i hlt
      have b2 := wf_pad hh M i hlt
      go_wp2_with fail
      refine (word_any a n ca f i wr (by omega) (by omega) (hwf.up hbl) hf).mono ?_
      rintro e w2 ⟨rfl, rfl⟩
      go_wp2_with fail
      refine (word_any b m cb h i wr (by omega) (by omega) (hwh.up hbl) hh).mono ?_
      rintro e w2 ⟨rfl, rfl⟩
      have hstep := add_step o (pad f n) (pad h m) i c ((c + (pad f n i + pad h m i)) % 4294967296) ((c + (pad f n i + pad h m i)) / 4294967296) (by omega) HV.out
      have HS := Lib.hid hstep
      clear hstep
      generalize pad f n i = x at *
      generalize pad h m i = y at *
      go_wp2_with (at_builtin; go_must (refine wpl_apW rfl (.tmp 27) (.tmp 30) _ rfl Tryz.underlying54 w.heap.size _ i o rfl (hA.alloc _) (by have := hbl.size; simp; omega) wr.heap.size _ _ _ ((c + (x + y)) % 4294967296) rfl (heap_alloc_new _ _) (by omega) ?_); intro v' w4 hA4 hb4)
      go_roundw
      case rel =>
        refine ⟨i + 1, (c + (x + y)) / 4294967296, _, _, by omega, by go_num, by go_num, by omega, rfl, hA4, fun j hj => ?_, HS.out, (Bl.alloc hbl _).trans hb4⟩
        by_cases e : j = i
        · subst e; rw [upd_same]; omega
        · rw [upd_other _ _ _ _ e]; exact hwo j (by omega)
      case measure => simp [intOf]; omega
    · have i1 : ¬ (i : Int) < max (n : Int) (m : Int) := by rw [HMX.out]; omega
      have hin : i = M := by omega
      subst hin
      have hend : nv (upd o i c) (i + 1) = nv f n + nv h m := by
        have := HV.out
        rw [nv_pad _ _ _ hMn, nv_pad _ _ _ hMm] at this
        simp only [nv, upd_same, nv_upd _ _ _ (Nat.le_refl _)]
        omega
      have HE := Lib.hid hend
      have hce : (c : Int) % 4294967296 = (c : Int) := by omega
      have HCE := Lib.hid hce
      clear hend hlt hce
      go_wp2_with (at_builtin; go_must (refine wpl_apW rfl (.tmp 34) (.tmp 37) _ rfl Tryz.underlying54 w.heap.size _ i o rfl (hA.alloc _) (by have := hbl.size; simp; omega) wr.heap.size _ _ _ c rfl (heap_alloc_new _ _) (by omega) ?_); intro v' w4 hA4 hb4)
      go_ret
      obtain ⟨a', c', rfl, hc', hw'⟩ := hA4.out
      refine ⟨_, rfl, ⟨_, _, _, _, rfl, hc', Nat.le_refl _, hw', fun j hj => ?_, HE.out⟩, (Bl.alloc hbl _).trans hb4⟩
      by_cases e : j = i
      · subst e; rw [upd_same]; omega
      · rw [upd_other _ _ _ _ e]; exact hwo j (by omega)

set_option maxRecDepth 100000 in
set_option maxHeartbeats 4000000 in
theorem minus_any (a b : Option Addr) (n m ca cb : Nat) (f h : Nat → Nat) (w : World) (hn : n ≤ 2199023255552) (hm : m ≤ n) (hle : nv h m ≤ nv f n) (hwf : Wd w a n f) (hwh : Wd w b m h) (hf : Wf f n) (hh : Wf h m) :
    Calls Tryz.prog 95 #[.slice a n ca, .slice b m cb] w fun e w' => ∃ v, e = .returned v ∧ Pl w' v n (nv f n - nv h m) ∧ Below w.heap.size w w' := by
  have HLE := Lib.hid hle
  clear hle
  go_enter Tryz.func95, Tryz.ntmps95
  go_wp2_with fail
  go_loopw [5, 6, 7] (fun s5 s6 s wq => ∃ (i c : Nat) (u : Value) (o : Nat → Nat), i ≤ n ∧ s = .int .i64 i ∧ s6 = .int .u64 c ∧ c ≤ 1 ∧ s5 = u ∧ Aw wq w.heap.size u i o ∧ Wf o i ∧ nv o i + nv (pad h m) i + c * 1 * 0 = nv (pad f n) i + c * 4294967296 ^ i ∧ Below w.heap.size w wq)
    (fun _ _ s _ => n - (intOf s).toNat)
  case atStart => exact ⟨0, 0, _, fun _ => 0, Nat.zero_le _, rfl, rfl, by omega, rfl, Aw.lit0 _ (Nat.le_refl _) _, fun i hi => absurd hi (Nat.not_lt_zero i), rfl, below_new _ _⟩
  case round =>
    obtain ⟨i, c, u, o, hi, rfl, rfl, hc, rfl, hA, hwo, hval, hbl⟩ := hrel
    have HV := Lib.hid hval
    clear hval
    have i0 : (0 : Int) ≤ (i : Int) := by omega
    by_cases hlt : i < n
    · have i1 : (i : Int) < (n : Int) := by omega
      have b1 := wf_pad hf n i hlt
      have b2 := wf_pad hh n i hlt
      go_wp2_with fail
      refine (word_any a n ca f i wr (by omega) (by omega) (hwf.up hbl) hf).mono ?_
      rintro e w2 ⟨rfl, rfl⟩
      go_wp2_with fail
      refine (word_any b m cb h i wr (by omega) (by omega) (hwh.up hbl) hh).mono ?_
      rintro e w2 ⟨rfl, rfl⟩
      have hstep := sub_step o (pad f n) (pad h m) i c ((4294967296 + pad f n i - pad h m i - c) % 4294967296) (1 - (4294967296 + pad f n i - pad h m i - c) / 4294967296) (by omega) HV.out
      have HS := Lib.hid hstep
      clear hstep
      generalize pad f n i = x at *
      generalize pad h m i = y at *
      have hz : ((4294967296 + (x : Int) - (y : Int) - (c : Int)) % 4294967296) = (((4294967296 + x - y - c) % 4294967296 : Nat) : Int) := by omega
      have hz2 : 1 - (4294967296 + (x : Int) - (y : Int) - (c : Int)) / 4294967296 = ((1 - (4294967296 + x - y - c) / 4294967296 : Nat) : Int) := by omega
      have HZ := Lib.hid hz
      have HZ2 := Lib.hid hz2
      clear hz hz2
      go_wp2_with (at_builtin; go_must (refine wpl_apW rfl (.tmp 26) (.tmp 29) _ rfl Tryz.underlying54 w.heap.size _ i o rfl (hA.alloc _) (by have := hbl.size; simp; omega) wr.heap.size 85 _ (0, 0) ((4294967296 + x - y - c) % 4294967296) rfl (by rw [← HZ.out]; exact heap_alloc_new _ _) (by omega) ?_); intro v' w4 hA4 hb4)
      go_roundw
      case rel =>
        refine ⟨i + 1, 1 - (4294967296 + x - y - c) / 4294967296, _, _, by omega, by go_num, by rw [HZ2.out], by omega, rfl, hA4, fun j hj => ?_, HS.out, (Bl.alloc hbl _).trans hb4⟩
        by_cases e : j = i
        · subst e; rw [upd_same]; omega
        · rw [upd_other _ _ _ _ e]; exact hwo j (by omega)
      case measure => simp [intOf]; omega
    · have hin : i = n := by omega
      subst hin
      have hend := sub_end o f h i m c hc hwo hf hm HLE.out HV.out
      have HE := Lib.hid hend
      clear hend hlt
      go_wp2_with fail
      go_ret
      obtain ⟨a', c', rfl, hc', hw'⟩ := hA.out
      exact ⟨_, rfl, ⟨_, _, _, _, rfl, hc', Nat.le_refl _, hw', hwo, HE.out⟩, hbl⟩
end Go.Proofs.YtdbpkoddfcdhdaaGreat

namespace Go.Proofs.YtdbpkoddfcdhdaaGreat
open Go.RowKit
attribute [local go_sem ↓] Go.wp_at_zero Go.wp_at_succ

set_option maxRecDepth 100000 in
set_option maxHeartbeats 4000000 in
theorem radd_any (va vb : Value) (x y : Int) (w : World) (hx : It w va x) (hy : It w vb y) (hsx : sz x ≤ 2199023255552) (hsy : sz y ≤ 2199023255552) :
    Calls Tryz.prog 77 #[va, vb] w fun e w' => ∃ v, e = .returned v ∧ It w' v (x + y) ∧ Below w.heap.size w w' := by
  obtain ⟨a, ca, f, rfl, h1, h2, h3, h4, h5⟩ := hx.parts
  obtain ⟨b, cb, g, rfl, k1, k2, k3, k4, k5⟩ := hy.parts
  have H5 := Lib.hid h5
  have K5 := Lib.hid k5
  clear h5 k5
  obtain ⟨W, hW, hw, d1, d2, d3, n1, n2, n3, -⟩ := three_boxes w (decide (x < 0)) (decide (y < 0)) a b (sz x) (sz y) ca cb 56
  replace h2 := h2.up hw
  replace k2 := k2.up hw
  clear hx hy
  by_cases hs : (decide (x < 0) == decide (y < 0)) = true
  · have HS := Lib.hid hs
    have p1 := d1.c0; have p2 := d1.c1; have q1 := d2.c0; have q2 := d2.c1
    go_enter Tryz.func77, Tryz.ntmps77
    go_wp2_with fail
    rw [← hW]
    clear hW
    clear p1 p2 q1 q2
    replace hw := hw.drew
    replace d1 := d1.drew
    replace d2 := d2.drew
    replace d3 := d3.drew
    replace n3 := n3.drew
    replace h2 : Wd W.drew _ _ _ := h2
    replace k2 : Wd W.drew _ _ _ := k2
    go_region_held3 (fun w' => w'.cell? ⟨w.heap.size, 0, none⟩ = some (.bool (decide (x < 0))) ∧ w'.cell? ⟨w.heap.size, 1, none⟩ = some (.slice a (sz x) ca) ∧ w'.cell? ⟨w.heap.size + 1, 1, none⟩ = some (.slice b (sz y) cb))
      (first | exact ⟨d1.c0, d1.c1, d2.c1⟩ | exact ⟨((d1.other (by omega) _ _).other (by omega) _ _).c0, ((d1.other (by omega) _ _).other (by omega) _ _).c1, ((d2.other (by omega) _ _).other (by omega) _ _).c1⟩ | exact ⟨(d1.up (below_new _ _)).c0, (d1.up (below_new _ _)).c1, (d2.up (below_new _ _)).c1⟩ | (go_keep; done) | (refine ⟨?_, ?_, ?_⟩ <;> (go_keep; done)))
      (first
        | (go_at_call 94; refine (plus_any a b (sz x) (sz y) ca cb f g _ hsx hsy h2 k2 h3 k3).mono ?_; rintro e w1 ⟨vm, rfl, hpl, hb⟩; obtain ⟨a', n', c', o, rfl, q1, q2, q3, q4, q5⟩ := hpl; replace n3 := n3.up d3.lt hb; replace d1 := d1.up hb; replace d2 := d2.up hb; replace d3 := d3.up hb; replace hw := hw.trans (hb.mono hw.size); clear hb)
        | (go_at_call 61; refine (made_any _ a' n' c' o _ q1 (by omega) q3 q4).mono ?_; rintro e w2 ⟨v, rfl, hv, hb⟩; replace n3 := n3.up d3.lt hb; replace d1 := d1.up hb; replace d2 := d2.up hb; replace d3 := d3.up hb; replace hw := hw.trans (hb.mono hw.size); clear hb; have u0 := d3.c0; have u1 := d3.c1; have u2 := d3.f0; have u3 := d3.f1; obtain ⟨s', a2, n2, cap2, rfl⟩ := hv.shape))
    all_goals (go_wp2_with fail; rw [q5, add_sg x y f g _ _ H5.out K5.out HS.out] at hv; exact ret_box (B := w.heap.size + 2) rfl rfl rfl (d3.put _ _) ⟨_, rfl, hv.put n3 _ _ _ _, (hw.setCell (by show w.heap.size ≤ w.heap.size + 2; omega) _).setCell (by show w.heap.size ≤ w.heap.size + 2; omega) _⟩)
  · have hs' : (decide (x < 0) == decide (y < 0)) = false := by simpa using hs
    have HS := Lib.hid hs'
    clear hs
    by_cases hlt : nv f (sz x) < nv g (sz y)
    · have hmn : sz x ≤ sz y := by have := words_mono (Nat.le_of_lt hlt); rw [words_of_can h3 h4, words_of_can k3 k4] at this; exact this
      have hle : nv f (sz x) ≤ nv g (sz y) := Nat.le_of_lt hlt
      have hcm : decide (0 ≤ cmpI (nv f (sz x) : Int) (nv g (sz y) : Int)) = false := by rw [cmpI_lt (by omega)]; rfl
      have p1 := d1.c0; have p2 := d1.c1; have q1 := d2.c0; have q2 := d2.c1
      go_enter Tryz.func77, Tryz.ntmps77
      go_wp2_with fail
      rw [← hW]
      clear hW
      refine (size_any a b (sz x) (sz y) ca cb f g _ (by omega) (by omega) h2 k2 h3 k3 h4 k4).mono ?_
      rintro e w5 ⟨rfl, nk, hw5⟩
      clear p1 p2 q1 q2
      replace hw := Below.drewN hw nk
      replace d1 := d1.drewN nk
      replace d2 := d2.drewN nk
      replace d3 := d3.drewN nk
      replace n3 := n3.drewN nk
      replace h2 := h2.drewN nk
      replace k2 := k2.drewN nk
      rw [← hw5] at *
      clear hw5
      generalize hWW : w5 = W at *
      clear hWW
      have p1 := d1.c0; have p2 := d1.c1; have q1 := d2.c0; have q2 := d2.c1
      go_wp2_with fail
      clear p1 p2 q1 q2
      replace hw := hw.drew
      replace d1 := d1.drew
      replace d2 := d2.drew
      replace d3 := d3.drew
      replace n3 := n3.drew
      replace h2 : Wd W.drew _ _ _ := h2
      replace k2 : Wd W.drew _ _ _ := k2
      go_region_held3 (fun w' => w'.cell? ⟨w.heap.size + 1, 0, none⟩ = some (.bool (decide (y < 0))) ∧ w'.cell? ⟨w.heap.size + 1, 1, none⟩ = some (.slice b (sz y) cb) ∧ w'.cell? ⟨w.heap.size, 1, none⟩ = some (.slice a (sz x) ca))
        (first | exact ⟨d2.c0, d2.c1, d1.c1⟩ | exact ⟨((d2.other (by omega) _ _).other (by omega) _ _).c0, ((d2.other (by omega) _ _).other (by omega) _ _).c1, ((d1.other (by omega) _ _).other (by omega) _ _).c1⟩ | exact ⟨(d2.up (below_new _ _)).c0, (d2.up (below_new _ _)).c1, (d1.up (below_new _ _)).c1⟩ | (go_keep; done) | (refine ⟨?_, ?_, ?_⟩ <;> (go_keep; done)))
        (first
          | (go_at_call 95; refine (minus_any b a (sz y) (sz x) cb ca g f _ hsy hmn hle k2 h2 k3 h3).mono ?_; rintro e w1 ⟨vm, rfl, hpl, hb⟩; obtain ⟨a', n', c', o, rfl, q1, q2, q3, q4, q5⟩ := hpl; replace n3 := n3.up d3.lt hb; replace d1 := d1.up hb; replace d2 := d2.up hb; replace d3 := d3.up hb; replace hw := hw.trans (hb.mono hw.size); clear hb)
          | (go_at_call 61; refine (made_any _ a' n' c' o _ q1 (by omega) q3 q4).mono ?_; rintro e w2 ⟨v, rfl, hv, hb⟩; replace n3 := n3.up d3.lt hb; replace d1 := d1.up hb; replace d2 := d2.up hb; replace d3 := d3.up hb; replace hw := hw.trans (hb.mono hw.size); clear hb; have u0 := d3.c0; have u1 := d3.c1; have u2 := d3.f0; have u3 := d3.f1; obtain ⟨s', a2, n2, cap2, rfl⟩ := hv.shape))
      all_goals (go_wp2_with fail; rw [q5, sub_sg y x g f _ _ K5.out H5.out (by rw [Bool.beq_comm]; exact HS.out) hle, Int.add_comm] at hv; exact ret_box (B := w.heap.size + 2) rfl rfl rfl (d3.put _ _) ⟨_, rfl, hv.put n3 _ _ _ _, (hw.setCell (by show w.heap.size ≤ w.heap.size + 2; omega) _).setCell (by show w.heap.size ≤ w.heap.size + 2; omega) _⟩)
    · have hle : nv g (sz y) ≤ nv f (sz x) := by omega
      have hmn : sz y ≤ sz x := by have := words_mono hle; rw [words_of_can h3 h4, words_of_can k3 k4] at this; exact this
      have hcm : decide (0 ≤ cmpI (nv f (sz x) : Int) (nv g (sz y) : Int)) = true := by
        rcases Nat.lt_or_ge (nv g (sz y)) (nv f (sz x)) with c | c
        · rw [cmpI_gt (by omega)]; rfl
        · rw [cmpI_eq (by omega)]; rfl
      have p1 := d1.c0; have p2 := d1.c1; have q1 := d2.c0; have q2 := d2.c1
      go_enter Tryz.func77, Tryz.ntmps77
      go_wp2_with fail
      rw [← hW]
      clear hW
      refine (size_any a b (sz x) (sz y) ca cb f g _ (by omega) (by omega) h2 k2 h3 k3 h4 k4).mono ?_
      rintro e w5 ⟨rfl, nk, hw5⟩
      clear p1 p2 q1 q2
      replace hw := Below.drewN hw nk
      replace d1 := d1.drewN nk
      replace d2 := d2.drewN nk
      replace d3 := d3.drewN nk
      replace n3 := n3.drewN nk
      replace h2 := h2.drewN nk
      replace k2 := k2.drewN nk
      rw [← hw5] at *
      clear hw5
      generalize hWW : w5 = W at *
      clear hWW
      have p1 := d1.c0; have p2 := d1.c1; have q1 := d2.c0; have q2 := d2.c1
      go_wp2_with fail
      clear p1 p2 q1 q2
      replace hw := hw.drew
      replace d1 := d1.drew
      replace d2 := d2.drew
      replace d3 := d3.drew
      replace n3 := n3.drew
      replace h2 : Wd W.drew _ _ _ := h2
      replace k2 : Wd W.drew _ _ _ := k2
      go_region_held3 (fun w' => w'.cell? ⟨w.heap.size, 0, none⟩ = some (.bool (decide (x < 0))) ∧ w'.cell? ⟨w.heap.size, 1, none⟩ = some (.slice a (sz x) ca) ∧ w'.cell? ⟨w.heap.size + 1, 1, none⟩ = some (.slice b (sz y) cb))
        (first | exact ⟨d1.c0, d1.c1, d2.c1⟩ | exact ⟨((d1.other (by omega) _ _).other (by omega) _ _).c0, ((d1.other (by omega) _ _).other (by omega) _ _).c1, ((d2.other (by omega) _ _).other (by omega) _ _).c1⟩ | exact ⟨(d1.up (below_new _ _)).c0, (d1.up (below_new _ _)).c1, (d2.up (below_new _ _)).c1⟩ | (go_keep; done) | (refine ⟨?_, ?_, ?_⟩ <;> (go_keep; done)))
        (first
          | (go_at_call 95; refine (minus_any a b (sz x) (sz y) ca cb f g _ hsx hmn hle h2 k2 h3 k3).mono ?_; rintro e w1 ⟨vm, rfl, hpl, hb⟩; obtain ⟨a', n', c', o, rfl, q1, q2, q3, q4, q5⟩ := hpl; replace n3 := n3.up d3.lt hb; replace d1 := d1.up hb; replace d2 := d2.up hb; replace d3 := d3.up hb; replace hw := hw.trans (hb.mono hw.size); clear hb)
          | (go_at_call 61; refine (made_any _ a' n' c' o _ q1 (by omega) q3 q4).mono ?_; rintro e w2 ⟨v, rfl, hv, hb⟩; replace n3 := n3.up d3.lt hb; replace d1 := d1.up hb; replace d2 := d2.up hb; replace d3 := d3.up hb; replace hw := hw.trans (hb.mono hw.size); clear hb; have u0 := d3.c0; have u1 := d3.c1; have u2 := d3.f0; have u3 := d3.f1; obtain ⟨s', a2, n2, cap2, rfl⟩ := hv.shape))
      all_goals (go_wp2_with fail; rw [q5, sub_sg x y f g _ _ H5.out K5.out HS.out hle] at hv; exact ret_box (B := w.heap.size + 2) rfl rfl rfl (d3.put _ _) ⟨_, rfl, hv.put n3 _ _ _ _, (hw.setCell (by show w.heap.size ≤ w.heap.size + 2; omega) _).setCell (by show w.heap.size ≤ w.heap.size + 2; omega) _⟩)
end Go.Proofs.YtdbpkoddfcdhdaaGreat

namespace Go.Proofs.YtdbpkoddfcdhdaaGreat
open Go.RowKit
attribute [local go_sem ↓] Go.wp_at_zero Go.wp_at_succ

/-- What lasts in Mul. -/
structure MuF (w : World) (x y : Int) (a b : Option Addr) (n m ca cb : Nat) (W : World) : Prop where
  bl : Below w.heap.size w W
  d1 : Bx W w.heap.size (.bool (decide (x < 0))) (.slice a n ca)
  d2 : Bx W (w.heap.size + 1) (.bool (decide (y < 0))) (.slice b m cb)
  d3 : Bx W (w.heap.size + 2) (.bool false) (.slice none 0 0)
  n3 : NoW W (w.heap.size + 2)
theorem MuF.up {w : World} {x y : Int} {a b : Option Addr} {n m ca cb : Nat} {W W' : World} (h : MuF w x y a b n m ca cb W) (hb : Below W.heap.size W W') : MuF w x y a b n m ca cb W' :=
  ⟨Bl.up h.bl hb, h.d1.up hb, h.d2.up hb, h.d3.up hb, h.n3.up h.d3.lt hb⟩
theorem MuF.drewN {w : World} {x y : Int} {a b : Option Addr} {n m ca cb : Nat} {W : World} (h : MuF w x y a b n m ca cb W) (k : Nat) : MuF w x y a b n m ca cb (W.drewN k) :=
  ⟨Below.drewN h.bl k, h.d1.drewN k, h.d2.drewN k, h.d3.drewN k, h.n3.drewN k⟩
theorem MuF.set {w : World} {x y : Int} {a b : Option Addr} {n m ca cb : Nat} {W : World} (h : MuF w x y a b n m ca cb W) {g : Nat} (hg : w.heap.size + 3 ≤ g) (i : Nat) (v : Value) : MuF w x y a b n m ca cb (W.setCell ⟨g, i, none⟩ v) :=
  ⟨h.bl.setCell (by show w.heap.size ≤ g; omega) _, h.d1.other (by omega) _ _, h.d2.other (by omega) _ _, h.d3.other (by omega) _ _, fun o u e => by
    rw [World.cell?_setCell_other _ _ _ _ (by intro hh; injection hh with h1; omega)] at e
    exact h.n3 o u e⟩

theorem mk_w (z : Int) (k : Nat) (hz : z = k) (hk : k ≤ 4398046511104) (w : World) :
    (Instr.makeSlice 54 (.int .i64 z) (.int .i64 z)).run Tryz.prog w = .ok (.slice (some ⟨w.heap.size, 0, none⟩) k k) (w.alloc (.cells (madeCells #[.int .u32 0] k) 85)) := by
  subst hz
  obtain ⟨i0, hi, hz0, hz1, hz2⟩ := info_parts infoW
  have h := run_make (P := Tryz.prog) w 54 85 i0 (.int .u32 0) Tryz.underlying54 hi hz0 .i64 .i64 (k : Int) (k : Int) (by omega) (Int.le_refl _) (by rw [hz2]; omega) (by omega)
  simpa [hz1, Value.cells] using h

set_option maxRecDepth 100000 in
set_option maxHeartbeats 8000000 in
theorem rmul_core (x y : Int) (a b : Option Addr) (n m ca cb : Nat) (f g : Nat → Nat) (w : World) (hn : n ≤ 1099511627776) (hm : m ≤ 1099511627776) (hwf : Wd w a n f) (hwg : Wd w b m g) (hf : Wf f n) (hg : Wf g m) :
    Calls Tryz.prog 78 #[.agg #[.bool (decide (x < 0)), .slice a n ca], .agg #[.bool (decide (y < 0)), .slice b m cb]] w fun e w' => ∃ v, e = .returned v ∧ It w' v (sg (!(decide (x < 0) == decide (y < 0))) (nv f n * nv g m)) ∧ Below w.heap.size w w' := by
  obtain ⟨W, hW, hw, d1, d2, d3, n1, n2, n3, hz⟩ := three_boxes w (decide (x < 0)) (decide (y < 0)) a b n m ca cb 56
  have F : MuF w x y a b n m ca cb W := ⟨hw, d1, d2, d3, n3⟩
  have hmk := mk_w ((n : Int) + (m : Int)) (n + m) (by omega) (by omega)
  have HZ := Lib.hid hz
  clear hz hw d1 d2 d3 n1 n2 n3
  have p2 := F.d1.c1
  have q2 := F.d2.c1
  go_enter Tryz.func78, Tryz.ntmps78
  go_wp2_with fail
  rw [← hW]
  clear hW p2 q2
  replace F := F.up (below_new W (.cells (madeCells #[.int .u32 0] (n + m)) 85))
  have hO := Own.zeros W 85 (n + m)
  rw [HZ.out] at hO
  have hO : Own (W.alloc (.cells (madeCells #[.int .u32 0] (n + m)) 85)) (w.heap.size + 1 + 1 + 1) 85 (n + m) (wv fun _ => 0) := hO
  generalize W.alloc (.cells (madeCells #[.int .u32 0] (n + m)) 85) = W1 at *
  go_loopw [6, 7, 8] (fun s _ _ wr => ∃ (i : Nat) (o : Nat → Nat), i ≤ n ∧ s = .int .i64 i ∧ Own wr (w.heap.size + 1 + 1 + 1) 85 (n + m) (wv o) ∧ Wf o (n + m) ∧ nv o (i + m) = nv f i * nv g m ∧ MuF w x y a b n m ca cb wr)
    (fun s _ _ _ => n - (intOf s).toNat)
  case atStart =>
    refine ⟨0, fun _ => 0, Nat.zero_le _, rfl, hO, fun _ _ => Nat.zero_lt_succ _, ?_, F⟩
    rw [nv_zero (fun _ _ => rfl)]; simp [nv]
  case round =>
    obtain ⟨i, o, hi, rfl, hown, hwo, hval, F⟩ := hrel
    have HV := Lib.hid hval
    clear hval
    have p2 := F.d1.c1
    have q2 := F.d2.c1
    have i0 : (0 : Int) ≤ (i : Int) := by omega
    by_cases hlt : i < n
    · obtain ⟨ba, offa, rfl, hba, hca'⟩ := hwf.at hlt
      have hfi := hf i hlt
      have i1 : (i : Int) < (n : Int) := by omega
      go_wp2_with fail
      obtain ⟨wo, hwo'⟩ : ∃ wo, wo = wr := ⟨_, rfl⟩
      rw [← hwo'] at F hown p2 q2 ⊢
      clear hwo'
      go_loopw [7, 8] (fun c s wq => ∃ (k cn : Nat) (o' : Nat → Nat), k ≤ m ∧ s = .int .i64 k ∧ c = .int .u64 cn ∧ cn < 4294967296 ∧ Own wq (w.heap.size + 1 + 1 + 1) 85 (n + m) (wv o') ∧ Wf o' (n + m) ∧
          nv o' (i + m) + cn * 4294967296 ^ (i + k) = nv o (i + m) + f i * nv g k * 4294967296 ^ i ∧ MuF w x y (some ⟨ba, offa, none⟩) b n m ca cb wq)
        (fun _ s _ => m - (intOf s).toNat)
      case atStart => exact ⟨0, 0, o, Nat.zero_le _, rfl, rfl, by decide, hown, hwo, by simp [nv], F⟩
      case round =>
        obtain ⟨k, cn, o', hk, rfl, rfl, hcn, hown', hwo', hv', F'⟩ := hrel
        have HV' := Lib.hid hv'
        clear hv' p2 q2
        have p2 := F'.d1.c1
        have q2 := F'.d2.c1
        have k0 : (0 : Int) ≤ (k : Int) := by omega
        by_cases hkm : k < m
        · obtain ⟨bb, offb, rfl, hbb, hcb'⟩ := hwg.at hkm
          have hc1 := (F'.bl.cell (p := ⟨ba, offa + i, none⟩) hba).trans (hca' i hlt)
          have hc2 := (F'.bl.cell (p := ⟨bb, offb + k, none⟩) hbb).trans (hcb' k hkm)
          have hc3 := hown'.cell (i := i + k) (by omega)
          have hfr := hown'.free (i + k)
          have hhk := hg k hkm
          have hok := hwo' (i + k) (by omega)
          have hbd := mul_bound (f i) (g k) (o' (i + k)) cn hfi hhk hok hcn
          have hbd' : cn + (f i * g k + o' (i + k)) < 18446744073709551616 := by omega
          have k1 : (k : Int) < (m : Int) := by omega
          unfold wv at hc3
          clear hcb'
          have hstep := mul_step o o' f g i k m cn hkm HV'.out
          have HST := Lib.hid hstep
          clear hstep
          generalize hfx : f i = X at *
          generalize hgx : g k = Y at *
          generalize hox : o' (i + k) = Z at *
          have HFX := Lib.hid hfx
          have HGX := Lib.hid hgx
          have HOX := Lib.hid hox
          clear hfx hgx hox
          have hp0 : (0 : Int) ≤ (X : Int) * (Y : Int) := by rw [← Int.natCast_mul]; omega
          have hp1 : (X : Int) * (Y : Int) = ((X * Y : Nat) : Int) := by rw [Int.natCast_mul]
          have wx : IntKind.u64.wrap (X : Int) = (X : Int) := IntWalk.u64_in _ (by omega)
          have wy : IntKind.u64.wrap (Y : Int) = (Y : Int) := IntWalk.u64_in _ (by omega)
          have wz : IntKind.u64.wrap (Z : Int) = (Z : Int) := IntWalk.u64_in _ (by omega)
          have w1 : IntKind.u64.wrap ((X : Int) * (Y : Int)) = (X : Int) * (Y : Int) := IntWalk.u64_in _ (by omega)
          have w2 : IntKind.u64.wrap ((X : Int) * (Y : Int) + (Z : Int)) = (X : Int) * (Y : Int) + (Z : Int) := IntWalk.u64_in _ (by omega)
          have w3 : IntKind.u64.wrap ((cn : Int) + ((X : Int) * (Y : Int) + (Z : Int))) = (cn : Int) + ((X : Int) * (Y : Int) + (Z : Int)) := IntWalk.u64_in _ (by omega)
          have s1 : IntKind.i64.wrap ((i : Int) + (k : Int)) = (i : Int) + (k : Int) := IntWalk.i64_in _ (by omega)
          have s2 : (0 : Int) ≤ (i : Int) + (k : Int) := by omega
          have s3 : (i : Int) + (k : Int) < ((n + m : Nat) : Int) := by omega
          have s5 : (i : Int) + (k : Int) < (n : Int) + (m : Int) := by omega
          have s4 : ((i : Int) + (k : Int)).toNat = i + k := by omega
          have HP1 := Lib.hid hp1
          clear hp1 hbd hbd'
          go_upto_region 9 with fail
          go_quiet (fail)
          clear wx wy wz w1 w2 w3
          replace F' := F'.drewN nq
          replace hown' : Own (wr.drewN nq) (w.heap.size + 1 + 1 + 1) 85 (n + m) (wv o') := hown'
          replace hfr : (wr.drewN nq).frozen? ⟨w.heap.size + 1 + 1 + 1, i + k, none⟩ = false := hfr
          replace hc3 : (wr.drewN nq).cell? ⟨w.heap.size + 1 + 1 + 1, i + k, none⟩ = some (.int .u32 (Z : Int)) := hc3
          generalize wr.drewN nq = W2 at *
          have hval : (cn : Int) + ((X : Int) * (Y : Int) + (Z : Int)) = ((X * Y + Z + cn : Nat) : Int) := by rw [HP1.out]; omega
          rw [hval]
          have hT : X * Y + Z + cn < 18446744073709551616 := mul_bound X Y Z cn hfi hhk hok hcn
          generalize X * Y + Z + cn = T at *
          clear hval s1 s2 s3 s4 s5
          go_wp2_with fail
          go_roundw
          case rel =>
            exact ⟨k + 1, T / 4294967296, upd o' (i + k) (T % 4294967296), by omega, by go_num, by go_num, by omega, hown'.setw (by omega) _, hwo'.upd _ _ (by omega), HST.out, F'.set (by omega) _ _⟩
          case measure => simp [intOf]; omega
        · have hkm' : k = m := by omega
          subst hkm'
          have hc3 := hown'.cell (i := i + k) (by omega)
          have hfr := hown'.free (i + k)
          have k1 : ¬ (k : Int) < (k : Int) := by omega
          unfold wv at hc3
          have hce : (cn : Int) % 4294967296 = (cn : Int) := by omega
          have HCE := Lib.hid hce
          clear hce hkm
          go_wp2_with fail
          go_roundw
          case rel =>
            refine ⟨i + 1, upd o' (i + k) cn, by omega, by go_num, ?_, hwo'.upd _ _ hcn, ?_, F'.set (by omega) _ _⟩
            · exact hown'.setw (i := i + k) (by omega) cn
            · exact mul_round o' f g i k cn (by rw [HV'.out, HV.out])
          case measure => simp [intOf]; omega
    · have hin : i = n := by omega
      subst hin
      have i1 : ¬ (i : Int) < (i : Int) := by omega
      have p1 := F.d1.c0
      have q1 := F.d2.c0
      have u0 := F.d3.c0; have u1 := F.d3.c1; have u2 := F.d3.f0; have u3 := F.d3.f1
      clear hlt
      go_wp2_with fail
      refine (made_any (!(decide (x < 0) == decide (y < 0))) _ (i + m) (i + m) o _ (Nat.le_refl _) (by omega) hown.wd hwo).mono ?_
      rintro e w2 ⟨v, rfl, hv, hb⟩
      rw [HV.out] at hv
      obtain ⟨s', a2, n2, cap2, rfl⟩ := hv.shape
      clear p1 q1 p2 q2 u0 u1 u2 u3
      replace F := F.up hb
      have u0 := F.d3.c0; have u1 := F.d3.c1; have u2 := F.d3.f0; have u3 := F.d3.f1
      go_wp2_with fail
      exact ret_box (B := w.heap.size + 2) rfl rfl rfl (F.d3.put _ _) ⟨_, rfl, hv.put F.n3 _ _ _ _, (F.bl.setCell (by show w.heap.size ≤ w.heap.size + 2; omega) _).setCell (by show w.heap.size ≤ w.heap.size + 2; omega) _⟩

set_option maxRecDepth 100000 in
set_option maxHeartbeats 8000000 in
theorem rmul_any (va vb : Value) (x y : Int) (w : World) (hx : It w va x) (hy : It w vb y) (hsx : sz x ≤ 1099511627776) (hsy : sz y ≤ 1099511627776) :
    Calls Tryz.prog 78 #[va, vb] w fun e w' => ∃ v, e = .returned v ∧ It w' v (x * y) ∧ Below w.heap.size w w' := by
  obtain ⟨a, ca, f, rfl, h1, h2, h3, h4, h5⟩ := hx.parts
  obtain ⟨b, cb, g, rfl, k1, k2, k3, k4, k5⟩ := hy.parts
  have H5 := Lib.hid h5
  have K5 := Lib.hid k5
  clear h5 k5
  refine (rmul_core x y a b (sz x) (sz y) ca cb f g w hsx hsy h2 k2 h3 k3).mono ?_
  rintro e w' ⟨v, he, hv, hbl⟩
  rw [mul_sg x y f g _ _ H5.out K5.out] at hv
  exact ⟨v, he, hv, hbl⟩
end Go.Proofs.YtdbpkoddfcdhdaaGreat

namespace Go.Proofs.YtdbpkoddfcdhdaaGreat
open Go.RowKit
attribute [local go_sem ↓] Go.wp_at_zero Go.wp_at_succ

theorem step_apI {ops : Array Oper} {o : Oper} {a : Act} {K : Act → World → Prop} {Q : Exit → Act → World → Prop} {E : Prop} {w : World} (hgd : o.guard = none) (su sx : Operand) (t : TypeId)
    (ho : o.op = .call { callee := .builtin .append, args := #[su, sx], argTypes := #[t, t] }) (ht : Tryz.prog.underlying t = some (.slice 56)) (base : Nat) (v : Value) (l : List Int) (hs : a.eval su = v) (h : Ap w base v l) (hbase : base ≤ w.heap.size)
    (B T c1 : Nat) (fr : Nat × Nat) (s : Bool) (c : Option Addr) (n k : Nat) (x : Int) (hxv : a.eval sx = .slice (some ⟨B, 0, none⟩) 1 c1)
    (hB : w.heap[B]? = some (.cells #[.bool s, .slice c n k] T fr)) (hx : It w (.agg #[.bool s, .slice c n k]) x) (hl : l.length ≤ 1099511627776)
    (hK : ∀ g cap w', Ap w' base (.slice (some ⟨g, 0, none⟩) (l.length + 1) cap) (l ++ [x]) → Below base w w' → K (a.put o.dst (.slice (some ⟨g, 0, none⟩) (l.length + 1) cap)) w') :
    if Region.wanted o (yielded ops a.tmps) = true then Oper.wp Tryz.prog o a w K Q else E := by
  have hw : Region.wanted o (yielded ops a.tmps) = true := by simp [Region.wanted, hgd]
  rw [if_pos hw]
  obtain ⟨g, cap, w', hr, h2, h3⟩ := run_apI t o.type ht h hbase (c1 := c1) hB hx hl
  unfold Oper.wp execOp
  simp only [ho, resolve, invoke, builtin, Sem.run_bind, Sem.run_pure, Result.andThen_ok, List.map_toArray, List.map_cons, List.map_nil, hs, hxv, hr]
  exact hK g cap w' h2 h3

def timesR (k : Int) (l : List Int) : List Int := (List.range l.length).map fun i => k * l.getD i 0
def plusR (l : List Int) (k : Int) (m : List Int) : List Int := (List.range l.length).map fun i => l.getD i 0 + k * m.getD i 0

theorem range_take (F : Nat → Int) (n i : Nat) (h : i < n) : ((List.range n).map F).take (i + 1) = ((List.range n).map F).take i ++ [F i] := by
  rw [List.take_succ_eq_append_getElem (by simpa using h)]
  simp

set_option maxRecDepth 100000 in
set_option maxHeartbeats 4000000 in
theorem times_any (va vb : Value) (k : Int) (l : List Int) (w : World) (hk : It w va k) (hb : Rw w vb l) (hN : l.length ≤ 1099511627776) (hsk : sz k ≤ 1099511627776) (hsl : ∀ i, sz (l.getD i 0) ≤ 1099511627776) :
    Calls Tryz.prog 64 #[va, vb] w fun e w' => ∃ v, e = .returned v ∧ Rw w' v (timesR k l) ∧ Below w.heap.size w w' := by
  obtain ⟨b, cb, rfl, hcb, hrb⟩ := hb
  obtain ⟨sk, ak, nk, ck, rfl⟩ := hk.shape
  have hvk := Vx.new (w := w) (B := w.heap.size) (T := 56) rfl hk
  have hb0 := below_new w (.cells #[.bool sk, .slice ak nk ck] 56)
  obtain ⟨w1, hw1⟩ : ∃ w1, w1 = w.alloc (.cells #[.bool sk, .slice ak nk ck] 56) := ⟨_, rfl⟩
  have hz1 : w1.heap.size = w.heap.size + 1 := by rw [hw1, World.size_alloc]
  have ha0 := Ap.lit0 w1 (base := w.heap.size + 1) (Nat.le_of_eq hz1.symm)
  rw [hz1] at ha0
  have hbs := below_new w1 (.cells #[] 56)
  rw [hz1] at hbs
  rw [← hw1] at hvk hb0
  have HZ1 := Lib.hid hz1
  clear hz1
  go_enter Tryz.func64, Tryz.ntmps64
  go_wp2_with fail
  rw [← hw1]
  clear hw1
  go_loopw [5, 6] (fun s5 s wq => ∃ (i : Nat) (o : List Int) (u : Value), i ≤ l.length ∧ s = .int .i64 i ∧ o = (timesR k l).take i ∧ s5 = u ∧ Ap wq (w.heap.size + 1) u o ∧ Below (w.heap.size + 1) w1 wq)
    (fun _ s _ => l.length - (intOf s).toNat)
  case atStart => exact ⟨0, [], _, Nat.zero_le _, rfl, rfl, rfl, ha0, hbs⟩
  case round =>
    obtain ⟨i, o, u, hi, rfl, ho, rfl, hAp, hbl1⟩ := hrel
    have hvx := hvk.up (by rw [HZ1.out]; exact hbl1)
    have hbl := Bl.up hb0 (by rw [HZ1.out]; exact hbl1)
    have HO := Lib.hid ho
    have hol : o.length ≤ 1099511627776 := by rw [ho, List.length_take]; omega
    clear ho
    by_cases hlt : i < l.length
    · obtain ⟨bb, offb, rfl, hbb, hlb⟩ := hrb.at hlt
      obtain ⟨s2, a2, n2, k2, q0, q1, q2⟩ := hlb i hlt
      clear hlb hrb
      replace q0 := keepc hbl q0
      replace q1 := keepc hbl q1
      replace q2 := q2.up hbl
      have i0 : (0 : Int) ≤ (i : Int) := by omega
      have i1 : (i : Int) < (l.length : Int) := by omega
      have hsx := hsl i
      have htk : (timesR k l).take (i + 1) = (timesR k l).take i ++ [k * l.getD i 0] := range_take (fun i => k * l.getD i 0) l.length i hlt
      have HTK := Lib.hid htk
      clear htk
      generalize hx : l.getD i 0 = x at *
      have HX := Lib.hid hx
      clear hx
      obtain ⟨s1, a1, n1, k1, p0, p1, -, -, p2⟩ := hvx.cells
      have hsz := hbl.size
      have hsz1 := hbl1.size
      rw [HZ1.out] at hsz1
      go_upto_region 5 with fail
      go_region_held3 (fun w' => w'.cell? ⟨w.heap.size, 0, none⟩ = some (.bool s1) ∧ w'.cell? ⟨w.heap.size, 1, none⟩ = some (.slice a1 n1 k1) ∧ w'.cell? ⟨bb, offb + i * 2, none⟩ = some (.bool s2) ∧ w'.cell? ⟨bb, offb + i * 2 + 1, none⟩ = some (.slice a2 n2 k2))
        ((repeat' (first | with_reducible assumption | (with_reducible refine And.intro ?_ ?_) | (with_reducible refine cellD ?_) | (with_reducible refine cellN ?_ _) | (with_reducible refine cellS ?_ (by omega)) | (with_reducible refine keepc (by with_reducible assumption) ?_))))
        (first
          | (go_at_call 78; with_reducible (refine (rmul_any _ _ k x _ (by exact srch) (by exact srch) (by exact hsk) (by exact hsx)).mono ?_); rintro e w2 ⟨v, rfl, hv, hb2⟩; obtain ⟨s3, a3, n3, k3, rfl⟩ := hv.shape)
          | (refine step_apI (by rfl) (.tmp 14) (.tmp 21) _ (by rfl) Tryz.underlying36 (w.heap.size + 1) _ o (by rfl) ((hAp.drew.up hb2).alloc _) (by have := hb2.size; simp at this ⊢; omega) w2.heap.size _ _ _ s3 a3 n3 k3 (k * x) (by rfl) (by exact heap_alloc_new _ _) (hv.alloc _) hol ?_; intro g cap w4 hAp4 hb4; have t0 := (hb4.cell (p := ⟨w.heap.size, 0, none⟩) (Nat.lt_succ_self _)).trans (cellN (keepc hb2 (cellD p0)) _); have t1 := (hb4.cell (p := ⟨w.heap.size, 1, none⟩) (Nat.lt_succ_self _)).trans (cellN (keepc hb2 (cellD p1)) _); have t2 := (hb4.cell (p := ⟨bb, offb + i * 2, none⟩) (by show bb < w.heap.size + 1; omega)).trans (cellN (keepc hb2 (cellD q0)) _); have t3 := (hb4.cell (p := ⟨bb, offb + i * 2 + 1, none⟩) (by show bb < w.heap.size + 1; omega)).trans (cellN (keepc hb2 (cellD q1)) _)))
      go_wp2_with fail
      go_roundw
      case rel =>
        have e : (timesR k l).take (i + 1) = o ++ [k * x] := by rw [HO.out]; exact HTK.out
        exact ⟨i + 1, _, _, by omega, by go_num, e.symm, rfl, hAp4, ((hbl1.drew.trans (hb2.mono hsz1)).alloc (by have := hb2.size; simp at this; omega) _).trans hb4⟩
      case measure => simp [intOf]; omega
    · have hin : i = l.length := by omega
      have hR := hAp.rw
      have ho2 : o = timesR k l := by rw [HO.out]; exact List.take_of_length_le (by simp [timesR]; omega)
      subst ho2
      clear hvx HO hol
      have i1 : ¬ (i : Int) < (l.length : Int) := by omega
      go_wp2_with fail
      go_ret
      exact ⟨_, rfl, hR, hbl⟩

set_option maxRecDepth 100000 in
set_option maxHeartbeats 4000000 in
theorem plusR_any (va vk vb : Value) (k : Int) (l m : List Int) (w : World) (ha : Rw w va l) (hk : It w vk k) (hb : Rw w vb m) (hlm : l.length ≤ m.length) (hN : l.length ≤ 1099511627776) (hsk : sz k ≤ 549755813888) (hsl : ∀ i, sz (l.getD i 0) ≤ 1099511627776) (hsm : ∀ i, sz (m.getD i 0) ≤ 549755813888) :
    Calls Tryz.prog 40 #[va, vk, vb] w fun e w' => ∃ v, e = .returned v ∧ Rw w' v (plusR l k m) ∧ Below w.heap.size w w' := by
  obtain ⟨a, ca, rfl, hca, hra⟩ := ha
  obtain ⟨b, cb, rfl, hcb, hrb⟩ := hb
  obtain ⟨sk, ak, nk, ck, rfl⟩ := hk.shape
  have hvk := Vx.new (w := w) (B := w.heap.size) (T := 56) rfl hk
  have hb0 := below_new w (.cells #[.bool sk, .slice ak nk ck] 56)
  obtain ⟨w1, hw1⟩ : ∃ w1, w1 = w.alloc (.cells #[.bool sk, .slice ak nk ck] 56) := ⟨_, rfl⟩
  have hz1 : w1.heap.size = w.heap.size + 1 := by rw [hw1, World.size_alloc]
  have ha0 := Ap.lit0 w1 (base := w.heap.size + 1) (Nat.le_of_eq hz1.symm)
  rw [hz1] at ha0
  have hbs := below_new w1 (.cells #[] 56)
  rw [hz1] at hbs
  rw [← hw1] at hvk hb0
  have HZ1 := Lib.hid hz1
  clear hz1
  go_enter Tryz.func40, Tryz.ntmps40
  go_wp2_with fail
  rw [← hw1]
  clear hw1
  go_loopw [7, 8] (fun s5 s wq => ∃ (i : Nat) (o : List Int) (u : Value), i ≤ l.length ∧ s = .int .i64 i ∧ o = (plusR l k m).take i ∧ s5 = u ∧ Ap wq (w.heap.size + 1) u o ∧ Below (w.heap.size + 1) w1 wq)
    (fun _ s _ => l.length - (intOf s).toNat)
  case atStart => exact ⟨0, [], _, Nat.zero_le _, rfl, rfl, rfl, ha0, hbs⟩
  case round =>
    obtain ⟨i, o, u, hi, rfl, ho, rfl, hAp, hbl1⟩ := hrel
    have hvx := hvk.up (by rw [HZ1.out]; exact hbl1)
    have hbl := Bl.up hb0 (by rw [HZ1.out]; exact hbl1)
    have HO := Lib.hid ho
    have hol : o.length ≤ 1099511627776 := by rw [ho, List.length_take]; omega
    clear ho
    by_cases hlt : i < l.length
    · have hlm' : i < m.length := by omega
      obtain ⟨bb, offb, rfl, hbb, hlb⟩ := hrb.at hlm'
      obtain ⟨s2, a2, n2, k2, q0, q1, q2⟩ := hlb i hlm'
      obtain ⟨ba, offa, rfl, hba, hla⟩ := hra.at hlt
      obtain ⟨s5, a5, n5, k5, r0, r1, r2⟩ := hla i hlt
      clear hlb hrb hla hra
      replace r0 := keepc hbl r0
      replace r1 := keepc hbl r1
      replace r2 := r2.up hbl
      have i2 : (i : Int) < (m.length : Int) := by omega
      replace q0 := keepc hbl q0
      replace q1 := keepc hbl q1
      replace q2 := q2.up hbl
      have i0 : (0 : Int) ≤ (i : Int) := by omega
      have i1 : (i : Int) < (l.length : Int) := by omega
      have hsx := hsm i
      have hsy := hsl i
      have hsp : sz (k * m.getD i 0) ≤ 1099511627776 := Nat.le_trans (sz_mul _ _) (by omega)
      have htk : (plusR l k m).take (i + 1) = (plusR l k m).take i ++ [l.getD i 0 + k * m.getD i 0] := range_take (fun i => l.getD i 0 + k * m.getD i 0) l.length i hlt
      have HTK := Lib.hid htk
      clear htk
      generalize hx : m.getD i 0 = x at *
      have HX := Lib.hid hx
      clear hx
      generalize hy : l.getD i 0 = y at *
      have HY := Lib.hid hy
      clear hy
      obtain ⟨s1, a1, n1, k1, p0, p1, -, -, p2⟩ := hvx.cells
      have hsz := hbl.size
      have hsz1 := hbl1.size
      rw [HZ1.out] at hsz1
      go_upto_region 5 with fail
      go_region_held3 (fun w' => w'.cell? ⟨w.heap.size, 0, none⟩ = some (.bool s1) ∧ w'.cell? ⟨w.heap.size, 1, none⟩ = some (.slice a1 n1 k1) ∧ w'.cell? ⟨bb, offb + i * 2, none⟩ = some (.bool s2) ∧ w'.cell? ⟨bb, offb + i * 2 + 1, none⟩ = some (.slice a2 n2 k2) ∧ w'.cell? ⟨ba, offa + i * 2, none⟩ = some (.bool s5) ∧ w'.cell? ⟨ba, offa + i * 2 + 1, none⟩ = some (.slice a5 n5 k5))
        ((repeat' (first | with_reducible assumption | (with_reducible refine And.intro ?_ ?_) | (with_reducible refine cellD ?_) | (with_reducible refine cellN ?_ _) | (with_reducible refine cellS ?_ (by omega)) | (with_reducible refine keepc (by with_reducible assumption) ?_))))
        (first
          | (go_at_call 78; with_reducible (refine (rmul_any _ _ k x _ (by exact srch) (by exact srch) (by exact Nat.le_trans hsk (by decide)) (by exact Nat.le_trans hsx (by decide))).mono ?_); rintro e w2 ⟨v, rfl, hv, hb2⟩; obtain ⟨s3, a3, n3, k3, rfl⟩ := hv.shape)
          | (go_at_call 77; with_reducible (refine (radd_any _ _ y (k * x) _ (by exact srch) (by exact srch) (by exact Nat.le_trans hsy (by decide)) (by exact Nat.le_trans hsp (by decide))).mono ?_); rintro e w3 ⟨v, rfl, hv4, hb3⟩; obtain ⟨s4, a4, n4, k4, rfl⟩ := hv4.shape)
          | (refine step_apI (by rfl) (.tmp 16) (.tmp 28) _ (by rfl) Tryz.underlying36 (w.heap.size + 1) _ o (by rfl) (((hAp.drew.up hb2).up hb3).alloc _) (by have := hb2.size; have := hb3.size; simp at *; omega) w3.heap.size _ _ _ s4 a4 n4 k4 (y + k * x) (by rfl) (by exact heap_alloc_new _ _) (hv4.alloc _) hol ?_; intro g cap w4 hAp4 hb4; have t0 := (hb4.cell (p := ⟨w.heap.size, 0, none⟩) (Nat.lt_succ_self _)).trans (cellN (keepc hb3 (keepc hb2 (cellD p0))) _); have t1 := (hb4.cell (p := ⟨w.heap.size, 1, none⟩) (Nat.lt_succ_self _)).trans (cellN (keepc hb3 (keepc hb2 (cellD p1))) _); have t2 := (hb4.cell (p := ⟨bb, offb + i * 2, none⟩) (by show bb < w.heap.size + 1; omega)).trans (cellN (keepc hb3 (keepc hb2 (cellD q0))) _); have t3 := (hb4.cell (p := ⟨bb, offb + i * 2 + 1, none⟩) (by show bb < w.heap.size + 1; omega)).trans (cellN (keepc hb3 (keepc hb2 (cellD q1))) _); have t4 := (hb4.cell (p := ⟨ba, offa + i * 2, none⟩) (by show ba < w.heap.size + 1; omega)).trans (cellN (keepc hb3 (keepc hb2 (cellD r0))) _); have t5 := (hb4.cell (p := ⟨ba, offa + i * 2 + 1, none⟩) (by show ba < w.heap.size + 1; omega)).trans (cellN (keepc hb3 (keepc hb2 (cellD r1))) _)))
      go_wp2_with fail
      go_roundw
      case rel =>
        have e : (plusR l k m).take (i + 1) = o ++ [y + k * x] := by rw [HO.out]; exact HTK.out
        exact ⟨i + 1, _, _, by omega, by go_num, e.symm, rfl, hAp4, (((hbl1.drew.trans (hb2.mono hsz1)).trans (hb3.mono (by have := hb2.size; simp at this; omega))).alloc (by have := hb2.size; have := hb3.size; simp at *; omega) _).trans hb4⟩
      case measure => simp [intOf]; omega
    · have hin : i = l.length := by omega
      have hR := hAp.rw
      have ho2 : o = plusR l k m := by rw [HO.out]; exact List.take_of_length_le (by simp [plusR]; omega)
      subst ho2
      clear hvx HO hol
      have i1 : ¬ (i : Int) < (l.length : Int) := by omega
      go_wp2_with fail
      go_ret
      exact ⟨_, rfl, hR, hbl⟩
end Go.Proofs.YtdbpkoddfcdhdaaGreat

namespace Go.Proofs.YtdbpkoddfcdhdaaGreat
open Go.RowKit
attribute [local go_sem ↓] Go.wp_at_zero Go.wp_at_succ

/-- The first t rows combined. -/
def combR (m : List (List Int)) (c : List Int) (n : Nat) : Nat → List Int
  | 0 => List.replicate n 0
  | t + 1 => plusR (combR m c n t) (c.getD t 0) (m.getD t [])
theorem combR_len (m : List (List Int)) (c : List Int) (n : Nat) : ∀ t, (combR m c n t).length = n
  | 0 => by simp [combR]
  | t + 1 => by simp [combR, plusR, combR_len m c n t]

set_option maxRecDepth 100000 in
set_option maxHeartbeats 4000000 in
theorem combined_any (va vb : Value) (m : List (List Int)) (c : List Int) (n : Nat) (w : World) (ha : Mx w va m) (hb : Rw w vb c) (hn : n ≤ 1099511627776) (hM : m.length ≤ 1099511627776) (hC : c.length ≤ 1099511627776)
    (hrow : ∀ i, i < m.length → n ≤ (m.getD i []).length) (hsc : ∀ i, sz (c.getD i 0) ≤ 549755813888) (hsm : ∀ i k, sz ((m.getD i []).getD k 0) ≤ 549755813888) (hst : ∀ t, t < min m.length c.length → ∀ k, sz ((combR m c n t).getD k 0) ≤ 1099511627776) :
    Calls Tryz.prog 18 #[va, vb, .int .i64 (n : Int)] w fun e w' => ∃ v, e = .returned v ∧ Rw w' v (combR m c n (min m.length c.length)) ∧ Below w.heap.size w w' := by
  obtain ⟨a, ca, rfl, hca, hra⟩ := ha
  obtain ⟨b, cb, rfl, hcb, hrb⟩ := hb
  have hmk := mk_row (n : Int) n rfl hn
  have hz0 := (Ow.zeros w n).row (cap := n) (by simp)
  rw [List.length_replicate] at hz0
  have hb0 := below_new w (.cells (madeCells #[.bool false, .slice none 0 0] (n * 2)) 56)
  have HST := Lib.hid hst
  have HROW := Lib.hid hrow
  clear hst hrow
  go_enter Tryz.func18, Tryz.ntmps18
  go_wp2_with fail
  go_loopw [7, 8] (fun s5 s wq => ∃ (i : Nat) (u : Value), i ≤ m.length ∧ i ≤ c.length ∧ s = .int .i64 i ∧ s5 = u ∧ Rw wq u (combR m c n i) ∧ Below w.heap.size w wq)
    (fun _ s _ => m.length - (intOf s).toNat)
  case atStart => exact ⟨0, _, Nat.zero_le _, Nat.zero_le _, rfl, rfl, hz0, hb0⟩
  case round =>
    obtain ⟨i, u, hi, hic, rfl, rfl, hR, hbl⟩ := hrel
    have i0 : (0 : Int) ≤ (i : Int) := by omega
    by_cases hlt : i < m.length
    · have i1 : (i : Int) < (m.length : Int) := by omega
      by_cases hlc : i < c.length
      · have i2 : (i : Int) < (c.length : Int) := by omega
        obtain ⟨bb, offb, rfl, hbb, hlb⟩ := hrb.at hlc
        obtain ⟨s2, a2, n2, k2, q0, q1, q2⟩ := hlb i hlc
        obtain ⟨ba, offa, rfl, hba, hla⟩ := hra.at hlt
        obtain ⟨a5, k5, r0, r1⟩ := hla i hlt
        clear hlb hrb hla hra
        replace q0 := keepc hbl q0
        replace q1 := keepc hbl q1
        replace q2 := q2.up hbl
        replace r0 := keepc hbl r0
        replace r1 := r1.up hbl
        have hlen : (combR m c n i).length ≤ (m.getD i []).length := by rw [combR_len]; exact HROW.out i hlt
        have hln : (combR m c n i).length ≤ 1099511627776 := by rw [combR_len]; exact hn
        have hs1 := HST.out i (by omega)
        have hs2 := hsc i
        have hs3 := hsm i
        have hC1 := fun W v1 v2 v3 (h1 : Rw W v1 (combR m c n i)) (h2 : It W v2 (c.getD i 0)) (h3 : Rw W v3 (m.getD i [])) => plusR_any v1 v2 v3 (c.getD i 0) (combR m c n i) (m.getD i []) W h1 h2 h3 hlen hln hs2 hs1 hs3
        have HC1 := Lib.hid hC1
        have hnx : combR m c n (i + 1) = plusR (combR m c n i) (c.getD i 0) (m.getD i []) := rfl
        have HNX := Lib.hid hnx
        clear hC1 hnx hs1 hs2 hs3 hlen
        generalize (m.getD i []).length = nr at *
        go_upto_region 5 with fail
        go_region_held3 (fun w' => w'.cell? ⟨bb, offb + i * 2, none⟩ = some (.bool s2) ∧ w'.cell? ⟨bb, offb + i * 2 + 1, none⟩ = some (.slice a2 n2 k2) ∧ w'.cell? ⟨ba, offa + i, none⟩ = some (.slice a5 nr k5))
          ((repeat' (first | with_reducible assumption | (with_reducible refine And.intro ?_ ?_) | (with_reducible refine cellD ?_) | (with_reducible refine cellN ?_ _) | (with_reducible refine cellS ?_ (by omega)) | (with_reducible refine keepc (by with_reducible assumption) ?_))))
          (first
            | (go_at_call 40; refine (HC1.out _ _ _ _ (hR.drew) (q2.drew) (r1.drew)).mono ?_; rintro e w2 ⟨v, rfl, hv, hb2⟩))
        go_wp2_with fail
        go_roundw
        case rel => exact ⟨i + 1, _, by omega, by omega, by go_num, rfl, by rw [HNX.out]; exact hv, Bl.up (Bl.drew hbl) hb2⟩
        case measure => simp [intOf]; omega
      · have i2 : ¬ (i : Int) < (c.length : Int) := by omega
        have he : min m.length c.length = i := by omega
        rw [← he] at hR
        clear he
        go_wp2_with fail
        go_ret
        exact ⟨_, rfl, hR, hbl⟩
    · have i1 : ¬ (i : Int) < (m.length : Int) := by omega
      have he : min m.length c.length = i := by omega
      rw [← he] at hR
      clear he
      go_wp2_with fail
      go_ret
      exact ⟨_, rfl, hR, hbl⟩
end Go.Proofs.YtdbpkoddfcdhdaaGreat

namespace Go.Proofs.YtdbpkoddfcdhdaaGreat
open Go.RowKit
attribute [local go_sem ↓] Go.wp_at_zero Go.wp_at_succ

/-- Rows of n numbers of a list, one behind the other. -/
def madeM (V : List Int) (R n : Nat) : List (List Int) := (List.range R).map fun i => (List.range n).map fun k => V.getD (i * n + k) 0

def rowM (V : List Int) (i n : Nat) : List Int := (List.range n).map fun k => V.getD (i * n + k) 0
theorem madeM_snoc (V : List Int) (i n : Nat) : madeM V (i + 1) n = madeM V i n ++ [rowM V i n] := by
  simp [madeM, rowM, List.range_succ]
theorem rowM_len (V : List Int) (i n : Nat) : (rowM V i n).length = n := by simp [rowM]
theorem rowM_take (V : List Int) (i n k : Nat) (h : k < n) : (rowM V i n).take (k + 1) = (rowM V i n).take k ++ [V.getD (i * n + k) 0] := range_take _ _ _ h

set_option maxRecDepth 100000 in
set_option maxHeartbeats 8000000 in
theorem rmade_any (r c rows cols : Nat) (a : Option Addr) (cap : Nat) (V : List Int) (w : World) (hV : Cl w a V.length (fun i => .int .i8 (V.getD i 0))) (hv : ∀ i, -128 ≤ V.getD i 0 ∧ V.getD i 0 ≤ 127) (hN : V.length ≤ 9223372036854775807)
    (hr : r ≤ 255) (hc : c ≤ 255) (hrows : rows ≤ 100) (hcols : cols ≤ 100) (hcols0 : 0 < cols) :
    Calls Tryz.prog 6 #[.agg #[.int .u8 (r : Int), .int .u8 (c : Int), .slice a V.length cap], .int .i64 (rows : Int), .int .i64 (cols : Int)] w fun e w' => ∃ v, e = .returned v ∧ Mx w' v (madeM V (r % (rows + 1)) (1 + c % cols)) ∧ Below w.heap.size w w' := by
  have h1 : (c : Int) % (cols : Int) = ((c % cols : Nat) : Int) := by simp
  have h2 : (r : Int) % ((rows : Int) + 1) = ((r % (rows + 1) : Nat) : Int) := by simp
  have hn1 : c % cols < cols := Nat.mod_lt _ hcols0
  have hR1 : r % (rows + 1) < rows + 1 := Nat.mod_lt _ (by omega)
  have c0 : (0 : Int) ≤ (c : Int) := by omega
  have c1 : (0 : Int) < (cols : Int) := by omega
  have r0 : (0 : Int) ≤ (r : Int) := by omega
  have r1 : (0 : Int) < (rows : Int) + 1 := by omega
  have w0 : IntKind.i64.wrap (c : Int) = (c : Int) := IntWalk.i64_in _ (by omega)
  have w1 : IntKind.i64.wrap (1 + (c : Int) % (cols : Int)) = 1 + (c : Int) % (cols : Int) := IntWalk.i64_in _ (by omega)
  have H1 := Lib.hid h1
  have H2 := Lib.hid h2
  clear h1 h2
  obtain ⟨n, hn⟩ : ∃ n, n = 1 + c % cols := ⟨_, rfl⟩
  obtain ⟨R, hR⟩ : ∃ R, R = r % (rows + 1) := ⟨_, rfl⟩
  have hnb : n ≤ 100 := by omega
  have hRb : R ≤ 100 := by omega
  have he1 : (1 : Int) + (c : Int) % (cols : Int) = (n : Int) := by rw [H1.out]; omega
  have he2 : (r : Int) % ((rows : Int) + 1) = (R : Int) := by rw [H2.out]; omega
  have HE1 := Lib.hid he1
  have HE2 := Lib.hid he2
  rw [← hn, ← hR]
  clear he1 he2 hn hR H1 H2 hn1 hR1
  obtain ⟨W0, hW0⟩ : ∃ W0, W0 = w.alloc (.cells #[.int .u8 (r : Int), .int .u8 (c : Int), .slice a V.length cap] 24) := ⟨_, rfl⟩
  have hz0 : W0.heap.size = w.heap.size + 1 := by rw [hW0, World.size_alloc]
  have b0 : Below w.heap.size w W0 := by rw [hW0]; exact below_new _ _
  have x0 : W0.cell? ⟨w.heap.size, 0, none⟩ = some (.int .u8 (r : Int)) := by rw [hW0, World.cell?_alloc_at _ _ _ _ rfl]; rfl
  have x1 : W0.cell? ⟨w.heap.size, 1, none⟩ = some (.int .u8 (c : Int)) := by rw [hW0, World.cell?_alloc_at _ _ _ _ rfl]; rfl
  have x2 : W0.cell? ⟨w.heap.size, 2, none⟩ = some (.slice a V.length cap) := by rw [hW0, World.cell?_alloc_at _ _ _ _ rfl]; rfl
  have ha0 := Am2.lit0 W0 (base := w.heap.size + 1) (Nat.le_of_eq hz0.symm)
  have hbs := below_new W0 (.cells #[] 36)
  rw [hz0] at ha0 hbs
  have HZ0 := Lib.hid hz0
  clear hz0
  go_enter Tryz.func6, Tryz.ntmps6
  go_wp2_with fail
  rw [← hW0]
  clear hW0
  obtain ⟨W1, hW1⟩ : ∃ W1, W1 = W0.alloc (.cells #[] 36) := ⟨_, rfl⟩
  rw [← hW1] at ha0 hbs ⊢
  have y0 := cellN x0 (.cells #[] 36)
  have y1 := cellN x1 (.cells #[] 36)
  have y2 := cellN x2 (.cells #[] 36)
  rw [← hW1] at y0 y1 y2
  clear hW1
  go_quiet (fail)
  clear w0 w1 y0 y1 y2
  rw [HE1.out]
  replace ha0 : Am2 (W1.drewN nq) (w.heap.size + 1) _ _ := ha0
  replace hbs := Below.drewN hbs nq
  generalize W1.drewN nq = W1 at *
  go_wp2_with fail
  go_loopw [7, 8, 10, 11, 12, 13] (fun s7 s8 s _ _ _ wq => ∃ (i : Nat) (u : Value), i ≤ R ∧ s = .int .i64 i ∧ s8 = .int .i64 ((i * n : Nat) : Int) ∧ s7 = u ∧ Am2 wq (w.heap.size + 1) u (madeM V i n) ∧ Below (w.heap.size + 1) W0 wq)
    (fun _ _ s _ _ _ _ => R - (intOf s).toNat)
  case atStart => exact ⟨0, _, Nat.zero_le _, rfl, by simp, rfl, ha0, hbs⟩
  case round =>
    obtain ⟨i, u, hi, rfl, rfl, rfl, hAm, hbl⟩ := hrel
    have z0 := (hbl.cell (p := ⟨w.heap.size, 0, none⟩) (Nat.lt_succ_self _)).trans x0
    have z2 := (hbl.cell (p := ⟨w.heap.size, 2, none⟩) (Nat.lt_succ_self _)).trans x2
    have i0 : (0 : Int) ≤ (i : Int) := by omega
    have hin0 : i * n ≤ 100 * 100 := Nat.mul_le_mul (by omega) (by omega)
    by_cases hlt : i < R
    · have i1 : (i : Int) < (r : Int) % ((rows : Int) + 1) := by rw [HE2.out]; omega
      have hz1 := hbl.size
      rw [HZ0.out] at hz1
      go_wp2_with fail
      obtain ⟨wo, hwo⟩ : ∃ wo, wo = wr := ⟨_, rfl⟩
      rw [← hwo] at hAm hbl hz1 z0 z2 ⊢
      clear hwo
      generalize hat : i * n = at0 at *
      have HAT := Lib.hid hat
      clear hat
      go_loopw [8, 11, 12, 13] (fun s8 s11 s _ wq => ∃ (k : Nat) (o : List Int) (u' : Value), k ≤ n ∧ s = .int .i64 k ∧ s8 = .int .i64 ((at0 + k : Nat) : Int) ∧ o = (rowM V i n).take k ∧ s11 = u' ∧ Ap wq wo.heap.size u' o ∧ Below wo.heap.size wo wq)
        (fun _ _ s _ _ => n - (intOf s).toNat)
      case atStart => exact ⟨0, [], _, Nat.zero_le _, rfl, by simp, rfl, rfl, Ap.lit0 _ (Nat.le_refl _), below_new _ _⟩
      case round =>
        obtain ⟨k, o, u', hk, rfl, rfl, ho, rfl, hAp, hbo⟩ := hrel
        have HO := Lib.hid ho
        have hol : o.length ≤ 1099511627776 := by rw [ho, List.length_take, rowM_len]; omega
        clear ho
        have y2 := keepc hbo z2
        have k0 : (0 : Int) ≤ (k : Int) := by omega
        have hAb : ((at0 + k : Nat) : Int) ≤ 10100 := by omega
        have a0 : (0 : Int) ≤ ((at0 + k : Nat) : Int) := by omega
        by_cases hkn : k < n
        · have k1 : (k : Int) < (n : Int) := by omega
          have htk := rowM_take V i n k hkn
          rw [HAT.out] at htk
          have HTK := Lib.hid htk
          have hvb := hv (at0 + k)
          generalize hz : V.getD (at0 + k) 0 = z at *
          have HZ := Lib.hid hz
          clear htk
          by_cases hat : at0 + k < V.length
          · obtain ⟨ba, offa, rfl, hba, hcell⟩ := hV.at hat
            have e0 : wr.cell? ⟨ba, offa + (at0 + k), none⟩ = some (.int .i8 z) := by
              have := hcell _ hat
              rw [hz] at this
              exact keepc hbo ((hbl.cell (p := ⟨ba, offa + (at0 + k), none⟩) (by show ba < w.heap.size + 1; omega)).trans ((b0.cell (p := ⟨ba, offa + (at0 + k), none⟩) hba).trans this))
            have a1 : ((at0 + k : Nat) : Int) < (V.length : Int) := by omega
            clear hcell hz hat
            generalize hA : at0 + k = A at *
            have HA := Lib.hid hA
            clear hA
            go_wp2_with fail
            refine (rof_any z _ (by omega) (by omega)).mono ?_
            rintro e w2 ⟨v, rfl, hv, hb2⟩
            obtain ⟨s2, a2, n2, c2, rfl⟩ := hv.shape
            replace hAp := hAp.up hb2
            have hbo2 := Bl.up hbo hb2
            have hsz := hbo2.size
            go_wp2_with (at_builtin; go_must (refine wpl_apI rfl (.tmp 50) (.tmp 53) _ rfl Tryz.underlying36 wo.heap.size _ o rfl (hAp.alloc _) (by simp; omega) w2.heap.size _ _ _ s2 a2 n2 c2 z rfl (heap_alloc_new _ _) (hv.alloc _) hol ?_); intro g cap' w4 hAp4 hb4)
            go_roundw
            case rel => exact ⟨k + 1, _, _, by omega, by go_num, by (rw [show at0 + (k + 1) = A + 1 by have := HA.out; omega]; go_num), by rw [HTK.out, ← HO.out], rfl, hAp4, (Bl.alloc hbo2 _).trans hb4⟩
            case measure => simp [intOf]; omega
          · have a1 : ¬ ((at0 + k : Nat) : Int) < (V.length : Int) := by omega
            have hz0 : z = 0 := by rw [← hz, List.getD_eq_getElem?_getD, List.getElem?_eq_none (by omega)]; rfl
            subst hz0
            clear hz hat
            generalize hA : at0 + k = A at *
            have HA := Lib.hid hA
            clear hA
            go_wp2_with fail
            refine (rof_any 0 _ (by omega) (by omega)).mono ?_
            rintro e w2 ⟨v, rfl, hv, hb2⟩
            obtain ⟨s2, a2, n2, c2, rfl⟩ := hv.shape
            replace hAp := hAp.up hb2
            have hbo2 := Bl.up hbo hb2
            have hsz := hbo2.size
            go_wp2_with (at_builtin; go_must (refine wpl_apI rfl (.tmp 50) (.tmp 53) _ rfl Tryz.underlying36 wo.heap.size _ o rfl (hAp.alloc _) (by simp; omega) w2.heap.size _ _ _ s2 a2 n2 c2 0 rfl (heap_alloc_new _ _) (hv.alloc _) hol ?_); intro g cap' w4 hAp4 hb4)
            go_roundw
            case rel => exact ⟨k + 1, _, _, by omega, by go_num, by (rw [show at0 + (k + 1) = A + 1 by have := HA.out; omega]; go_num), by rw [HTK.out, ← HO.out], rfl, hAp4, (Bl.alloc hbo2 _).trans hb4⟩
            case measure => simp [intOf]; omega
        · have hkn' : k = n := by omega
          subst hkn'
          have hor : o = rowM V i k := by rw [HO.out]; exact List.take_of_length_le (by rw [rowM_len]; omega)
          have k1 : ¬ (k : Int) < (k : Int) := by omega
          have hR := hAp.rw
          rw [hor] at hR
          obtain ⟨ax, cx, e, -⟩ := id hR
          subst e
          rw [rowM_len] at hR hAp ⊢
          have hAm2 := hAm.up hbo
          have hsz := hbo.size
          have hml : (madeM V i k).length ≤ 1099511627776 := by simp [madeM]; omega
          clear hkn hor HO hol hAp
          go_wp2_with (at_builtin; go_must (refine wpl_apR rfl (.tmp 55) (.tmp 57) _ rfl Tryz.underlying27 (w.heap.size + 1) _ (madeM V i k) rfl (hAm2.alloc _) (by simp; omega) wr.heap.size _ _ _ _ _ _ (rowM V i k) (rowM_len _ _ _) rfl (heap_alloc_new _ _) (hR.up (below_new _ _)) hml ?_); intro g cap' w4 hAm4 hb4)
          go_roundw
          case rel => exact ⟨i + 1, _, by omega, by go_num, by (rw [Nat.add_mul, HAT.out, Nat.one_mul]; simp), rfl, by rw [madeM_snoc]; exact hAm4, ((hbl.trans (hbo.mono hz1)).alloc (by omega) _).trans hb4⟩
          case measure => simp [intOf]; omega
    · have hin : i = R := by omega
      subst hin
      have i1 : ¬ (i : Int) < (r : Int) % ((rows : Int) + 1) := by rw [HE2.out]; omega
      have hM := hAm.1.mx (Below.refl _ _)
      clear hAm hlt
      go_wp2_with fail
      go_ret
      exact ⟨_, rfl, hM, b0.trans (hbl.mono (by omega))⟩
end Go.Proofs.YtdbpkoddfcdhdaaGreat
