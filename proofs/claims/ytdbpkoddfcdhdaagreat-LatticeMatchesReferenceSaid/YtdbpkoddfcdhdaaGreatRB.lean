/-
  The reference's division of sizes.
  The reference: divide.
  The reference: divide, DivMod, Div, Mod.
  The reference: Abs, Sub, Cmp, DivMod.
-/
import Derived.Maps.AppendAt
import Derived.Test.YtdbpkoddfcdhdaaGreatRA
import Derived.Test.YtdbpkoddfcdhdaaGreatPH
import Derived.Test.YtdbpkoddfcdhdaaGreatQD
import Derived.Test.YtdbpkoddfcdhdaaGreatPE
set_option linter.unusedSimpArgs false
set_option linter.unusedVariables false

namespace Go.Proofs.YtdbpkoddfcdhdaaGreat
open Go.RowKit
attribute [local go_sem ↓] Go.wp_at_zero Go.wp_at_succ

theorem run_app_none {w : World} (t ty : TypeId) (ht : Tryz.prog.underlying t = some (.slice 85)) (g c : Nat) :
    (Builtin.append_ #[t, t] ty #[.slice (some ⟨g, 0, none⟩) 0 0, .slice none 0 c]).run Tryz.prog w = .ok (.slice (some ⟨g, 0, none⟩) 0 0) w := by
  obtain ⟨i0, hi, hz0, hz1, hz2⟩ := info_parts infoW
  simp [Builtin.append_, run_underlying ht, Builtin.lenOf, Builtin.firstCells, sizeOf, typeInfo, hi, storeCells]

theorem wpl_apWs {ops : Array Oper} {rest : List Oper} {o : Oper} {a : Act} {Q : Exit → Act → World → Prop} {w : World} (hgd : o.guard = none) (su sx : Operand) (t : TypeId)
    (ho : o.op = .call { callee := .builtin .append, args := #[su, sx], argTypes := #[t, t] }) (ht : Tryz.prog.underlying t = some (.slice 85)) (base g0 : Nat) (hs : a.eval su = .slice (some ⟨g0, 0, none⟩) 0 0) (f f0 : Nat → Nat)
    (h : Aw w base (.slice (some ⟨g0, 0, none⟩) 0 0) 0 f0) (hbase : base ≤ w.heap.size) (b : Option Addr) (n c1 : Nat) (hxv : a.eval sx = .slice b n c1) (hW : Wd w b n f) (hl : n ≤ 17592186044416)
    (hK : ∀ v' w', Aw w' base v' n f → Below base w w' → wpList Tryz.prog ops Q rest (a.put o.dst v') w') :
    wpList Tryz.prog ops Q (o :: rest) a w := by
  obtain ⟨i0, hi, hz0, hz1, hz2⟩ := info_parts infoW
  have hlt := World.ownsRow.lt h
  have h0 : Aw w base (.slice (some ⟨g0, 0, none⟩) 0 0) 0 f := h
  cases b with
  | none =>
    have hn : n = 0 := by
      rcases hW with h | ⟨_, _, e, _⟩
      · exact h
      · cases e
    subst hn
    refine wpList_plain hgd fun K hK' => ?_
    unfold Oper.wp execOp
    simp only [ho, resolve, invoke, builtin, Sem.run_bind, Sem.run_pure, Result.andThen_ok, List.map_toArray, List.map_cons, List.map_nil, hs, hxv, run_app_none t o.type ht]
    exact hK' _ _ (hK _ _ h0 ⟨rfl, rfl, rfl, Nat.le_refl _, fun _ _ => rfl⟩)
  | some ad =>
    refine wpList_append_own_at w hgd su sx t ho base 85 i0 _ 1 4 ht hi hz0 hz1 hz2 rfl (by omega) _ 0 (lst 0 (wv f)) hs h0 ad n c1 (lst n (wv f)) hxv (by rw [lst_length, Nat.mul_one]) (fun j u hu => ?_) (fun u hu => ?_) (by unfold maxLen; omega) (by omega) hbase fun v' w' h2 h3 _ _ => hK v' w' ?_ (Below.of_grown h3 hbase (fun k hk => (hlt k hk).1))
    · obtain ⟨hj, rfl⟩ := lst_some hu
      obtain ⟨bb, off, e, hb, hc⟩ := hW.at hj
      have e' : ad = ⟨bb, off, none⟩ := Option.some.inj e
      rw [e', addr_add]
      exact hc j hj
    · have hu2 : u ∈ (List.range n).map (wv f) := hu
      obtain ⟨j, _, e⟩ := List.mem_map.1 hu2
      rw [← e]; rfl
    · have e0 : lst 0 (wv f) = [] := rfl
      rw [Nat.zero_add, e0, List.nil_append] at h2
      exact h2

theorem nv_setw {f : Nat → Nat} {i x : Nat} : ∀ {n : Nat}, i < n → nv (upd f i x) n + f i * 4294967296 ^ i = nv f n + x * 4294967296 ^ i
  | 0, h => absurd h (Nat.not_lt_zero _)
  | n + 1, h => by
    simp only [nv]
    rcases Nat.eq_or_lt_of_le (Nat.le_of_lt_succ h) with e | e
    · subst e
      rw [nv_upd _ _ _ (Nat.le_refl _), upd_same]; omega
    · have := nv_setw (f := f) (x := x) e
      rw [upd_other _ _ _ _ (by omega)]; omega

/-- One more binary digit of the quotient. -/
theorem bit_step {f : Nat → Nat} {L i : Nat} (hf : Wf f L) (hi : i / 32 < L) (hd : 2 ^ (i + 1) ∣ nv f L) :
    bits BinOp.or IntKind.u32 (f (i / 32) : Int) ((2 ^ (i % 32) : Nat) : Int) = ((f (i / 32) + 2 ^ (i % 32) : Nat) : Int) ∧ f (i / 32) + 2 ^ (i % 32) < 4294967296 ∧
    nv (upd f (i / 32) (f (i / 32) + 2 ^ (i % 32))) L = nv f L + 2 ^ i := by
  have e0 : (4294967296 : Nat) ^ (i / 32) = 2 ^ (32 * (i / 32)) := by rw [Nat.pow_mul]
  have e1 : i = 32 * (i / 32) + i % 32 := by omega
  have hlt := hf (i / 32) hi
  have hsp := nv_split f (i / 32) L (by omega)
  rw [hv_step f (i / 32) L hi] at hsp
  have h1 := nv_lt (hf.mono (m := i / 32) (by omega))
  have hd2 : 2 ^ (i % 32 + 1) ∣ f (i / 32) := by
    have e2 : 2 ^ (i + 1) = 4294967296 ^ (i / 32) * 2 ^ (i % 32 + 1) := by
      rw [e0, ← Nat.pow_add]; congr 1; omega
    rw [e2] at hd
    have hz : nv f (i / 32) = 0 := by
      have h2 : 4294967296 ^ (i / 32) ∣ nv f L := Nat.dvd_trans (Nat.dvd_mul_right _ _) hd
      rw [hsp] at h2
      have h3 : 4294967296 ^ (i / 32) ∣ nv f (i / 32) := (Nat.dvd_add_iff_left (Nat.dvd_mul_right _ _)).2 h2
      exact Nat.eq_zero_of_dvd_of_lt h3 h1
    rw [hsp, hz, Nat.zero_add] at hd
    have h4 := Nat.dvd_of_mul_dvd_mul_left (pw_pos _) hd
    refine (Nat.dvd_add_iff_left ?_).2 h4
    refine Nat.dvd_trans ?_ (Nat.dvd_mul_right _ _)
    rw [show (4294967296 : Nat) = 2 ^ 32 by decide]
    exact Nat.pow_dvd_pow _ (by omega)
  obtain ⟨z, hz⟩ := hd2
  have hp : 2 ^ (i % 32) < 2 ^ (i % 32 + 1) := Nat.pow_lt_pow_right (by decide) (by omega)
  have hp32 : 2 ^ (i % 32) < 4294967296 := Nat.lt_of_lt_of_le (Nat.pow_lt_pow_right (by decide) (show i % 32 < 32 by omega)) (by decide)
  have hor : f (i / 32) ||| 2 ^ (i % 32) = f (i / 32) + 2 ^ (i % 32) := by rw [hz, ← Nat.two_pow_add_eq_or_of_lt hp]
  have hob : f (i / 32) ||| 2 ^ (i % 32) < 2 ^ 32 := Nat.or_lt_two_pow hlt hp32
  refine ⟨?_, by rw [← hor]; exact hob, ?_⟩
  · rw [u32_or_nat _ _ hlt hp32, hor]
  · have := nv_setw (f := f) (x := f (i / 32) + 2 ^ (i % 32)) hi
    rw [Nat.add_mul] at this
    have e3 : 2 ^ (i % 32) * 4294967296 ^ (i / 32) = 2 ^ i := by
      rw [e0, ← Nat.pow_add]; congr 1; omega
    omega
end Go.Proofs.YtdbpkoddfcdhdaaGreat

namespace Go.Proofs.YtdbpkoddfcdhdaaGreat
open Go.RowKit
attribute [local go_sem ↓] Go.wp_at_zero Go.wp_at_succ

theorem load_q (w : World) (B o : Nat) (a b : Option Addr) (n m c d : Nat) (h0 : w.cell? ⟨B, o, none⟩ = some (.slice a n c)) (h1 : w.cell? ⟨B, o + 1, none⟩ = some (.slice b m d)) :
    (loadVar 104 ⟨B, o, none⟩).run Tryz.prog w = .ok (.agg #[.slice a n c, .slice b m d]) w := by
  simp [go_sem, h0, h1]

theorem ret_q {fn : Func} {R : Ending → World → Prop} {t : Tmp} {a : Act} {w : World} {B : Nat} {a1 a2 : Option Addr} {n1 n2 c1 c2 : Nat} (hr : fn.results = #[.cell t 104]) (ht : a.tmps.getD t undef = .pointer (some ⟨B, 0, none⟩)) (hd : a.defers = [])
    (h : Bx w B (.slice a1 n1 c1) (.slice a2 n2 c2)) (hR : R (.returned (.agg #[.slice a1 n1 c1, .slice a2 n2 c2])) w) : bodyPost Tryz.prog fn R .ret a w := by
  refine bodyPost_ret ?_ hd hR
  have hl := load_q w B 0 _ _ _ _ _ _ h.c0 h.c1
  have ht' : a.tmps[t]?.getD undef = .pointer (some ⟨B, 0, none⟩) := by simpa using ht
  have hA : (asAddr (.pointer (some ⟨B, 0, none⟩))).run Tryz.prog w = .ok ⟨B, 0, none⟩ w := rfl
  simp [results, hr, ht', hl, hA]

theorem join_lo (lo hi : Nat) (h1 : lo < 4294967296) (h2 : hi < 4294967296) : bits BinOp.or IntKind.u64 (lo : Int) ((hi : Int) * 4294967296) = ((lo + 4294967296 * hi : Nat) : Int) := by
  have e : (hi : Int) * 4294967296 = ((2 ^ 32 * hi : Nat) : Int) := by omega
  rw [e, u64_or_nat _ _ (by omega) (by omega), Nat.or_comm, ← Nat.two_pow_add_eq_or_of_lt (show lo < 2 ^ 32 by omega)]
  omega
theorem nv_two (f : Nat → Nat) (n : Nat) (hn : n ≤ 2) : nv f n = pad f n 0 + 4294967296 * pad f n 1 := by
  rw [← nv_pad f n 2 hn]
  simp [nv]; omega

theorem pl_two (W : World) (T B v : Nat) (z0 z1 : Int) (h0 : z0 = ((v % 4294967296 : Nat) : Int)) (h1 : z1 = ((v / 4294967296 : Nat) : Int)) (hB : B = W.heap.size) (hT : T = 85) (hv : v < 18446744073709551616) :
    Pl (W.alloc (.cells #[.int .u32 z0, .int .u32 z1] T)) (.slice (some ⟨B, 0, none⟩) 2 2) 2199023255552 v := by
  subst h0 h1 hB hT
  refine ⟨_, 2, 2, fun i => if i = 0 then v % 4294967296 else v / 4294967296, rfl, Nat.le_refl _, by decide, .inr ⟨_, 0, rfl, by simp, fun i hi => ?_⟩, fun i hi => ?_, by simp [nv]; omega⟩
  · rw [World.cell?_alloc_at _ _ _ _ rfl]
    rcases i with _ | _ | i
    · rfl
    · rfl
    · omega
  · show (if i = 0 then v % 4294967296 else v / 4294967296) < 4294967296
    split <;> omega

theorem e_lo (Q : Nat) : (Q : Int) % 4294967296 = ((Q % 4294967296 : Nat) : Int) := by omega
theorem e_hi {Q : Nat} (h : Q < 18446744073709551616) : (Q : Int) / 4294967296 % 4294967296 = ((Q / 4294967296 : Nat) : Int) := by omega
theorem e_hi0 (Q : Nat) : (Q : Int) / 4294967296 = ((Q / 4294967296 : Nat) : Int) := by omega

/-- What the result of divide is. -/
def Quo (w w' : World) (v : Value) (x y : Nat) : Prop := ∃ vq vr, v = .agg #[vq, vr] ∧ Pl w' vq 2199023255552 (x / y) ∧ Pl w' vr 2199023255552 (x % y) ∧ Below w.heap.size w w'

/-- Two new sizes of two words, stored into the result. -/
theorem two_sizes (w W0 W' : World) (B0 x y : Nat) (x0 x1 y0 y1 : Int) (T : Nat) (v1 v2 v3 v4 : Value) (hT : T = 85) (hbx : Bx W0 B0 v1 v2) (hb0 : Below w.heap.size w W0) (hB0 : w.heap.size ≤ B0)
    (hx0 : x0 = ((x % 4294967296 : Nat) : Int)) (hx1 : x1 = ((x / 4294967296 : Nat) : Int)) (hy0 : y0 = ((y % 4294967296 : Nat) : Int)) (hy1 : y1 = ((y / 4294967296 : Nat) : Int)) (hx : x < 18446744073709551616) (hy : y < 18446744073709551616)
    (hW : W' = ((((W0.setCell ⟨B0, 0, none⟩ v3).setCell ⟨B0, 1, none⟩ v4).alloc (.cells #[.int .u32 x0, .int .u32 x1] T)).alloc (.cells #[.int .u32 y0, .int .u32 y1] T)).drew) :
      Bx W' B0 v3 v4 ∧ Pl W' (.slice (some ⟨W0.heap.size, 0, none⟩) 2 2) 2199023255552 x ∧ Pl W' (.slice (some ⟨W0.heap.size + 1, 0, none⟩) 2 2) 2199023255552 y ∧ Below w.heap.size w W' := by
  subst hW
  refine ⟨?_, ?_, ?_, ?_⟩
  · exact (((hbx.put _ _).up (below_new _ _)).up (below_new _ _)).drew
  · have h := pl_two ((W0.setCell ⟨B0, 0, none⟩ v3).setCell ⟨B0, 1, none⟩ v4) T W0.heap.size x x0 x1 hx0 hx1 (by simp) hT hx
    exact (h.up (below_new _ _)).up (Bl.drew (Below.refl _ _))
  · have h := pl_two (((W0.setCell ⟨B0, 0, none⟩ v3).setCell ⟨B0, 1, none⟩ v4).alloc (.cells #[.int .u32 x0, .int .u32 x1] T)) T (W0.heap.size + 1) y y0 y1 hy0 hy1 (by simp) hT hy
    exact h.up (Bl.drew (Below.refl _ _))
  · exact Bl.drew (Bl.alloc (Bl.alloc ((hb0.setCell hB0 _).setCell hB0 _) _) _)

set_option maxRecDepth 100000 in
set_option maxHeartbeats 4000000 in
theorem divide_small (a b : Option Addr) (n m ca cb : Nat) (f h : Nat → Nat) (w : World) (hn : n ≤ 2) (hm : m ≤ 2) (hwf : Wd w a n f) (hwh : Wd w b m h) (hf : Wf f n) (hh : Wf h m) (hy : 0 < nv h m) :
    Calls Tryz.prog 92 #[.slice a n ca, .slice b m cb] w fun e w' => ∃ v, e = .returned v ∧ Quo w w' v (nv f n) (nv h m) := by
  have i1 : (n : Int) ≤ 2 := by omega
  have i2 : (m : Int) ≤ 2 := by omega
  have ex := nv_two f n hn
  have ey := nv_two h m hm
  have p0 := wf_pad hf 2 0 (by omega)
  have p1 := wf_pad hf 2 1 (by omega)
  have q0 := wf_pad hh 2 0 (by omega)
  have q1 := wf_pad hh 2 1 (by omega)
  have jx := join_lo _ _ p0 p1
  have jy := join_lo _ _ q0 q1
  rw [← ex] at jx
  rw [← ey] at jy
  have hX : nv f n < 18446744073709551616 := by omega
  have hY : nv h m < 18446744073709551616 := by omega
  have wx : IntKind.u64.wrap ((pad f n 1 : Int) * 4294967296) = (pad f n 1 : Int) * 4294967296 := IntWalk.u64_in _ (by omega)
  have wy : IntKind.u64.wrap ((pad h m 1 : Int) * 4294967296) = (pad h m 1 : Int) * 4294967296 := IntWalk.u64_in _ (by omega)
  clear ex ey
  have hbx := Bx.new w (.slice none 0 0) (.slice none 0 0) 104
  have hb0 := below_new w (.cells #[.slice none 0 0, .slice none 0 0] 104)
  go_enter Tryz.func92, Tryz.ntmps92
  go_wp2_with fail
  generalize w.alloc (.cells #[.slice none 0 0, .slice none 0 0] 104) = W0 at *
  refine (word_any a n ca f 0 _ (by omega) (by omega) (hwf.up hb0) hf).mono ?_
  rintro e w2 ⟨rfl, rfl⟩
  go_wp2_with fail
  refine (word_any a n ca f 1 _ (by omega) (by omega) (hwf.up hb0) hf).mono ?_
  rintro e w2 ⟨rfl, rfl⟩
  go_wp2_with fail
  refine (word_any b m cb h 0 _ (by omega) (by omega) (hwh.up hb0) hh).mono ?_
  rintro e w2 ⟨rfl, rfl⟩
  go_wp2_with fail
  refine (word_any b m cb h 1 _ (by omega) (by omega) (hwh.up hb0) hh).mono ?_
  rintro e w2 ⟨rfl, rfl⟩
  go_upto_region 4 with fail
  (try rw [wx]); (try rw [jx]); (try rw [wy]); (try rw [jy])
  clear jx jy wx wy p0 p1 q0 q1 hwf hwh hf hh i1 i2
  generalize hXe : nv f n = X at *
  generalize hYe : nv h m = Y at *
  have HXE := Lib.hid hXe
  have HYE := Lib.hid hYe
  clear hXe hYe
  have y0 : (0 : Int) < (Y : Int) := by omega
  have y1 : ((Y : Int) == 0) = false := by rw [beq_eq_false_iff_ne]; omega
  have y2 : ¬ (Y : Int) = 0 := by omega
  have y3 : ¬ Y = 0 := by omega
  have x0 : (0 : Int) ≤ (X : Int) := by omega
  have c0 := hbx.c0
  have c1 := hbx.c1
  have f0 := hbx.f0
  have f1 := hbx.f1
  have hsz := hb0.size
  have hlt := hbx.lt
  have hwq : IntKind.u64.wrap ((X : Int) / (Y : Int)) = (X : Int) / (Y : Int) := by
    rw [← Int.natCast_ediv]
    have := Nat.div_le_self X Y
    generalize X / Y = Z at *
    exact IntWalk.u64_in _ (by omega)
  have eq : (X : Int) / (Y : Int) = ((X / Y : Nat) : Int) := (Int.natCast_ediv _ _).symm
  have er : (X : Int) % (Y : Int) = ((X % Y : Nat) : Int) := (Int.natCast_emod _ _).symm
  have hq1 : X / Y < 18446744073709551616 := Nat.lt_of_le_of_lt (Nat.div_le_self _ _) hX
  have hr1 : X % Y < 18446744073709551616 := Nat.lt_of_le_of_lt (Nat.mod_le _ _) hX
  have EQ := Lib.hid eq
  have ER := Lib.hid er
  clear eq er y1 y2
  go_region
  all_goals go_wp2_with fail
  · generalize hW : World.drew _ = W'
    obtain ⟨k1, k2, k3, k4⟩ := two_sizes w W0 W' w.heap.size (X / Y) (X % Y) _ _ _ _ _ _ _ (.slice (some ⟨W0.heap.size, 0, none⟩) 2 2) (.slice (some ⟨W0.heap.size + 1, 0, none⟩) 2 2) rfl hbx hb0 (Nat.le_refl _) (by rw [EQ.out]; exact e_lo _) (by rw [EQ.out]; exact e_hi hq1) (by rw [ER.out]; exact e_lo _) (by rw [ER.out]; first | exact e_hi0 _ | exact e_hi hr1) hq1 hr1 hW.symm
    exact ret_q (B := w.heap.size) rfl rfl rfl k1 ⟨_, rfl, _, _, rfl, by rw [HXE.out, HYE.out]; exact k2, by rw [HXE.out, HYE.out]; exact k3, k4⟩
  · generalize hW : World.drew _ = W'
    obtain ⟨k1, k2, k3, k4⟩ := two_sizes w W0 W' w.heap.size (X % Y) (X / Y) _ _ _ _ _ _ _ (.slice (some ⟨W0.heap.size + 1, 0, none⟩) 2 2) (.slice (some ⟨W0.heap.size, 0, none⟩) 2 2) rfl hbx hb0 (Nat.le_refl _) (by rw [ER.out]; exact e_lo _) (by rw [ER.out]; first | exact e_hi0 _ | exact e_hi hr1) (by rw [EQ.out]; exact e_lo _) (by rw [EQ.out]; exact e_hi hq1) hr1 hq1 hW.symm
    exact ret_q (B := w.heap.size) rfl rfl rfl k1 ⟨_, rfl, _, _, rfl, by rw [HXE.out, HYE.out]; exact k3, by rw [HXE.out, HYE.out]; exact k2, k4⟩
end Go.Proofs.YtdbpkoddfcdhdaaGreat

namespace Go.Proofs.YtdbpkoddfcdhdaaGreat
open Go.RowKit
attribute [local go_sem ↓] Go.wp_at_zero Go.wp_at_succ

/-- The three sizes of the loop, and the result's place. -/
structure DvF (w : World) (gr n gq L gd M : Nat) (fr fq fd : Nat → Nat) (W : World) : Prop where
  r : Mo W gr n fr
  q : Mo W gq L fq
  d : Mo W gd M fd
  bx : Bx W w.heap.size (.slice none 0 0) (.slice none 0 0)
  bl : Below w.heap.size w W
  hr : w.heap.size < gr
  hq : gr < gq
  hd : gq < gd

theorem Bx.only {w w' : World} {B g : Nat} {x y : Value} (h : Bx w B x y) (ho : Only g w w') (hne : B ≠ g) : Bx w' B x y := by
  have hk := ho.1 B hne
  exact ⟨(World.cell?_of_block (w := w) hk).trans h.c0, (World.cell?_of_block (w := w) hk).trans h.c1, (World.frozen?_of_block (w := w) hk).trans h.f0, (World.frozen?_of_block (w := w) hk).trans h.f1⟩

section
variable {w W W' : World} {gr n gq L gd M : Nat} {fr fq fd : Nat → Nat}
theorem DvF.onlyR (h : DvF w gr n gq L gd M fr fq fd W) (ho : Only gr W W') {f' : Nat → Nat} (hm : Mo W' gr n f') : DvF w gr n gq L gd M f' fq fd W' :=
  ⟨hm, h.q.only ho (by have := h.hq; omega), h.d.only ho (by have := h.hq; have := h.hd; omega), h.bx.only ho (by have := h.hr; omega), ho.2.1 _ _ h.bl (by have := h.hr; omega), h.hr, h.hq, h.hd⟩
theorem DvF.onlyD (h : DvF w gr n gq L gd M fr fq fd W) (ho : Only gd W W') {f' : Nat → Nat} (hm : Mo W' gd M f') : DvF w gr n gq L gd M fr fq f' W' :=
  ⟨h.r.only ho (by have := h.hq; have := h.hd; omega), h.q.only ho (by have := h.hd; omega), hm, h.bx.only ho (by have := h.hr; have := h.hq; have := h.hd; omega), ho.2.1 _ _ h.bl (by have := h.hr; have := h.hq; have := h.hd; omega), h.hr, h.hq, h.hd⟩
theorem DvF.setQ (h : DvF w gr n gq L gd M fr fq fd W) {i : Nat} (hi : i < L) (x : Nat) : DvF w gr n gq L gd M fr (upd fq i x) fd (W.setCell ⟨gq, i, none⟩ (.int .u32 (x : Int))) := by
  have ho : Only gq W (W.setCell ⟨gq, i, none⟩ (.int .u32 (x : Int))) := (Only.refl _ _).set i _
  exact ⟨h.r.only ho (by have := h.hq; omega), h.q.setw hi x, h.d.only ho (by have := h.hd; omega), h.bx.only ho (by have := h.hr; have := h.hq; omega), ho.2.1 _ _ h.bl (by have := h.hr; have := h.hq; omega), h.hr, h.hq, h.hd⟩
end

/-- The numbers of the loop: k more binary digits to come. -/
structure DvN (A B k : Nat) (r q d : Nat) : Prop where
  e : A = q * B + r
  lt : r < B * 2 ^ k
  dv : 2 ^ k ∣ q
  dd : 0 < k → d = B * 2 ^ (k - 1)

theorem DvN.stepT {A B i r q d : Nat} (h : DvN A B (i + 1) r q d) (hle : d ≤ r) : DvN A B i (r - d) (q + 2 ^ i) (d / 2) := by
  have hd := h.dd (Nat.succ_pos _)
  rw [Nat.add_sub_cancel] at hd
  have hl := h.lt
  rw [Nat.pow_succ, ← Nat.mul_assoc] at hl
  refine ⟨?_, by omega, ?_, fun hi => ?_⟩
  · rw [h.e, Nat.add_mul, hd, Nat.mul_comm (2 ^ i) B]; omega
  · exact Nat.dvd_add (Nat.dvd_trans (Nat.pow_dvd_pow 2 (Nat.le_succ i)) h.dv) (Nat.dvd_refl _)
  · rw [hd]
    obtain ⟨j, rfl⟩ : ∃ j, i = j + 1 := ⟨i - 1, by omega⟩
    rw [Nat.add_sub_cancel, Nat.pow_succ, ← Nat.mul_assoc]; omega
theorem DvN.stepF {A B i r q d : Nat} (h : DvN A B (i + 1) r q d) (hle : ¬ d ≤ r) : DvN A B i r q (d / 2) := by
  have hd := h.dd (Nat.succ_pos _)
  rw [Nat.add_sub_cancel] at hd
  refine ⟨h.e, by omega, Nat.dvd_trans (Nat.pow_dvd_pow 2 (Nat.le_succ i)) h.dv, fun hi => ?_⟩
  rw [hd]
  obtain ⟨j, rfl⟩ : ∃ j, i = j + 1 := ⟨i - 1, by omega⟩
  rw [Nat.add_sub_cancel, Nat.pow_succ, ← Nat.mul_assoc]; omega
theorem DvN.done {A B r q d : Nat} (h : DvN A B 0 r q d) : q = A / B ∧ r = A % B := by
  have hl := h.lt
  rw [Nat.pow_zero, Nat.mul_one] at hl
  have he := h.e
  have hB : 0 < B := by omega
  constructor
  · rw [he, Nat.mul_comm, Nat.mul_add_div hB, Nat.div_eq_of_lt hl]; rfl
  · rw [he, Nat.mul_comm, Nat.mul_add_mod, Nat.mod_eq_of_lt hl]
theorem DvN.start {A B n bA bB : Nat} (hA : A < 2 ^ bA) (hB : 0 < bB → 2 ^ (bB - 1) ≤ B) (hB0 : 0 < B) (hB1 : B < 2 ^ bB) (hn : bA = n + bB) : DvN A B (n + 1) A 0 (B * 2 ^ n) := by
  have hb : 0 < bB := by
    rcases Nat.eq_zero_or_pos bB with e | e
    · subst e; simp at hB1; omega
    · exact e
  have h1 := hB hb
  refine ⟨by omega, ?_, ⟨0, by simp⟩, fun _ => by rw [Nat.add_sub_cancel]⟩
  have h2 : 2 ^ bA = 2 ^ (bB - 1) * 2 ^ (n + 1) := by rw [← Nat.pow_add]; congr 1; omega
  have h3 : 2 ^ (bB - 1) * 2 ^ (n + 1) ≤ B * 2 ^ (n + 1) := Nat.mul_le_mul_right _ h1
  omega

set_option maxRecDepth 100000 in
set_option maxHeartbeats 4000000 in
theorem divide_big (a b : Option Addr) (n m ca cb : Nat) (f h : Nat → Nat) (w : World) (hn : n ≤ 1099511627776) (hm : m ≤ 1099511627776) (hnc : n ≤ ca) (hmc : m ≤ cb) (hbig : 2 < n ∨ 2 < m) (hwf : Wd w a n f) (hwh : Wd w b m h) (hf : Wf f n) (hh : Wf h m) (cf : Can f n) (ch : Can h m) (hy : 0 < nv h m) :
    Calls Tryz.prog 92 #[.slice a n ca, .slice b m cb] w fun e w' => ∃ v, e = .returned v ∧ Quo w w' v (nv f n) (nv h m) := by
  have IA : It w (.agg #[.bool false, .slice a n ca]) (nv f n : Int) := ⟨a, n, ca, f, by rw [decide_eq_false (by omega)], hnc, hwf, hf, cf, by simp⟩
  have IB : It w (.agg #[.bool false, .slice b m cb]) (nv h m : Int) := ⟨b, m, cb, h, by rw [decide_eq_false (by omega)], hmc, hwh, hh, ch, by simp⟩
  have hsA : sz (nv f n : Int) ≤ 1099511627776 := by show words (nv f n) ≤ _; rw [words_of_can hf cf]; exact hn
  have hsB : sz (nv h m : Int) ≤ 1099511627776 := by show words (nv h m) ≤ _; rw [words_of_can hh ch]; exact hm
  have hbx := Bx.new w (.slice none 0 0) (.slice none 0 0) 104
  have hb0 := below_new w (.cells #[.slice none 0 0, .slice none 0 0] 104)
  have hz0 : (w.alloc (.cells #[.slice none 0 0, .slice none 0 0] 104)).heap.size = w.heap.size + 1 := World.size_alloc _ _
  have hg : (decide ((n : Int) ≤ 2) && decide ((m : Int) ≤ 2)) = false := by
    rcases hbig with c | c
    · rw [decide_eq_false (by omega : ¬ (n : Int) ≤ 2)]; rfl
    · rw [decide_eq_false (by omega : ¬ (m : Int) ≤ 2)]; simp
  go_enter Tryz.func92, Tryz.ntmps92
  by_cases i1 : (n : Int) ≤ 2
  case' pos =>
    have i2 : ¬ (m : Int) ≤ 2 := by intro i2; rw [decide_eq_true i1, decide_eq_true i2] at hg; exact absurd hg (by decide)
    clear hg
    go_upto_region 5 with fail
  case' neg =>
    clear hg
    go_upto_region 5 with fail
  all_goals
    clear i1
    (try clear i2)
    generalize w.alloc (.cells #[.slice none 0 0, .slice none 0 0] 104) = W0 at *
    have hAw := Aw.lit0 W0 (base := w.heap.size + 1) (by omega) f
    have hwf1 := (hwf.up hb0).up (below_new W0 (.cells #[] 85))
    rw [hz0] at hAw
    go_wp2_with (at_builtin; go_must (refine wpl_apWs rfl (.tmp 53) (.tmp 54) _ rfl Tryz.underlying54 (w.heap.size + 1) _ rfl f f hAw (by simp; omega) a n ca rfl hwf1 (by omega) ?_); intro vr W1 hR hb1)
    replace hb1 : Below W0.heap.size W0 W1 := by rw [hz0]; exact ((below_new W0 (.cells #[] 85)).mono (by omega)).trans hb1
    replace hbx := hbx.up hb1
    replace hb0 := Bl.up hb0 hb1
    have hz1 := hb1.size
    rw [hz0] at hz1
    clear hAw hwf1 hb1 hz0
    refine (bits_any _ _ _ (IA.up hb0) hsA).mono ?_
    rintro e W2 ⟨bA, rfl, a1, a2, a3, hb2⟩
    replace hbx := hbx.up hb2
    replace hb0 := Bl.up hb0 hb2
    replace hR := hR.up hb2
    replace hz1 := Nat.le_trans hz1 hb2.size
    clear hb2
    go_wp2_with fail
    refine (bits_any _ _ _ (IB.up hb0) hsB).mono ?_
    rintro e W3 ⟨bB, rfl, b1, b2, b3, hb3⟩
    replace hbx := hbx.up hb3
    replace hb0 := Bl.up hb0 hb3
    replace hR := hR.up hb3
    replace hz1 := Nat.le_trans hz1 hb3.size
    clear hb3 IA IB
    rw [Int.natAbs_natCast] at a1 a2 b1 b2
    have hwd : IntKind.i64.wrap ((bA : Int) - (bB : Int)) = (bA : Int) - (bB : Int) := IntWalk.i64_in _ (by omega)
    obtain ⟨ar, cr, rfl, hcr, hWr⟩ := hR.out
    have hnr : ∀ x, ar = some x → x.block ≠ w.heap.size := fun x hx => by
      have := (World.ownsRow.lt hR) x.block (by rw [hx]; rfl)
      omega
    have k0 := hbx.c0
    have k1 := hbx.c1
    have k2 := hbx.f0
    have k3 := hbx.f1
    have A1 := Lib.hid a1
    have A2 := Lib.hid a2
    have B1 := Lib.hid b1
    have B2 := Lib.hid b2
    clear a1 a2 b1 b2
    by_cases hlt : bA < bB
    · have c0 : (bA : Int) - (bB : Int) < 0 := by omega
      have hAB : nv f n < nv h m := by
        have h1 := A1.out
        have h2 := B2.out (by omega)
        have h3 : 2 ^ bA ≤ 2 ^ (bB - 1) := Nat.pow_le_pow_right (by decide) (by omega)
        omega
      have HAB := Lib.hid hAB
      clear hAB hR
      go_wp2_with fail
      refine ret_q (B := w.heap.size) rfl rfl rfl (hbx.put _ _) ⟨_, rfl, _, _, rfl, ?_, ?_, (hb0.setCell (by show w.heap.size ≤ w.heap.size; exact Nat.le_refl _) _).setCell (by show w.heap.size ≤ w.heap.size; exact Nat.le_refl _) _⟩
      · exact ⟨none, 0, 0, fun _ => 0, rfl, Nat.le_refl _, by decide, .inl rfl, fun i hi => absurd hi (Nat.not_lt_zero i), (Nat.div_eq_of_lt HAB.out).symm⟩
      · exact ⟨ar, n, cr, f, rfl, hcr, by omega, hWr.only (((Only.refl _ _).set 0 _).set 1 _) hnr, hf, (Nat.mod_eq_of_lt HAB.out).symm⟩
    · obtain ⟨N, hN⟩ : ∃ N, bA = N + bB := ⟨bA - bB, by omega⟩
      have hst := DvN.start A1.out B2.out hy B1.out hN
      have eN : (bA : Int) - (bB : Int) = (N : Int) := by omega
      have hN1 : N ≤ 35184372088832 := by
        have e1 : sz (nv f n : Int) ≤ 1099511627776 := hsA
        omega
      have hn0 : 0 < n := by
        rcases Nat.eq_zero_or_pos n with e | e
        · exfalso
          subst e
          have h1 : (0 : Nat) < 2 ^ bA := Nat.pow_pos (by decide)
          have h2 := B2.out
          have h3 : nv f 0 = 0 := rfl
          have h4 : bA = 0 := by
            rcases Nat.eq_zero_or_pos bA with e | e
            · exact e
            · have := A2.out e
              have h5 : 0 < 2 ^ (bA - 1) := Nat.pow_pos (by decide)
              omega
          have h6 : bB = 0 := by omega
          have h7 := B1.out
          rw [h6] at h7
          omega
        · exact e
      obtain ⟨gr, cr', er, hcr', hgr, hMr⟩ := hR.own hn0
      injection er with er1 er2 er3
      subst er1 er3
      clear er2 hWr hR hnr hlt hcr'
      clear A1 A2 B1 B2 hN a3 b3 k0 k1 k2 k3
      have EN := Lib.hid eN
      clear eN
      go_upto_region 7 with fail
      rw [EN.out]
      clear EN hwd
      have q0 : (0 : Int) ≤ (N : Int) := by omega
      have q1 : ¬ (N : Int) < 0 := by omega
      have hmk := mk_w ((N : Int) / 32 + 1) (N / 32 + 1) (by omega) (by omega)
      have wq : IntKind.i64.wrap ((N : Int) / 32 + 1) = (N : Int) / 32 + 1 := IntWalk.i64_in _ (by omega)
      go_upto_region 10 with fail
      clear hmk wq
      obtain ⟨L, hL⟩ : ∃ L, L = N / 32 + 1 := ⟨_, rfl⟩
      rw [← hL]
      have hMq := Mo.of (Own.zeros W3 85 L)
      have hbn := below_new W3 (.cells (madeCells #[.int .u32 0] L) 85)
      have hgq : gr < W3.heap.size := hMr.lt
      replace hMr := hMr.up hbn
      replace hbx := hbx.up hbn
      replace hb0 := Bl.up hb0 hbn
      clear hbn
      have HL := Lib.hid hL
      clear hL
      generalize hgqe : W3.heap.size = gq at *
      clear hgqe
      generalize W3.alloc (.cells (madeCells #[.int .u32 0] L) 85) = W4 at *
      go_wp2_with fail
      refine (left_any b m cb N h _ hm (by omega) (hwh.up hb0) hh).mono ?_
      rintro e W5 ⟨gd, M, cd, fd, rfl, hMc, hgd, hMd, hWd, hMe, hvd, hb5⟩
      have hgd2 : gq < gd := Nat.lt_of_lt_of_le hMq.lt hgd
      have F0 : DvF w gr n gq L gd M f (fun _ => 0) fd W5 := ⟨hMr.up hb5, hMq.up hb5, hMd, hbx.up hb5, Bl.up hb0 hb5, by omega, hgq, hgd2⟩
      rw [← hvd] at hst
      have hM1 : M ≤ 4398046511104 := by omega
      have HVD := Lib.hid hvd
      have N0 : DvN (nv f n) (nv h m) (N + 1) (nv f n) (nv (fun _ => 0) L) (nv fd M) := by rw [nv_zero (fun _ _ => rfl)]; exact hst
      clear hb5 hMr hMq hMd hbx hb0 hgd hvd hst hMe hgq hgd2
      go_wp2_with fail
      go_loopw [11] (fun s wq => ∃ (k : Nat) (fr fq fd : Nat → Nat), k ≤ N + 1 ∧ s = .int .i64 ((k : Int) - 1) ∧ DvF w gr n gq L gd M fr fq fd wq ∧ Wf fr n ∧ Wf fq L ∧ Wf fd M ∧ DvN (nv f n) (nv h m) k (nv fr n) (nv fq L) (nv fd M))
        (fun s _ => ((intOf s) + 1).toNat)
      case atStart => exact ⟨N + 1, f, fun _ => 0, fd, Nat.le_refl _, by go_num, F0, hf, fun _ _ => Nat.zero_lt_succ _, hWd, N0⟩
      case round =>
        clear F0 hWd N0 HVD
        obtain ⟨k, fr, fq, fd, hk, rfl, F, wr1, wq1, wd1, hN⟩ := hrel
        have HN := Lib.hid hN
        clear hN
        rcases k with _ | i
        · have c0 : ¬ (0 : Int) ≤ ((0 : Nat) : Int) - 1 := by omega
          have k0 := F.bx.c0
          have k1 := F.bx.c1
          have k2 := F.bx.f0
          have k3 := F.bx.f1
          obtain ⟨d1, d2⟩ := HN.out.done
          have HD1 := Lib.hid d1
          have HD2 := Lib.hid d2
          clear d1 d2
          go_wp2_with fail
          have ho : Only w.heap.size wr ((wr.setCell ⟨w.heap.size, 0, none⟩ (.slice (some ⟨gq, 0, none⟩) L L)).setCell ⟨w.heap.size, 1, none⟩ (.slice (some ⟨gr, 0, none⟩) n cr)) := ((Only.refl _ _).set 0 _).set 1 _
          refine ret_q (B := w.heap.size) rfl rfl rfl (F.bx.put _ _) ⟨_, rfl, _, _, rfl, ?_, ?_, (F.bl.setCell (by show w.heap.size ≤ w.heap.size; exact Nat.le_refl _) _).setCell (by show w.heap.size ≤ w.heap.size; exact Nat.le_refl _) _⟩
          · exact ⟨_, _, _, fq, rfl, Nat.le_refl _, by have := HL.out; omega, (F.q.only ho (by have := F.hr; have := F.hq; omega)).wd, wq1, HD1.out⟩
          · exact ⟨_, _, _, fr, rfl, hcr, by omega, (F.r.only ho (by have := F.hr; omega)).wd, wr1, HD2.out⟩
        · rw [show (((i + 1 : Nat) : Int) - 1) = (i : Int) by omega]
          have c0 : (0 : Int) ≤ (i : Int) := by omega
          go_wp2_with fail
          refine (reaches_any _ _ n M cr cd fr fd wr (by omega) hM1 F.r.wd F.d.wd wr1 wd1).mono ?_
          rintro e w2 ⟨rfl, rfl⟩
          by_cases hle : nv fd M ≤ nv fr n
          case' pos =>
            rw [decide_eq_true hle]
            have HT := Lib.hid (HN.out.stepT hle)
            have hiL : i / 32 < L := by have := HL.out; omega
            obtain ⟨bs1, bs2, bs3⟩ := bit_step wq1 hiL HN.out.dv
            clear HN
            go_wp2_with fail
            refine (take_any gr _ n M cr cd fr fd wr (by omega) hM1 F.r wr1 F.d.wd wd1 (fun x hx => by have := Option.some.inj hx; rw [← this]; have := F.hq; have := F.hd; show gd ≠ gr; omega) hle).mono ?_
            rintro e w3 ⟨rfl, fr', hm', wr1', hv', ho'⟩
            rw [← hv'] at HT
            have F' := F.onlyR ho' hm'
            clear F ho' hm' wr1 hv' hle
            obtain ⟨v, hv⟩ : ∃ v, i / 32 = v := ⟨_, rfl⟩
            obtain ⟨r, hr⟩ : ∃ r, i % 32 = r := ⟨_, rfl⟩
            have e1 : (i : Int) / 32 = (v : Int) := by omega
            have e2 : (i : Int) % 32 = (r : Int) := by omega
            have hr32 : r < 32 := by omega
            rw [hv] at hiL bs1 bs2 bs3
            rw [hr] at bs1 bs2 bs3
            rw [← bs3] at HT
            have wq1' : Wf (upd fq v (fq v + 2 ^ r)) L := fun j hj => by
              by_cases e : j = v
              · subst e; rw [upd_same]; exact bs2
              · rw [upd_other _ _ _ _ e]; exact wq1 j hj
            have F2 := F'.setQ hiL (fq v + 2 ^ r)
            have k0 := F'.q.cell hiL
            have k1 := F'.q.free v
            have v0 : (0 : Int) ≤ (v : Int) := by omega
            have v1 : (v : Int) < (L : Int) := by omega
            have r0 : IntKind.u64.wrap (r : Int) = (r : Int) := IntWalk.u64_in _ (by omega)
            have hpz : (2 : Int) ^ r % 4294967296 = ((2 ^ r : Nat) : Int) := by
              have h1 : 2 ^ r < 4294967296 := Nat.lt_of_lt_of_le (Nat.pow_lt_pow_right (by decide) hr32) (by decide)
              rw [show (2 : Int) ^ r = ((2 ^ r : Nat) : Int) by simp]
              generalize 2 ^ r = p at *
              omega
            have HZ := Lib.hid (show bits BinOp.or IntKind.u32 (fq v : Int) ((2 : Int) ^ r % 4294967296) = ((fq v + 2 ^ r : Nat) : Int) by rw [hpz]; exact bs1)
            clear hv hr bs3 F' wq1 bs2 bs1 hpz
            generalize fq v + 2 ^ r = z at *
            generalize fq v = y at *
            go_upto_region 16 with fail
            go_wp2_with fail
            rw [HZ.out]
            clear k0 k1 v0 v1 r0 e1 e2 HZ
            generalize w3.setCell ⟨gq, v, none⟩ (.int .u32 (z : Int)) = w3 at *
            generalize upd fq v z = fq at *
            generalize fr' = fr at *
            clear c0
          case' neg =>
            rw [decide_eq_false hle]
            have HT := Lib.hid (HN.out.stepF hle)
            have F2 := F
            have wr1' := wr1
            have wq1' := wq1
            clear HN F wr1 wq1 c0 hle
            go_wp2_with fail
          all_goals
            refine (half_any gd M cd fd _ hM1 F2.d wd1).mono ?_
            rintro e w5 ⟨rfl, fd', hm', wd1', hv', ho'⟩
            rw [← hv'] at HT
            have F3 := F2.onlyD ho' hm'
            clear F2 ho' hm' wd1 hv'
            go_wp2_with fail
            go_roundw
            case rel => exact ⟨i, fr, fq, fd', by omega, by first | rfl | go_num, F3, wr1', wq1', wd1', HT.out⟩
            case measure => simp [intOf] <;> omega
end Go.Proofs.YtdbpkoddfcdhdaaGreat

namespace Go.Proofs.YtdbpkoddfcdhdaaGreat
open Go.RowKit
attribute [local go_sem ↓] Go.wp_at_zero Go.wp_at_succ

theorem divide_any (a b : Option Addr) (n m ca cb : Nat) (f h : Nat → Nat) (w : World) (hn : n ≤ 1099511627776) (hm : m ≤ 1099511627776) (hnc : n ≤ ca) (hmc : m ≤ cb) (hwf : Wd w a n f) (hwh : Wd w b m h) (hf : Wf f n) (hh : Wf h m) (cf : Can f n) (ch : Can h m) (hy : 0 < nv h m) :
    Calls Tryz.prog 92 #[.slice a n ca, .slice b m cb] w fun e w' => ∃ v, e = .returned v ∧ Quo w w' v (nv f n) (nv h m) := by
  by_cases hs : n ≤ 2 ∧ m ≤ 2
  · exact divide_small a b n m ca cb f h w hs.1 hs.2 hwf hwh hf hh hy
  · exact divide_big a b n m ca cb f h w hn hm hnc hmc (by omega) hwf hwh hf hh cf ch hy

set_option maxHeartbeats 1000000 in
theorem rabs_any (va : Value) (x : Int) (w : World) (hx : It w va x) (hs : sz x ≤ 4398046511104) :
    Calls Tryz.prog 73 #[va] w fun e w' => ∃ v, e = .returned v ∧ It w' v (x.natAbs : Int) ∧ Below w.heap.size w w' := by
  obtain ⟨a, cap, f, rfl, h1, h2, h3, h4, h5⟩ := hx.parts
  have H5 := Lib.hid h5
  clear h5
  go_enter Tryz.func73, Tryz.ntmps73
  go_wp2_with fail
  refine (made_any _ a (sz x) cap f _ h1 (by omega) (h2.up ((below_new _ _).alloc (by simp) _)) h3).mono ?_
  rintro e w1 ⟨v, rfl, hv, hb⟩
  rw [H5.out, sg_abs] at hv
  have hB := (Bx.new (w.alloc (.cells #[.bool (decide (x < 0)), .slice a (sz x) cap] 56)) (.bool false) (.slice none 0 0) 56).up hb
  have hN := (NoW.new (w.alloc (.cells #[.bool (decide (x < 0)), .slice a (sz x) cap] 56)) #[.bool false, .slice none 0 0] 56 rfl).up (by simp) hb
  have hbw := ((below_new w (.cells #[.bool (decide (x < 0)), .slice a (sz x) cap] 56)).alloc (by simp) (.cells #[.bool false, .slice none 0 0] 56)).trans (hb.mono (by simp; omega))
  simp only [World.size_alloc] at hB hN
  have c0 := hB.c0
  have c1 := hB.c1
  have f0 := hB.f0
  have f1 := hB.f1
  clear hb
  obtain ⟨s', a', n', cap', rfl⟩ := hv.shape
  go_wp2_with fail
  exact ret_box (B := w.heap.size + 1) rfl rfl rfl (hB.put _ _) ⟨_, rfl, hv.put hN _ _ _ _, (hbw.setCell (by simp) _).setCell (by simp) _⟩

set_option maxRecDepth 100000 in
set_option maxHeartbeats 2000000 in
theorem rsub_any (va vb : Value) (x y : Int) (w : World) (hx : It w va x) (hy : It w vb y) (hsx : sz x ≤ 2199023255552) (hsy : sz y ≤ 2199023255552) :
    Calls Tryz.prog 93 #[va, vb] w fun e w' => ∃ v, e = .returned v ∧ It w' v (x - y) ∧ Below w.heap.size w w' := by
  obtain ⟨W, s1, a1, n1, c1, s2, a2, n2, c2, rfl, rfl, hW, b, vX, vY, vR, hs, p0, p1, q0, q1, hx', hy'⟩ := boxes3 w hx hy
  clear hx hy
  go_enter Tryz.func93, Tryz.ntmps93
  go_upto_region 1 with fail
  rw [← hW]
  clear hW
  refine wp_region_T (by kernel_rfl) [4] (S := fun w' => w'.cell? ⟨w.heap.size, 0, none⟩ = some (.bool s1) ∧ w'.cell? ⟨w.heap.size, 1, none⟩ = some (.slice a1 n1 c1) ∧ w'.cell? ⟨w.heap.size + 1, 0, none⟩ = some (.bool s2) ∧ w'.cell? ⟨w.heap.size + 1, 1, none⟩ = some (.slice a2 n2 c2)) ⟨p0, p1, q0, q1⟩ (fun hHeld => ?_)
  (refine tK 0 rfl ?_; (try simp only [lay, List.getElem_toArray, List.getElem_cons_succ, List.getElem_cons_zero]))
  (refine tK 1 rfl ?_; (try simp only [lay, List.getElem_toArray, List.getElem_cons_succ, List.getElem_cons_zero]))
  (refine wpAnyT_one (i := 2) (by as_aux_lemma => kernel_rfl) rfl (fun K hK => ?_); (try simp only [lay, List.getElem_toArray, List.getElem_cons_succ, List.getElem_cons_zero]); go_simp)
  refine (rneg_any _ y _ hy'.drew (by omega)).mono ?_
  rintro e w4 ⟨r1, rfl, hr1, hb4⟩
  obtain ⟨s3, a3, n3, c3, rfl⟩ := hr1.shape
  replace p0 := keepc hb4 (cellD p0)
  replace p1 := keepc hb4 (cellD p1)
  replace q0 := keepc hb4 (cellD q0)
  replace q1 := keepc hb4 (cellD q1)
  replace hx' := hx'.drew.up hb4
  replace vR := vR.drew.up hb4
  replace b := Bl.up (Bl.drew b) hb4
  go_wp2_with fail
  refine hK.out _ _ (fun _ => ⟨p0, p1, q0, q1⟩) ?_
  have hHeld4 : w4.cell? ⟨w.heap.size, 0, none⟩ = some (.bool s1) ∧ w4.cell? ⟨w.heap.size, 1, none⟩ = some (.slice a1 n1 c1) ∧ w4.cell? ⟨w.heap.size + 1, 0, none⟩ = some (.bool s2) ∧ w4.cell? ⟨w.heap.size + 1, 1, none⟩ = some (.slice a2 n2 c2) := ⟨p0, p1, q0, q1⟩
  clear hK hHeld
  (try simp only [lay, List.getElem_toArray, List.getElem_cons_succ, List.getElem_cons_zero])
  (refine wpAnyT_one (i := 3) (by as_aux_lemma => kernel_rfl) rfl (fun K hK => ?_); (try simp only [lay, List.getElem_toArray, List.getElem_cons_succ, List.getElem_cons_zero]); go_simp)
  refine (radd_any _ _ x (-y) _ hx' hr1 hsx (by rw [sz_neg]; exact hsy)).mono ?_
  rintro e w5 ⟨r2, rfl, hr2, hb5⟩
  rw [← Int.sub_eq_add_neg] at hr2
  obtain ⟨s4, a4, n4, c4, rfl⟩ := hr2.shape
  replace p0 := keepc hb5 p0
  replace p1 := keepc hb5 p1
  replace q0 := keepc hb5 q0
  replace q1 := keepc hb5 q1
  replace vR := vR.up hb5
  replace b := Bl.up b hb5
  obtain ⟨s5, a5, n5, c5, u0, u1, u2, u3, -⟩ := vR.cells
  go_wp2_with fail
  refine hK.out _ _ (fun _ => ⟨p0, p1, q0, q1⟩) ?_
  clear hK hHeld4
  (try simp only [lay, List.getElem_toArray, List.getElem_cons_succ, List.getElem_cons_zero])
  (refine wpAnyT_one (i := 4) (by as_aux_lemma => kernel_rfl) rfl (fun K hK => ?_); (try simp only [lay, List.getElem_toArray, List.getElem_cons_succ, List.getElem_cons_zero]); go_simp)
  go_wp2_with fail
  refine hK.out _ _ (fun h => absurd h (by decide)) ?_
  clear hK
  (try simp only [lay, List.getElem_toArray, List.getElem_cons_succ, List.getElem_cons_zero])
  refine wpAnyT_done (by kernel_rfl) ?_ _
  go_wp2_with fail
  refine ret_vx (B := w.heap.size + 1 + 1) (z := x - y) rfl rfl rfl (Vx.put vR.va hr2) (fun v hv => ⟨v, rfl, hv, Bl.st b (by omega)⟩)
end Go.Proofs.YtdbpkoddfcdhdaaGreat
