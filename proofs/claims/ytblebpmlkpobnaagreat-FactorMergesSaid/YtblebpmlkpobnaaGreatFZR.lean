/-
  algoristlaw05.moved.
-/
import Derived.Test.YtblebpmlkpobnaaGreatFZA
import Derived.Test.YtblebpmlkpobnaaGreatFF
import Derived.Test.YtblebpmlkpobnaaGreatFG1
set_option linter.unusedSimpArgs false
set_option linter.unusedVariables false
set_option maxHeartbeats 4000000
namespace Go.Proofs.YtblebpmlkpobnaaGreat
open Go.RowKit
attribute [local go_sem ↓] Go.wp_at_zero Go.wp_at_succ
section
variable {α : Type} {E : Elt α}
theorem run_apB {w : World} {base : Nat} {v : Value} {l l' : List α} (t ty : TypeId) (ht : Tryz.prog.underlying t = some (.slice E.T)) (h : So E w base v l) (hbase : base ≤ w.heap.size) {b off c1 : Nat}
  (h' : Sc E w b off l') (hne : 0 < l'.length) (hlm : l.length + l'.length ≤ maxLen) (hl : (l.length + l'.length) * E.b ≤ 140737488355328) :
  ∃ g cap w', (Builtin.append_ #[t, t] ty #[v, .slice (some ⟨b, off, none⟩) l'.length c1]).run Tryz.prog w = .ok (.slice (some ⟨g, 0, none⟩) (l.length + l'.length) cap) w' ∧
   So E w' base (.slice (some ⟨g, 0, none⟩) (l.length + l'.length) cap) (l ++ l') ∧ ButS (fun k => v.ownBlock = some k) w w' ∧ (v.ownBlock = some g ∨ g = w.heap.size) := by
 obtain ⟨i0, hi, hz0, hz1, hz2⟩ := info_parts E.info
 obtain ⟨xs, k1, k2, k3⟩ := h
 obtain ⟨news, n1, n2, n3, n4⟩ := h'.flat
 obtain ⟨g, cap, w', hr, q1, q2, q3, q4, q5⟩ := run_app_all noW w t ty base E.T i0 E.z E.k E.b ht hi hz0 hz1 hz2 E.zc E.hk v l.length xs k1 ⟨b, off, none⟩ l'.length c1 news n1
  (fun j u e => (by have h0 := n2 j u e; unfold Addr.add; split; (rename_i hj; rw [hj] at h0; exact h0); exact h0)) (fun u hu => (n3 u hu).2) hne hlm hl hbase (fun g hg => alc_noW (k3 g hg)) (fun u hu => (n3 u hu).1) E.zn
 have hbs := ButS.grown q2
 have hx := k1.1
 refine ⟨g, cap, w', hr, ⟨xs ++ news, by rw [List.length_append]; exact q1, fun i hi' => ?_, fun g' hg' => ?_⟩, hbs, q3⟩
 ·rw [List.length_append] at hi'
  rcases Nat.lt_or_ge i l.length with hil | hil
  ·obtain ⟨cs, c1, c2⟩ := k2 i hil
   refine ⟨cs, by rw [List.getElem_append_left hil]; exact E.fr hbs k3 c1, fun j u e => ?_⟩
   have := c2 j u e
   rw [List.getElem?_append_left (List.getElem?_eq_some_iff.1 this).1]; exact this
  ·obtain ⟨cs, c1, c2⟩ := n4 (i - l.length) (by omega)
   refine ⟨cs, by rw [List.getElem_append_right hil]; exact E.fr hbs k3 c1, fun j u e => ?_⟩
   have hm : l.length * E.k ≤ i * E.k := Nat.mul_le_mul_right _ hil
   rw [List.getElem?_append_right (by rw [hx]; omega), hx, show i * E.k + j - l.length * E.k = (i - l.length) * E.k + j by rw [Nat.sub_mul]; omega]
   exact c2 j u e
 ·have : g' = g := by simp [Value.ownBlock] at hg'; exact hg'.symm
  subst this
  exact noW_alc q5
theorem wpl_apB {ops : Array Oper} {rest : List Oper} {o : Oper} {a : Act} {Q : Exit → Act → World → Prop} {w : World} (hgd : o.guard = none) (su sx : Operand) (t : TypeId)
  (ho : o.op = .call { callee := .builtin .append, args := #[su, sx], argTypes := #[t, t] }) (ht : Tryz.prog.underlying t = some (.slice E.T)) (base : Nat) (v : Value) (l l' : List α) (hs : a.eval su = v) (h : So E w base v l) (hbase : base ≤ w.heap.size)
  (b off m c1 : Nat) (hxv : a.eval sx = .slice (some ⟨b, off, none⟩) m c1) (hm : l'.length = m) (h' : Sc E w b off l') (hne : 0 < m) (hlm : l.length + m ≤ maxLen) (hl : (l.length + m) * E.b ≤ 140737488355328)
  (hK : ∀ g cap w', So E w' base (.slice (some ⟨g, 0, none⟩) (l.length + m) cap) (l ++ l') → ButS (fun k => v.ownBlock = some k) w w' → (v.ownBlock = some g ∨ g = w.heap.size) → wpList Tryz.prog ops Q rest (a.put o.dst (.slice (some ⟨g, 0, none⟩) (l.length + m) cap)) w') :
  wpList Tryz.prog ops Q (o :: rest) a w := by
 subst hm
 refine wpList_plain hgd fun K hK' => ?_
 obtain ⟨g, cap, w', hr, h2, h3, h4⟩ := run_apB t o.type ht h hbase (c1 := c1) h' hne hlm hl
 unfold Oper.wp execOp
 simp only [ho, resolve, invoke, builtin, Sem.run_bind, Sem.run_pure, Result.andThen_ok, List.map_toArray, List.map_cons, List.map_nil, hs, hxv, hr]
 exact hK' _ _ (hK g cap w' h2 h3 h4)
end
def mvB (m i : Nat) : Bool := decide (m / 2 ^ (i % 8) % 2 = 1)
def mvT (m i : Nat) (y : Tri) : Tri := if mvB m i then (y.1, y.2.1, 0) else y
def mvN (m : Nat) (l : List Tri) : List Tri := l.mapIdx fun i y => mvT m i y
theorem mvN_len (m : Nat) (l : List Tri) : (mvN m l).length = l.length := by simp [mvN]
theorem mvN_snoc (m : Nat) {l : List Tri} {i : Nat} (hi : i < l.length) : mvN m (l.take (i + 1)) = mvN m (l.take i) ++ [mvT m i (l.getD i (0, 0, 0))] := by
 unfold mvN
 rw [List.take_succ_eq_append_getElem hi, List.mapIdx_append, List.getD_eq_getElem?_getD, List.getElem?_eq_getElem hi]
 simp [Nat.min_eq_left (Nat.le_of_lt hi)]
theorem bit8 : ∀ x : Fin 256, (bits BinOp.and IntKind.u8 ((x.1 : Nat) : Int) 1 == 1) = decide (x.1 % 2 = 1) := by decide +kernel
theorem bit_mv {m i k : Nat} (hm : m < 256) (hk : i % 8 = k) : (bits BinOp.and IntKind.u8 ((m : Int) / 2 ^ k) 1 == 1) = mvB m i := by
 have h1 : ((m : Int) / 2 ^ k) = ((m / 2 ^ k : Nat) : Int) := by rw [Int.natCast_ediv, Int.natCast_pow]; rfl
 have h2 : m / 2 ^ k < 256 := Nat.lt_of_le_of_lt (Nat.div_le_self _ _) hm
 rw [h1, bit8 ⟨m / 2 ^ k, h2⟩]
 unfold mvB
 rw [hk]
theorem alloc4 (w : World) (o0 o1 o2 o3 : Obj) : ((((w.alloc o0).alloc o1).alloc o2).alloc o3).heap[w.heap.size]? = some o0 ∧ ((((w.alloc o0).alloc o1).alloc o2).alloc o3).heap[w.heap.size + 1]? = some o1 ∧
  ((((w.alloc o0).alloc o1).alloc o2).alloc o3).heap[w.heap.size + 1 + 1]? = some o2 ∧ ((((w.alloc o0).alloc o1).alloc o2).alloc o3).heap[w.heap.size + 1 + 1 + 1]? = some o3 ∧ ((((w.alloc o0).alloc o1).alloc o2).alloc o3).heap.size = w.heap.size + 4 ∧
  Below w.heap.size w ((((w.alloc o0).alloc o1).alloc o2).alloc o3) := by
 have b0 := below_new w o0
 have b1 := below_new (w.alloc o0) o1
 have b2 := below_new ((w.alloc o0).alloc o1) o2
 have b3 := below_new (((w.alloc o0).alloc o1).alloc o2) o3
 have h0 := heap_alloc_new w o0
 have h1 := heap_alloc_new (w.alloc o0) o1
 have h2 := heap_alloc_new ((w.alloc o0).alloc o1) o2
 have h3 := heap_alloc_new (((w.alloc o0).alloc o1).alloc o2) o3
 have k0 := (b1.block _ (Array.getElem?_eq_some_iff.1 h0).1).trans h0
 have k0' := (b2.block _ (Array.getElem?_eq_some_iff.1 k0).1).trans k0
 have k0'' := (b3.block _ (Array.getElem?_eq_some_iff.1 k0').1).trans k0'
 have k1 := (b2.block _ (Array.getElem?_eq_some_iff.1 h1).1).trans h1
 have k1' := (b3.block _ (Array.getElem?_eq_some_iff.1 k1).1).trans k1
 have k2 := (b3.block _ (Array.getElem?_eq_some_iff.1 h2).1).trans h2
 simp only [World.size_alloc] at h1 h2 h3 k1' k2
 exact ⟨k0'', k1', k2, h3, by simp only [World.size_alloc], Bl.up (Bl.up (Bl.up b0 b1) b2) b3⟩
theorem sl2_fr {w : World} {B T : Nat} {fr : Nat × Nat} {s x : Value} (h : w.heap[B]? = some (.cells #[s, x] T fr)) (hs : noW s = true) (hx : noW x = true) : NoW w B := by
 intro o u hu
 simp only [World.cell?, h] at hu
 rcases o with _ | _ | o <;> simp at hu
 ·rw [hu] at hs; cases hs
 ·rw [hu] at hx; cases hx
theorem load_raw (w : World) (B : Nat) (x0 x1 : Value) (h0 : w.cell? ⟨B, 0, none⟩ = some x0) (h1 : w.cell? ⟨B, 1, none⟩ = some x1) :
  (loadVar 25 ⟨B, 0, none⟩).run Tryz.prog w = .ok (.agg #[x0, x1]) w := by
 simp [go_sem, h0, h1]
theorem ret_raw {fn : Func} {R : Ending → World → Prop} {t : Tmp} {a : Act} {w : World} {B T : Nat} {fr : Nat × Nat} {x0 x1 : Value} (hr : fn.results = #[.cell t 25]) (ht : a.tmps.getD t undef = .pointer (some ⟨B, 0, none⟩)) (hd : a.defers = [])
  (h : w.heap[B]? = some (.cells #[x0, x1] T fr)) (hR : R (.returned (.agg #[x0, x1])) w) : bodyPost Tryz.prog fn R .ret a w := by
 refine bodyPost_ret ?_ hd hR
 have hl := load_raw w B x0 x1 (by simp [World.cell?, h]) (by simp [World.cell?, h])
 have ht' : a.tmps[t]?.getD undef = .pointer (some ⟨B, 0, none⟩) := by simpa using ht
 have hA : (asAddr (.pointer (some ⟨B, 0, none⟩))).run Tryz.prog w = .ok ⟨B, 0, none⟩ w := rfl
 simp [results, hr, ht', hl, hA]
set_option maxRecDepth 100000 in
theorem moved_any (va : Value) (L : List Tri) (b m0 m1 : Nat) (w : World) (h : Dx w va L b) (h0 : m0 < 256) (h1 : m1 < 256) (hL : L.length * 3 ≤ 140737488351232) :
  Calls Tryz.prog 26 #[va, .agg #[.int .u8 (m0 : Int), .int .u8 (m1 : Int)]] w fun e w' => ∃ v, e = .returned v ∧ Dx w' v (mvN m0 L) m1 ∧ Below w.heap.size w w' := by
 obtain ⟨a, c, rfl, hb16, ha, hLm⟩ := h
 go_enter Tryz.func26, Tryz.ntmps26
 have e16 : IntKind.u16.wrap (m1 : Int) = (m1 : Int) := by rw [IntKind.wrap_u16]; omega
 go_upto_region 2 with fail
 obtain ⟨hD0, hD1, hD2, hD3, hsz, hbl⟩ := alloc4 w (.cells #[.slice a L.length c, .int .u16 (b : Int)] 25) (.cells #[.int .u8 (m0 : Int), .int .u8 (m1 : Int)] 55) (.cells #[.slice none 0 0, .int .u16 0] 25) (.cells #[.slice none 0 0, .int .u16 (m1 : Int)] 25)
 generalize (((w.alloc (.cells #[.slice a L.length c, .int .u16 (b : Int)] 25)).alloc (.cells #[.int .u8 (m0 : Int), .int .u8 (m1 : Int)] 55)).alloc (.cells #[.slice none 0 0, .int .u16 0] 25)).alloc (.cells #[.slice none 0 0, .int .u16 (m1 : Int)] 25) = W at *
 have HA := Lib.hid ha
 have HD0 := Lib.hid hD0
 have HD1 := Lib.hid hD1
 have HD2 := Lib.hid hD2
 have HD3 := Lib.hid hD3
 have HB := Lib.hid hbl
 clear ha hD0 hD1 hD2 hD3 hbl e16
 go_wp2_with fail
 go_loopw [6, 7] (fun s6 s7 wr => ∃ (i : Nat) (s : Value), s6 = .int .i64 (i : Int) ∧ i ≤ L.length ∧ wr.heap[w.heap.size + 1 + 1 + 1]? = some (.cells #[s, .int .u16 (m1 : Int)] 25 (0, 0)) ∧ So e3 wr W.heap.size s (mvN m0 (L.take i)) ∧ ButS (fun k => k = w.heap.size + 1 + 1 + 1) W wr)
  (fun s6 _ _ => L.length - (intOf s6).toNat)
 case atStart => exact ⟨0, _, rfl, Nat.zero_le _, HD3.out, So.nil e3 W _, ButS.refl _ _⟩
 case round =>
  obtain ⟨i, s, rfl, hi, hO, hS, hbu⟩ := hrel
  have hbr := ButS.below HB.out hbu HB.out.size (fun g e => by omega)
  have hR0 := (hbu.block _ (by omega) (by omega)).trans HD0.out
  have hR1 := (hbu.block _ (by omega) (by omega)).trans HD1.out
  have hR2 := (hbu.block _ (by omega) (by omega)).trans HD2.out
  have q0 : wr.cell? ⟨w.heap.size, 0, none⟩ = some (.slice a L.length c) := by simp [World.cell?, hR0]
  have q1 : wr.cell? ⟨w.heap.size + 1, 0, none⟩ = some (.int .u8 (m0 : Int)) := by simp [World.cell?, hR1]
  have HO := Lib.hid hO
  have HS := Lib.hid hS
  have HU := Lib.hid hbu
  have HR := Lib.hid hbr
  have HR2 := Lib.hid hR2
  clear hO hS hbu hbr hR0 hR1 hR2
  by_cases hlt : i < L.length
  ·obtain ⟨ba, offa, rfl, hba, hla⟩ := (HA.out.up HR.out).at hlt
   obtain ⟨p0, p1, p2, pb0, pb1, pb2⟩ := hla.tri hlt
   have hsn := mvN_snoc m0 hlt
   obtain ⟨y, hy⟩ : ∃ y, L.getD i (0, 0, 0) = y := ⟨_, rfl⟩
   rw [hy] at p0 p1 p2 pb0 pb1 pb2 hsn
   have HSN := Lib.hid hsn
   have i0 : (0 : Int) ≤ (i : Int) := by omega
   have i1 : (i : Int) < (L.length : Int) := by omega
   clear hla hy hsn
   go_upto_region 6 with fail
   have hD5 := heap_alloc_new wr (.cells #[.int .u8 (y.1 : Int), .int .u8 (y.2.1 : Int), .int .u8 (y.2.2 : Int)] 93)
   have hb5 := below_new wr (.cells #[.int .u8 (y.1 : Int), .int .u8 (y.2.1 : Int), .int .u8 (y.2.2 : Int)] 93)
   replace q0 := keepc hb5 q0
   replace q1 := keepc hb5 q1
   have HD5 := Lib.hid hD5
   have HB5 := Lib.hid hb5
   obtain ⟨k, hk⟩ : ∃ k, i % 8 = k := ⟨_, rfl⟩
   have hk8 : k < 8 := by omega
   have e8 : (i : Int).tmod 8 = (k : Int) := by rw [Int.tmod_eq_emod_of_nonneg (by omega)]; omega
   have ek : IntKind.u64.wrap (k : Int) = (k : Int) := by rw [IntKind.wrap_u64]; omega
   clear p0 p1 p2 hD5 hb5
   generalize wr.alloc (.cells #[.int .u8 (y.1 : Int), .int .u8 (y.2.1 : Int), .int .u8 (y.2.2 : Int)] 93) = w5 at *
   have hbit := bit_mv h0 hk
   by_cases hm : mvB m0 i = true
   case' pos =>
    have ht : mvT m0 i y = (y.1, y.2.1, 0) := by unfold mvT; rw [if_pos hm]
    rw [hm] at hbit
    have hD5 := HD5.out
    have c2 : w5.cell? ⟨wr.heap.size, 2, none⟩ = some (.int .u8 (y.2.2 : Int)) := by simp [World.cell?, hD5]
    have r2 : w5.frozen? ⟨wr.heap.size, 2, none⟩ = false := by simp [World.frozen?, hD5]
    have hst := ButS.set w5 wr.heap.size 2 (.int .u8 0)
    have hD6 : (w5.setCell ⟨wr.heap.size, 2, none⟩ (.int .u8 0)).heap[wr.heap.size]? = some (.cells #[.int .u8 (y.1 : Int), .int .u8 (y.2.1 : Int), .int .u8 0] 93 (0, 0)) := by simp [World.setCell, Array.getElem?_modify, hD5]
    have hb6 := ButS.below HB5.out hst HB5.out.size (fun g e => by omega)
    have HD6 := Lib.hid (show (w5.setCell ⟨wr.heap.size, 2, none⟩ (.int .u8 0)).heap[wr.heap.size]? = some (.cells #[.int .u8 ((mvT m0 i y).1 : Int), .int .u8 ((mvT m0 i y).2.1 : Int), .int .u8 ((mvT m0 i y).2.2 : Int)] 93 (0, 0)) by rw [ht]; exact hD6)
    have HB6 := Lib.hid hb6
    have HT := Lib.hid (show (mvT m0 i y).1 < 256 ∧ (mvT m0 i y).2.1 < 256 ∧ (mvT m0 i y).2.2 < 256 by rw [ht]; exact ⟨pb0, pb1, Nat.zero_lt_succ 255⟩)
    clear hD5 hst hD6 hb6 ht HD5 HB5
    go_upto_region 8 with fail
    clear c2 r2
    generalize w5.setCell ⟨wr.heap.size, 2, none⟩ (.int .u8 0) = w6 at *
    clear q0 q1 hm hbit
   case' neg =>
    have ht : mvT m0 i y = y := by unfold mvT; rw [if_neg hm]
    rw [Bool.not_eq_true] at hm
    rw [hm] at hbit
    have HD6 := Lib.hid (show w5.heap[wr.heap.size]? = some (.cells #[.int .u8 ((mvT m0 i y).1 : Int), .int .u8 ((mvT m0 i y).2.1 : Int), .int .u8 ((mvT m0 i y).2.2 : Int)] 93 (0, 0)) by rw [ht]; exact HD5.out)
    have HB6 := HB5
    have HT := Lib.hid (show (mvT m0 i y).1 < 256 ∧ (mvT m0 i y).2.1 < 256 ∧ (mvT m0 i y).2.2 < 256 by rw [ht]; exact ⟨pb0, pb1, pb2⟩)
    clear ht HD5 HB5
    go_upto_region 8 with fail
    clear q0 q1 hm hbit
    generalize w5 = w6 at *
   all_goals
    generalize mvT m0 i y = y' at *
    have hD6 := HD6.out
    have hO6 := (HB6.out.block _ (Array.getElem?_eq_some_iff.1 HO.out).1).trans HO.out
    have hS6 := HS.out.up HB6.out
    have hU6 := HU.out.up HB6.out
    have p0 : w6.cell? ⟨wr.heap.size, 0, none⟩ = some (.int .u8 (y'.1 : Int)) := by simp [World.cell?, hD6]
    have p1 : w6.cell? ⟨wr.heap.size, 1, none⟩ = some (.int .u8 (y'.2.1 : Int)) := by simp [World.cell?, hD6]
    have p2 : w6.cell? ⟨wr.heap.size, 2, none⟩ = some (.int .u8 (y'.2.2 : Int)) := by simp [World.cell?, hD6]
    have o0 : w6.cell? ⟨w.heap.size + 1 + 1 + 1, 0, none⟩ = some s := by simp [World.cell?, hO6]
    obtain ⟨ao, co, rfl, hco⟩ := hS6.slice
    have hO7 := ((below_new w6 (.cells #[.int .u8 (y'.1 : Int), .int .u8 (y'.2.1 : Int), .int .u8 (y'.2.2 : Int)] 93)).block _ (Array.getElem?_eq_some_iff.1 hO6).1).trans hO6
    have f0 : (w6.alloc (.cells #[.int .u8 (y'.1 : Int), .int .u8 (y'.2.1 : Int), .int .u8 (y'.2.2 : Int)] 93)).frozen? ⟨w.heap.size + 1 + 1 + 1, 0, none⟩ = false := by simp [World.frozen?, hO7]
    have g0 : (w6.alloc (.cells #[.int .u8 (y'.1 : Int), .int .u8 (y'.2.1 : Int), .int .u8 (y'.2.2 : Int)] 93)).cell? ⟨w.heap.size + 1 + 1 + 1, 0, none⟩ = some (.slice ao (mvN m0 (L.take i)).length co) := by simp [World.cell?, hO7]
    have hD7 := heap_alloc_new w6 (.cells #[.int .u8 (y'.1 : Int), .int .u8 (y'.2.1 : Int), .int .u8 (y'.2.2 : Int)] 93)
    have hsc : Sc e3 (w6.alloc (.cells #[.int .u8 (y'.1 : Int), .int .u8 (y'.2.1 : Int), .int .u8 (y'.2.2 : Int)] 93)) w6.heap.size 0 [y'] := Sc.one (E := e3) (cs := [.int .u8 (y'.1 : Int), .int .u8 (y'.2.1 : Int), .int .u8 (y'.2.2 : Int)]) hD7 ⟨rfl, HT.out.1, HT.out.2.1, HT.out.2.2⟩
    have hS7 := hS6.alloc (.cells #[.int .u8 (y'.1 : Int), .int .u8 (y'.2.1 : Int), .int .u8 (y'.2.2 : Int)] 93)
    have hU7 := hU6.up (below_new w6 (.cells #[.int .u8 (y'.1 : Int), .int .u8 (y'.2.1 : Int), .int .u8 (y'.2.2 : Int)] 93))
    have hl0 : (mvN m0 (L.take i)).length = i := by rw [mvN_len, List.length_take]; omega
    have hln : ((mvN m0 (L.take i)).length + 1) * 3 ≤ 140737488355328 := by rw [hl0]; omega
    have hlt3 : w.heap.size + 1 + 1 + 1 < (w6.alloc (.cells #[.int .u8 (y'.1 : Int), .int .u8 (y'.2.1 : Int), .int .u8 (y'.2.2 : Int)] 93)).heap.size := (Array.getElem?_eq_some_iff.1 hO7).1
    have hne3 : ¬ (Value.slice ao (mvN m0 (L.take i)).length co).ownBlock = some (w.heap.size + 1 + 1 + 1) := fun e => by have := (hS7.lt _ e).1; omega
    have HO7 := Lib.hid hO7
    have HU7 := Lib.hid hU7
    have HL0 := Lib.hid hl0
    have HG0 := Lib.hid g0
    have HF0 := Lib.hid f0
    have hsz7 : W.heap.size ≤ (w6.alloc (.cells #[.int .u8 (y'.1 : Int), .int .u8 (y'.2.1 : Int), .int .u8 (y'.2.2 : Int)] 93)).heap.size := hU7.size
    clear hD6 hO6 hS6 hU6 hO7 hD7 hU7 hl0 g0 f0 HD6 HB6 HO HS HU HR HR2
    go_wp2_with (at_builtin; go_must (refine wpl_apB (E := e3) rfl (.tmp 34) (.tmp 36) _ rfl Tryz.underlying22 W.heap.size _ (mvN m0 (L.take i)) [y'] rfl hS7 hsz7 _ 0 1 1 rfl rfl hsc (by decide) (by unfold maxLen; omega) hln ?_); intro g' cap' w14 hS' hb' hg'; have g0 := cell_fr hb' hlt3 hne3 HG0.out; have f0 := frozen_fr hb' hlt3 hne3 HF0.out)
    have hO14 := (hb'.block _ hlt3 hne3).trans HO7.out
    have hu14 := (HU7.out.step hb' (fun g hg => .inr ((hS7.lt g hg).1))).trans (ButS.set w14 (w.heap.size + 1 + 1 + 1) 0 (.slice (some ⟨g', 0, none⟩) ((mvN m0 (L.take i)).length + 1) cap'))
    have hgW := (hS'.lt g' rfl).1
    have hS14 := hS'.fr (ButS.set w14 (w.heap.size + 1 + 1 + 1) 0 (.slice (some ⟨g', 0, none⟩) ((mvN m0 (L.take i)).length + 1) cap')) (fun g e => by rw [e]; exact sl2_fr hO14 rfl rfl) (fun g hg e => by
     have : g' = g := by simpa [Value.ownBlock] using hg
     omega)
    have hO15 : (w14.setCell ⟨w.heap.size + 1 + 1 + 1, 0, none⟩ (.slice (some ⟨g', 0, none⟩) ((mvN m0 (L.take i)).length + 1) cap')).heap[w.heap.size + 1 + 1 + 1]? = some (.cells #[.slice (some ⟨g', 0, none⟩) ((mvN m0 (L.take i)).length + 1) cap', .int .u16 (m1 : Int)] 25 (0, 0)) := by simp [World.setCell, Array.getElem?_modify, hO14]
    have HU14 := Lib.hid hu14
    have HS14 := Lib.hid hS14
    have HO15 := Lib.hid hO15
    clear hO14 hu14 hS14 hO15 hS' hb' hg' hS7 hsc HU7 HO7
    go_wp2_with fail
    refine ⟨⟨i + 1, _, by go_num, by omega, HO15.out, by rw [HSN.out]; exact HS14.out, HU14.out⟩, by simp [intOf]; omega⟩
  ·have hiL : i = L.length := by omega
   subst hiL
   rw [List.take_length] at HS
   have hO := HO.out
   have hR2 := HR2.out
   obtain ⟨ao, co, rfl, hco⟩ := HS.out.slice
   have g0 : wr.cell? ⟨w.heap.size + 1 + 1 + 1, 0, none⟩ = some (.slice ao (mvN m0 L).length co) := by simp [World.cell?, hO]
   have g1 : wr.cell? ⟨w.heap.size + 1 + 1 + 1, 1, none⟩ = some (.int .u16 (m1 : Int)) := by simp [World.cell?, hO]
   have d0 : wr.cell? ⟨w.heap.size + 1 + 1, 0, none⟩ = some (.slice none 0 0) := by simp [World.cell?, hR2]
   have d1 : wr.cell? ⟨w.heap.size + 1 + 1, 1, none⟩ = some (.int .u16 0) := by simp [World.cell?, hR2]
   have f0 : wr.frozen? ⟨w.heap.size + 1 + 1, 0, none⟩ = false := by simp [World.frozen?, hR2]
   have f1 : wr.frozen? ⟨w.heap.size + 1 + 1, 1, none⟩ = false := by simp [World.frozen?, hR2]
   have hst := (ButS.set wr (w.heap.size + 1 + 1) 0 (.slice ao (mvN m0 L).length co)).trans (ButS.set _ (w.heap.size + 1 + 1) 1 (.int .u16 (m1 : Int)))
   have hS2 := HS.out.fr hst (fun g e => by rw [e]; exact sl2_fr hR2 rfl rfl) (fun g hg e => by have := (HS.out.lt g hg).1; omega)
   have hD := hR2
   have HST := Lib.hid hst
   have HS2 := Lib.hid hS2
   have HFIN := Lib.hid (show ((wr.setCell ⟨w.heap.size + 1 + 1, 0, none⟩ (.slice ao (mvN m0 L).length co)).setCell ⟨w.heap.size + 1 + 1, 1, none⟩ (.int .u16 (m1 : Int))).heap[w.heap.size + 1 + 1]? = some (.cells #[.slice ao (mvN m0 L).length co, .int .u16 (m1 : Int)] 25 (0, 0)) by simp [World.setCell, Array.getElem?_modify, hR2])
   have HLB := Lib.hid (ButS.below HR.out hst HR.out.size (fun g e => by omega))
   have i1 : ¬ (L.length : Int) < (L.length : Int) := by omega
   clear hO hR2 hst hS2 hD hlt hi
   go_wp2_with fail
   refine ret_raw (B := w.heap.size + 1 + 1) (T := 25) (fr := (0, 0)) rfl rfl rfl HFIN.out ?_
   exact ⟨_, rfl, ⟨ao, co, rfl, by omega, HS2.out.sr, by rw [mvN_len]; omega⟩, HLB.out⟩
end Go.Proofs.YtblebpmlkpobnaaGreat
