/-
  The builtin copy at rows of integers: into a block of the call's own.
  lattice.mix: two rows, element by element.
  lattice: of, floor, exact.
  The functions that lattice hands to mix: x - q y, u a + v b, p b - q a, -a.
  slices.IndexFunc, slices.ContainsFunc, at rows and at matrices; lattice.zero.
  lattice.copied: rows of their own.
-/
import Derived.Test.YtdbpkoddfcdhdaaGreatPD
import Derived.Test.YtdbpkoddfcdhdaaGreatPF
set_option linter.unusedSimpArgs false
set_option linter.unusedVariables false

namespace Go.Proofs.YtdbpkoddfcdhdaaGreat
open Go.RowKit

theorem Wd.butg {w w' : World} {a : Option Addr} {n : Nat} {f : Nat → Nat} (h : Wd w a n f) {g : Nat} (hg : NoW w g) (hk : ∀ k, k ≠ g → w'.heap[k]? = w.heap[k]?) (hs : w'.heap.size = w.heap.size) : Wd w' a n f := by
  rcases h with h | ⟨b, off, h1, h2, h3⟩
  · exact .inl h
  · rcases Nat.eq_zero_or_pos n with hn | hn
    · exact .inl hn
    · have hb : b ≠ g := by
        rintro rfl
        exact hg _ _ (h3 0 hn)
      exact .inr ⟨b, off, h1, by rw [hs]; exact h2, fun i hi => (World.cell?_of_block (w := w) (hk b hb)).trans (h3 i hi)⟩

theorem It.butg {w w' : World} {v : Value} {z : Int} (h : It w v z) {g : Nat} (hg : NoW w g) (hk : ∀ k, k ≠ g → w'.heap[k]? = w.heap[k]?) (hs : w'.heap.size = w.heap.size) : It w' v z := by
  obtain ⟨a, n, cap, f, h1, h2, h3, h4⟩ := h
  exact ⟨a, n, cap, f, h1, h2, h3.butg hg hk hs, h4⟩

theorem getD_append {l z : List Int} {i : Nat} : (l ++ z.drop l.length).getD i 0 = if i < l.length then l.getD i 0 else z.getD i 0 := by
  simp only [List.getD_eq_getElem?_getD]
  split
  · rename_i h; rw [List.getElem?_append_left h]
  · rename_i h; rw [List.getElem?_append_right (by omega), List.getElem?_drop, show l.length + (i - l.length) = i by omega]

theorem run_copyR (dT sT ty : TypeId) {w : World} {g dCap sCap : Nat} {sp : Option Addr} {z l : List Int} (hu : Tryz.prog.underlying dT = some (.slice 56)) (hO : Ow w g z) (hR : Rw w (.slice sp l.length sCap) l) (hle : l.length ≤ z.length) :
    ∃ w', (Builtin.copy_ #[dT, sT] ty #[.slice (some ⟨g, 0, none⟩) z.length dCap, .slice sp l.length sCap]).run Tryz.prog w = .ok (goInt l.length) w' ∧ Ow w' g (l ++ z.drop l.length) ∧
      (∀ k, k ≠ g → w'.heap[k]? = w.heap[k]?) ∧ w'.heap.size = w.heap.size ∧ (∀ B w0, Below B w0 w → B ≤ g → Below B w0 w') := by
  obtain ⟨i0, hi, hz0, hz1, hz2⟩ := info_parts infoI
  obtain ⟨cur, h1, h2, h3, h4⟩ := hO
  have hOwn : Own w g 56 (z.length * 2) (fun i => (cur[i]?).getD undef) := ⟨cur, h1, h2, fun i hi => by simp only [Array.getElem?_eq_getElem (show i < cur.size by omega), Option.getD_some]⟩
  have hmin : Nat.min l.length z.length = l.length := Nat.min_eq_left hle
  obtain ⟨_, _, e, -, hRi⟩ := hR
  injection e with e1 e2 e3
  subst e1
  -- the cells of the source
  obtain ⟨G, hG, hGi⟩ : ∃ G : Nat → Value, Cl w sp (l.length * 2) G ∧ ∀ i, i < l.length → ∃ s c n k, G (i * 2) = .bool s ∧ G (i * 2 + 1) = .slice c n k ∧ It w (.agg #[.bool s, .slice c n k]) (l.getD i 0) := by
    rcases hRi with rfl | ⟨b, off, rfl, hb, hc⟩
    · exact ⟨fun _ => undef, .inl rfl, fun i hi => absurd hi (Nat.not_lt_zero _)⟩
    · refine ⟨fun j => (w.cell? ⟨b, off + j, none⟩).getD undef, .inr ⟨b, off, rfl, hb, fun j hj => ?_⟩, fun i hi => ?_⟩
      · obtain ⟨s, c, n, k, c0, c1, -⟩ := hc (j / 2) (by omega)
        rcases (show j = j / 2 * 2 ∨ j = j / 2 * 2 + 1 by omega) with e | e
        · rw [← e] at c0; simp only [c0, Option.getD_some]
        · rw [show off + j / 2 * 2 + 1 = off + (j / 2 * 2 + 1) by omega, ← e] at c1; simp only [c1, Option.getD_some]
      · obtain ⟨s, c, n, k, c0, c1, c2⟩ := hc i hi
        refine ⟨s, c, n, k, ?_, ?_, c2⟩
        · show (w.cell? ⟨b, off + i * 2, none⟩).getD undef = _; rw [c0]; rfl
        · show (w.cell? ⟨b, off + (i * 2 + 1), none⟩).getD undef = _; rw [show off + (i * 2 + 1) = off + i * 2 + 1 by omega, c1]; rfl
  have hone : ∀ i, i < Nat.min l.length z.length * 2 → (G i).oneCell' = true := by
    intro j hj
    rw [hmin] at hj
    obtain ⟨s, c, n, k, g0, g1, -⟩ := hGi (j / 2) (by omega)
    rcases (show j = j / 2 * 2 ∨ j = j / 2 * 2 + 1 by omega) with e | e
    · rw [← e] at g0; rw [g0]; rfl
    · rw [← e] at g1; rw [g1]; rfl
  obtain ⟨w', hr, hO', p2, p3, p4⟩ := run_copy_into (P := Tryz.prog) w dT sT ty 56 2 g z.length dCap sp l.length sCap 56 (z.length * 2) _ G hu (by rw [hi]; simp [hz1]) hOwn (by rw [hmin]; omega) (by rw [hmin]; exact hG) hone
  rw [hmin] at hr hO'
  refine ⟨w', hr, ?_, p2, p3, p4⟩
  obtain ⟨cur', k1, k2, k3⟩ := hO'
  have hlen : (l ++ z.drop l.length).length = z.length := by simp; omega
  have hcell : ∀ i, i < z.length → ∃ s c n k, cur'[i * 2]? = some (.bool s) ∧ cur'[i * 2 + 1]? = some (.slice c n k) ∧ It w (.agg #[.bool s, .slice c n k]) ((l ++ z.drop l.length).getD i 0) := by
    intro i hi
    rw [getD_append]
    by_cases hil : i < l.length
    · obtain ⟨s, c, n, k, g0, g1, g2⟩ := hGi i hil
      exact ⟨s, c, n, k, by rw [k3 _ (by omega)]; simp only [show i * 2 < l.length * 2 by omega, if_true, g0], by rw [k3 _ (by omega)]; simp only [show i * 2 + 1 < l.length * 2 by omega, if_true, g1], by rw [if_pos hil]; exact g2⟩
    · obtain ⟨s, c, n, k, g0, g1, g2⟩ := h4 i hi
      exact ⟨s, c, n, k, by rw [k3 _ (by omega)]; simp only [show ¬ i * 2 < l.length * 2 by omega, if_false, g0, Option.getD_some], by rw [k3 _ (by omega)]; simp only [show ¬ i * 2 + 1 < l.length * 2 by omega, if_false, g1, Option.getD_some], by rw [if_neg hil]; exact g2⟩
  refine ⟨cur', k1, by rw [hlen]; exact k2, ?_, ?_⟩
  · intro o x hx
    simp only [World.cell?, k1] at hx
    have ho : o < z.length * 2 := by
      rcases Nat.lt_or_ge o (z.length * 2) with h | h
      · exact h
      · simp [Array.getElem?_eq_none (show cur'.size ≤ o by omega)] at hx
    obtain ⟨s, c, n, k, c0, c1, -⟩ := hcell (o / 2) (by omega)
    rcases (show o = o / 2 * 2 ∨ o = o / 2 * 2 + 1 by omega) with e | e
    · rw [← e] at c0; simp [c0] at hx
    · rw [← e] at c1; simp [c1] at hx
  · intro i hi
    rw [hlen] at hi
    obtain ⟨s, c, n, k, c0, c1, c2⟩ := hcell i hi
    exact ⟨s, c, n, k, c0, c1, c2.butg h3 p2 p3⟩

theorem wpl_copyR {ops : Array Oper} {rest : List Oper} {o : Oper} {a : Act} {Q : Exit → Act → World → Prop} {w : World} (hgd : o.guard = none) (d s : Operand) (dT sT : TypeId)
    (ho : o.op = .call { callee := .builtin .copy, args := #[d, s], argTypes := #[dT, sT] }) (hu : Tryz.prog.underlying dT = some (.slice 56))
    (g dCap sCap : Nat) (sp : Option Addr) (z l : List Int) (n : Nat) (hn : z.length = n) (hd : a.eval d = .slice (some ⟨g, 0, none⟩) n dCap) (hs : a.eval s = .slice sp l.length sCap) (hO : Ow w g z) (hR : Rw w (.slice sp l.length sCap) l) (hle : l.length ≤ z.length)
    (h : ∀ w', Ow w' g (l ++ z.drop l.length) → (∀ k, k ≠ g → w'.heap[k]? = w.heap[k]?) → w'.heap.size = w.heap.size → (∀ B w0, Below B w0 w → B ≤ g → Below B w0 w') → wpList Tryz.prog ops Q rest (a.put o.dst (goInt l.length)) w') :
    wpList Tryz.prog ops Q (o :: rest) a w := by
  subst hn
  refine wpList_plain hgd fun K hK => ?_
  obtain ⟨w', hr, p1, p2, p3, p4⟩ := run_copyR dT sT o.type (dCap := dCap) hu hO hR hle
  unfold Oper.wp
  simp [execOp, ho, resolve, invoke, builtin, hd, hs, hr, Result.andThen]
  exact hK _ _ (h w' p1 p2 p3 p4)

theorem step_copyR {ops : Array Oper} {o : Oper} {a : Act} {K : Act → World → Prop} {Q : Exit → Act → World → Prop} {E : Prop} {w : World} (hgd : o.guard = none) (d s : Operand) (dT sT : TypeId)
    (ho : o.op = .call { callee := .builtin .copy, args := #[d, s], argTypes := #[dT, sT] }) (hu : Tryz.prog.underlying dT = some (.slice 56))
    (g dCap sCap : Nat) (sp : Option Addr) (z l : List Int) (n : Nat) (hn : z.length = n) (hd : a.eval d = .slice (some ⟨g, 0, none⟩) n dCap) (hs : a.eval s = .slice sp l.length sCap) (hO : Ow w g z) (hR : Rw w (.slice sp l.length sCap) l) (hle : l.length ≤ z.length)
    (h : ∀ w', Ow w' g (l ++ z.drop l.length) → (∀ k, k ≠ g → w'.heap[k]? = w.heap[k]?) → w'.heap.size = w.heap.size → (∀ B w0, Below B w0 w → B ≤ g → Below B w0 w') → K (a.put o.dst (goInt l.length)) w') :
    if Region.wanted o (yielded ops a.tmps) = true then Oper.wp Tryz.prog o a w K Q else E := by
  subst hn
  have hw : Region.wanted o (yielded ops a.tmps) = true := by simp [Region.wanted, hgd]
  rw [if_pos hw]
  obtain ⟨w', hr, p1, p2, p3, p4⟩ := run_copyR dT sT o.type (dCap := dCap) hu hO hR hle
  unfold Oper.wp
  simp [execOp, ho, resolve, invoke, builtin, hd, hs, hr, Result.andThen]
  exact h w' p1 p2 p3 p4
end Go.Proofs.YtdbpkoddfcdhdaaGreat

namespace Go.Proofs.YtdbpkoddfcdhdaaGreat
open Go.RowKit
attribute [local go_sem ↓] Go.wp_at_zero Go.wp_at_succ

/-- What is asked of a function of two integers: at the i-th elements of l and m it gives F i. -/
def Fn2 (g : Nat) (lb : Array Value) (w : World) (l m : List Int) (F : Nat → Int) : Prop :=
  ∀ i, i < l.length → ∀ (W : World) (u v : Value), Below w.heap.size w W → It W u (l.getD i 0) → It W v (m.getD i 0) →
    Calls Tryz.prog g (#[u, v] ++ lb) W fun e w' => ∃ r, e = .returned r ∧ It w' r (F i) ∧ Below W.heap.size W w'

theorem Fn2.later {g : Nat} {lb : Array Value} {w W : World} {l m : List Int} {F : Nat → Int} (h : Fn2 g lb w l m F) (hb : Below w.heap.size w W) : Fn2 g lb W l m F :=
  fun i hi W' u v hb' hu hv => h i hi W' u v (hb.trans (hb'.mono hb.size)) hu hv

theorem row_ext {l l' : List Int} (h : l.length = l'.length) (h' : ∀ i, i < l.length → l.getD i 0 = l'.getD i 0) : l = l' := by
  refine List.ext_getElem h fun i h1 h2 => ?_
  have := h' i h1
  simpa [List.getD_eq_getElem?_getD, h1, h2] using this

theorem getD_map_range (F : Nat → Int) {n i : Nat} (h : i < n) : ((List.range n).map F).getD i 0 = F i := by
  simp [List.getD_eq_getElem?_getD, h]

theorem getD_set_same {l : List Int} {i : Nat} (h : i < l.length) (z : Int) : (l.set i z).getD i 0 = z := by simp [List.getD_eq_getElem?_getD, h]
theorem getD_set_other {l : List Int} {i j : Nat} (h : i ≠ j) (z : Int) : (l.set i z).getD j 0 = l.getD j 0 := by simp [List.getD_eq_getElem?_getD, h]

set_option maxHeartbeats 1000000 in
theorem mix_fresh (va vb : Value) (l m : List Int) (g : Nat) (lb : Array Value) (F : Nat → Int) (w : World) (eg : ∀ args w, (callFunc g args).run Tryz.prog w = .ok (.enter g args) w)
    (ha : Rw w va l) (hb : Rw w vb m) (hlm : l.length ≤ m.length) (hN : l.length ≤ 1099511627776) (hf : Fn2 g lb w l m F) :
    Calls Tryz.prog 49 #[va, vb, .func (.func g) #[] lb] w fun e w' => ∃ v, e = .returned v ∧ Rw w' v ((List.range l.length).map F) ∧ Below w.heap.size w w' ∧ ∃ n c, v = .slice (some ⟨w.heap.size, 0, none⟩) n c := by
  obtain ⟨a, ca, rfl, hca, hra⟩ := ha
  obtain ⟨b, cb, rfl, hcb, hrb⟩ := hb
  have hmk := mk_row (l.length : Int) l.length rfl hN
  go_enter Tryz.func49, Tryz.ntmps49
  go_wp2_with fail
  clear hmk
  go_loopw [8, 14] (fun s8 s wr => ∃ (i : Nat) (o : List Int), i ≤ l.length ∧ s = .int .i64 i ∧ Ow wr w.heap.size o ∧ o.length = l.length ∧ (∀ j, j < i → o.getD j 0 = F j) ∧ Below w.heap.size w wr)
    (fun _ s _ => l.length - (intOf s).toNat)
  case atStart =>
    refine ⟨0, List.replicate l.length 0, Nat.zero_le _, rfl, Ow.zeros w _, by simp, fun j hj => absurd hj (Nat.not_lt_zero _), below_new _ _⟩
  case round =>
    obtain ⟨i, o, hi, rfl, hown, hlen, hval, hbl⟩ := hrel
    have HV := Lib.hid hval
    have HL := Lib.hid hlen
    clear hval hlen
    by_cases hlt : i < l.length
    · obtain ⟨ba, offa, rfl, hba, hla⟩ := hra.at hlt
      obtain ⟨bb, offb, rfl, hbb, hlb⟩ := hrb.at (i := i) (by omega)
      obtain ⟨s1, a1, n1, k1, p0, p1, p2⟩ := hla i hlt
      obtain ⟨s2, a2, n2, k2, q0, q1, q2⟩ := hlb i (by omega)
      clear hla hlb hra hrb
      have i0 : (0 : Int) ≤ (i : Int) := by omega
      have i1 : (i : Int) < (l.length : Int) := by omega
      have i2 : (i : Int) < (m.length : Int) := by omega
      replace p0 := keepc hbl p0
      replace p1 := keepc hbl p1
      replace p2 := p2.up hbl
      replace q0 := keepc hbl q0
      replace q1 := keepc hbl q1
      replace q2 := q2.up hbl
      have hcall := hf i hlt
      clear hf
      go_upto_region 5 with fail
      go_region_held3 (fun w' => w'.cell? ⟨ba, offa + i * 2, none⟩ = some (.bool s1) ∧ w'.cell? ⟨ba, offa + i * 2 + 1, none⟩ = some (.slice a1 n1 k1) ∧ w'.cell? ⟨bb, offb + i * 2, none⟩ = some (.bool s2) ∧ w'.cell? ⟨bb, offb + i * 2 + 1, none⟩ = some (.slice a2 n2 k2))
        ((repeat' (first | with_reducible assumption | (with_reducible refine And.intro ?_ ?_) | (with_reducible refine cellD ?_) | (with_reducible refine cellN ?_ _) | (with_reducible refine cellS ?_ (by omega)) | (with_reducible refine keepc (by with_reducible assumption) ?_))))
        (first
          | (go_at_fn g; refine (hcall _ _ _ (by exact srch) (by exact srch) (by exact srch)).mono ?_; rintro e w2 ⟨r, rfl, hr, hb2⟩; obtain ⟨s3, a3, n3, k3, rfl⟩ := hr.shape; have hown2 := hown.drew.up hb2; obtain ⟨s4, a4, n4, k4, r0, r1, r2⟩ := hown2.cells (i := i) (by rw [HL.out]; exact hlt); have f0 := hown2.free (i * 2); have f1 := hown2.free (i * 2 + 1)))
      clear r0 r1 r2 f0 f1 p0 p1 p2 q0 q1 q2 hcall
      go_wp2_with fail
      go_roundw
      case rel =>
        refine ⟨i + 1, o.set i (F i), by omega, by go_num, hown2.set (by rw [HL.out]; exact hlt) hr, by rw [List.length_set]; exact HL.out, fun j hj => ?_, Below.setCell (Below.setCell (Bl.up (Bl.drew hbl) hb2) (Nat.le_refl _) _) (Nat.le_refl _) _⟩
        by_cases e : i = j
        · subst e; rw [getD_set_same (by rw [HL.out]; exact hlt)]
        · rw [getD_set_other e]; exact HV.out j (by omega)
      case measure => simp [intOf]; omega
    · have hin : i = l.length := by omega
      subst hin
      have hgl := hown.lt
      go_wp2_with fail
      go_ret
      have e : o = (List.range l.length).map F := row_ext (by rw [HL.out]; simp) (fun j hj => by rw [getD_map_range F (by rw [← HL.out]; exact hj), HV.out j (by rw [← HL.out]; exact hj)])
      rw [e] at hown
      have := hown.row (cap := l.length) (by simp)
      simp only [List.length_map, List.length_range] at this
      exact ⟨_, rfl, this, hbl, _, _, rfl⟩

theorem mix_any (va vb : Value) (l m : List Int) (g : Nat) (lb : Array Value) (F : Nat → Int) (w : World) (eg : ∀ args w, (callFunc g args).run Tryz.prog w = .ok (.enter g args) w)
    (ha : Rw w va l) (hb : Rw w vb m) (hlm : l.length ≤ m.length) (hN : l.length ≤ 1099511627776) (hf : Fn2 g lb w l m F) :
    Calls Tryz.prog 49 #[va, vb, .func (.func g) #[] lb] w fun e w' => ∃ v, e = .returned v ∧ Rw w' v ((List.range l.length).map F) ∧ Below w.heap.size w w' :=
  (mix_fresh va vb l m g lb F w eg ha hb hlm hN hf).mono fun _ _ ⟨v, h1, h2, h3, _⟩ => ⟨v, h1, h2, h3⟩
end Go.Proofs.YtdbpkoddfcdhdaaGreat

namespace Go.Proofs.YtdbpkoddfcdhdaaGreat
open Go.RowKit
attribute [local go_sem ↓] Go.wp_at_zero Go.wp_at_succ

theorem latof_any (n : Int) (w : World) (h1 : -9223372036854775808 ≤ n) (h2 : n ≤ 9223372036854775807) :
    Calls Tryz.prog 55 #[.int .i64 n] w fun e w' => ∃ v, e = .returned v ∧ It w' v n ∧ Below w.heap.size w w' := by
  go_enter Tryz.func55, Tryz.ntmps55
  go_wp2_with fail
  refine (intof_any n _ h1 h2).mono ?_
  rintro e w1 ⟨v, rfl, hv, hb⟩
  obtain ⟨s', a', n', cap', rfl⟩ := hv.shape
  have hb2 := (below_new w (.cells #[.bool false, .slice none 0 0] 56)).trans (hb.mono (by simp))
  have hx := (Vx.new0 (w := w) (T := 56) rfl).up hb
  clear hb
  obtain ⟨s, a, k, c, c0, c1, f0, f1, -⟩ := hx.cells
  go_wp2_with fail
  exact ret_vx (B := w.heap.size) rfl rfl rfl (Vx.put hx.va hv) (fun v hv => ⟨_, rfl, hv, Bl.st hb2 (Nat.le_refl _)⟩)

theorem floor_any (va vb : Value) (x y : Int) (w : World) (hx : It w va x) (hy : It w vb y) (hy0 : y ≠ 0) (hsx : sz x ≤ 1099511627776) (hsy : sz y ≤ 1099511627776) :
    Calls Tryz.prog 48 #[va, vb] w fun e w' => ∃ v, e = .returned v ∧ It w' v (x / y) ∧ Below w.heap.size w w' := by
  obtain ⟨W, s1, a1, n1, c1, s2, a2, n2, c2, rfl, rfl, hW, b, vX, vY, vR, hs, p0, p1, q0, q1, hx', hy'⟩ := boxes3 w hx hy
  clear hx hy
  go_enter Tryz.func48, Tryz.ntmps48
  go_wp2_with fail
  rw [← hW]
  clear hW
  refine (divmod_any _ _ x y W hx' hy' hy0 hsx hsy).mono ?_
  rintro e w1 ⟨vq, vr, rfl, hq, hr, hb1⟩
  have z1 := hb1.size
  rw [hs] at z1
  obtain ⟨sq, aq, nq, cq, rfl⟩ := hq.shape
  obtain ⟨sr, ar, nr, cr, rfl⟩ := hr.shape
  replace vR := vR.up hb1
  have hbw := Bl.up b hb1
  obtain ⟨s3, a3, n3, k3, g0, g1, g2, g3, -⟩ := vR.cells
  have t3 := vR.lt
  have t4 : w.heap.size + 1 + 1 ≤ w1.heap.size := Nat.le_of_lt t3
  have t5 : w.heap.size + 1 < w1.heap.size := t4
  clear p0 p1 q0 q1 vX vY hr
  go_wp2_with fail
  refine ret_vx (B := w.heap.size + 1 + 1) (z := x / y) rfl rfl rfl ?_ (fun v hv => ⟨v, rfl, hv, ?_⟩)
  all_goals exact srch

theorem exact_any (va vb : Value) (x y : Int) (w : World) (hx : It w va x) (hy : It w vb y) (hy0 : y ≠ 0) (hsx : sz x ≤ 1099511627776) (hsy : sz y ≤ 1099511627776) :
    Calls Tryz.prog 35 #[va, vb] w fun e w' => ∃ v, e = .returned v ∧ It w' v (x / y) ∧ Below w.heap.size w w' := by
  obtain ⟨W, s1, a1, n1, c1, s2, a2, n2, c2, rfl, rfl, hW, b, vX, vY, vR, hs, p0, p1, q0, q1, hx', hy'⟩ := boxes3 w hx hy
  clear hx hy
  go_enter Tryz.func35, Tryz.ntmps35
  go_wp2_with fail
  rw [← hW]
  clear hW
  refine (floor_any _ _ x y W hx' hy' hy0 hsx hsy).mono ?_
  rintro e w1 ⟨vq, rfl, hq, hb1⟩
  have z1 := hb1.size
  rw [hs] at z1
  obtain ⟨sq, aq, nq, cq, rfl⟩ := hq.shape
  replace vR := vR.up hb1
  have hbw := Bl.up b hb1
  obtain ⟨s3, a3, n3, k3, g0, g1, g2, g3, -⟩ := vR.cells
  have t3 := vR.lt
  have t4 : w.heap.size + 1 + 1 ≤ w1.heap.size := Nat.le_of_lt t3
  have t5 : w.heap.size + 1 < w1.heap.size := t4
  clear p0 p1 q0 q1 vX vY
  go_wp2_with fail
  refine ret_vx (B := w.heap.size + 1 + 1) (z := x / y) rfl rfl rfl ?_ (fun v hv => ⟨v, rfl, hv, ?_⟩)
  all_goals exact srch
end Go.Proofs.YtdbpkoddfcdhdaaGreat

namespace Go.Proofs.YtdbpkoddfcdhdaaGreat
open Go.RowKit
attribute [local go_sem ↓] Go.wp_at_zero Go.wp_at_succ

theorem less1_any (va vb : Value) (B : Nat) (x y q : Int) (w : World) (hx : It w va x) (hy : It w vb y) (hq : Vx w B q) (hsx : sz x ≤ 1099511627776) (hsy : sz y ≤ 274877906944) (hsq : sz q ≤ 274877906944) :
    Calls Tryz.prog 81 #[va, vb, .pointer (some ⟨B, 0, none⟩)] w fun e w' => ∃ r, e = .returned r ∧ It w' r (x - q * y) ∧ Below w.heap.size w w' := by
  obtain ⟨W, s1, a1, n1, c1, s2, a2, n2, c2, rfl, rfl, hW, b, vX, vY, vR, hs, p0, p1, q0, q1, hx', hy'⟩ := boxes3 w hx hy
  have hB := hq.lt
  replace hq := hq.up b
  clear hx hy
  have hsm : sz (q * y) ≤ 2199023255552 := Nat.le_trans (sz_mul _ _) (by omega)
  obtain ⟨sq, aq, nq, cq, r0, r1, -, -, hq'⟩ := hq.cells
  go_enter Tryz.func81, Tryz.ntmps81
  go_upto_region 1 with fail
  rw [← hW]
  clear hW
  go_region_held3 (fun w' => w'.cell? ⟨w.heap.size, 0, none⟩ = some (.bool s1) ∧ w'.cell? ⟨w.heap.size, 1, none⟩ = some (.slice a1 n1 c1) ∧ w'.cell? ⟨w.heap.size + 1, 0, none⟩ = some (.bool s2) ∧ w'.cell? ⟨w.heap.size + 1, 1, none⟩ = some (.slice a2 n2 c2) ∧ w'.cell? ⟨B, 0, none⟩ = some (.bool sq) ∧ w'.cell? ⟨B, 1, none⟩ = some (.slice aq nq cq))
    ((repeat' (first | with_reducible assumption | (with_reducible refine And.intro ?_ ?_) | (with_reducible refine cellD ?_) | (with_reducible refine cellN ?_ _) | (with_reducible refine cellS ?_ (by omega)) | (with_reducible refine keepc (by with_reducible assumption) ?_))))
    (first
      | (go_at_call 34; with_reducible (refine (mul_any _ _ q y _ (by exact srch) (by exact srch) (by exact Nat.le_trans hsq (by decide)) (by exact Nat.le_trans hsy (by decide))).mono ?_); rintro e w2 ⟨r, rfl, hv2, hb2⟩; obtain ⟨hc2, hf2⟩ := bcell hb2; have z2 := hb2.size; (try simp only [World.size_alloc, World.size_drew, World.size_setCell] at z2); (try have y2 := Nat.lt_of_succ_le z2); (try have x2 := Nat.lt_of_succ_le (Nat.le_of_succ_le z2)); obtain ⟨s3, a3, n3, c3, rfl⟩ := hv2.shape)
      | (go_at_call 59; with_reducible (refine (sub_any _ _ x (q * y) _ (by exact srch) (by exact srch) (by exact Nat.le_trans hsx (by decide)) (by exact hsm)).mono ?_); rintro e w3 ⟨r, rfl, hv3, hb3⟩; obtain ⟨hc3, hf3⟩ := bcell hb3; have z3 := hb3.size; (try simp only [World.size_alloc, World.size_drew, World.size_setCell] at z3); (try have y3 := Nat.lt_of_succ_le z3); (try have x3 := Nat.lt_of_succ_le (Nat.le_of_succ_le z3)); (try have y2_3 := Nat.lt_of_lt_of_le y2 z3); (try have x2_3 := Nat.lt_of_lt_of_le x2 z3); (try have y2_3 := Nat.lt_of_lt_of_le y2 (Nat.le_of_succ_le z3)); (try have x2_3 := Nat.lt_of_lt_of_le x2 (Nat.le_of_succ_le z3)); (try have y2_3 := Nat.lt_of_lt_of_le y2 (Nat.le_of_succ_le (Nat.le_of_succ_le z3))); (try have x2_3 := Nat.lt_of_lt_of_le x2 (Nat.le_of_succ_le (Nat.le_of_succ_le z3))); obtain ⟨s4, a4, n4, c4, rfl⟩ := hv3.shape; obtain ⟨sj, aj, nj, kj, j0, j1, j2, j3⟩ := Va.cells (show Va w3 (w.heap.size + 1 + 1) from Vx.va (z := 0) (by exact srch))))
  go_wp2_with fail
  refine ret_vx (B := w.heap.size + 1 + 1) (z := x - q * y) rfl rfl rfl ?_ (fun v hv => ⟨v, rfl, hv, ?_⟩)
  all_goals exact srch
/-- Two captured variables and three calls. -/
theorem red1_any (va vb : Value) (B C : Nat) (x y u v : Int) (w : World) (hx : It w va x) (hy : It w vb y) (hu : Vx w B u) (hv : Vx w C v) (hsx : sz x ≤ 274877906944) (hsy : sz y ≤ 274877906944) (hsu : sz u ≤ 274877906944) (hsv : sz v ≤ 274877906944) :
    Calls Tryz.prog 88 #[va, vb, .pointer (some ⟨B, 0, none⟩), .pointer (some ⟨C, 0, none⟩)] w fun e w' => ∃ r, e = .returned r ∧ It w' r (u * x + v * y) ∧ Below w.heap.size w w' := by
  obtain ⟨W, s1, a1, n1, c1, s2, a2, n2, c2, rfl, rfl, hW, b, vX, vY, vR, hs, p0, p1, q0, q1, hx', hy'⟩ := boxes3 w hx hy
  have hB := hu.lt
  have hC := hv.lt
  replace hu := hu.up b
  replace hv := hv.up b
  clear hx hy
  have hsm : sz (u * x) ≤ 2199023255552 := Nat.le_trans (sz_mul _ _) (by omega)
  have hsn : sz (v * y) ≤ 2199023255552 := Nat.le_trans (sz_mul _ _) (by omega)
  obtain ⟨su, au, nu, cu, r0, r1, -, -, hu'⟩ := hu.cells
  obtain ⟨sv, av, nv, cv, t0, t1, -, -, hv'⟩ := hv.cells
  go_enter Tryz.func88, Tryz.ntmps88
  go_upto_region 1 with fail
  rw [← hW]
  clear hW
  go_region_held3 (fun w' => w'.cell? ⟨w.heap.size, 0, none⟩ = some (.bool s1) ∧ w'.cell? ⟨w.heap.size, 1, none⟩ = some (.slice a1 n1 c1) ∧ w'.cell? ⟨w.heap.size + 1, 0, none⟩ = some (.bool s2) ∧ w'.cell? ⟨w.heap.size + 1, 1, none⟩ = some (.slice a2 n2 c2) ∧ w'.cell? ⟨B, 0, none⟩ = some (.bool su) ∧ w'.cell? ⟨B, 1, none⟩ = some (.slice au nu cu) ∧ w'.cell? ⟨C, 0, none⟩ = some (.bool sv) ∧ w'.cell? ⟨C, 1, none⟩ = some (.slice av nv cv))
    ((repeat' (first | with_reducible assumption | (with_reducible refine And.intro ?_ ?_) | (with_reducible refine cellD ?_) | (with_reducible refine cellN ?_ _) | (with_reducible refine cellS ?_ (by omega)) | (with_reducible refine keepc (by with_reducible assumption) ?_))))
    (first
      | (go_at_call_of 34 au; with_reducible (refine (mul_any _ _ u x _ (by exact srch) (by exact srch) (by exact Nat.le_trans hsu (by decide)) (by exact Nat.le_trans hsx (by decide))).mono ?_); rintro e w2 ⟨r, rfl, hv2, hb2⟩; obtain ⟨hc2, hf2⟩ := bcell hb2; have z2 := hb2.size; (try simp only [World.size_alloc, World.size_drew, World.size_setCell] at z2); (try have y2 := Nat.lt_of_succ_le z2); (try have x2 := Nat.lt_of_succ_le (Nat.le_of_succ_le z2)); obtain ⟨s3, a3, n3, c3, rfl⟩ := hv2.shape)
      | (go_at_call_of 34 av; with_reducible (refine (mul_any _ _ v y _ (by exact srch) (by exact srch) (by exact Nat.le_trans hsv (by decide)) (by exact Nat.le_trans hsy (by decide))).mono ?_); rintro e w3 ⟨r, rfl, hv3, hb3⟩; obtain ⟨hc3, hf3⟩ := bcell hb3; have z3 := hb3.size; (try simp only [World.size_alloc, World.size_drew, World.size_setCell] at z3); (try have y3 := Nat.lt_of_succ_le z3); (try have x3 := Nat.lt_of_succ_le (Nat.le_of_succ_le z3)); (try have y2_3 := Nat.lt_of_lt_of_le y2 z3); (try have x2_3 := Nat.lt_of_lt_of_le x2 z3); (try have y2_3 := Nat.lt_of_lt_of_le y2 (Nat.le_of_succ_le z3)); (try have x2_3 := Nat.lt_of_lt_of_le x2 (Nat.le_of_succ_le z3)); (try have y2_3 := Nat.lt_of_lt_of_le y2 (Nat.le_of_succ_le (Nat.le_of_succ_le z3))); (try have x2_3 := Nat.lt_of_lt_of_le x2 (Nat.le_of_succ_le (Nat.le_of_succ_le z3))); obtain ⟨s4, a4, n4, c4, rfl⟩ := hv3.shape)
      | (go_at_call 84; with_reducible (refine (add_any _ _ (u * x) (v * y) _ (by exact srch) (by exact srch) (by exact hsm) (by exact hsn)).mono ?_); rintro e w4 ⟨r, rfl, hv4, hb4⟩; obtain ⟨hc4, hf4⟩ := bcell hb4; have z4 := hb4.size; (try simp only [World.size_alloc, World.size_drew, World.size_setCell] at z4); (try have y4 := Nat.lt_of_succ_le z4); (try have x4 := Nat.lt_of_succ_le (Nat.le_of_succ_le z4)); (try have y3_4 := Nat.lt_of_lt_of_le y3 z4); (try have x3_4 := Nat.lt_of_lt_of_le x3 z4); (try have y3_4 := Nat.lt_of_lt_of_le y3 (Nat.le_of_succ_le z4)); (try have x3_4 := Nat.lt_of_lt_of_le x3 (Nat.le_of_succ_le z4)); (try have y3_4 := Nat.lt_of_lt_of_le y3 (Nat.le_of_succ_le (Nat.le_of_succ_le z4))); (try have x3_4 := Nat.lt_of_lt_of_le x3 (Nat.le_of_succ_le (Nat.le_of_succ_le z4))); obtain ⟨s5, a5, n5, c5, rfl⟩ := hv4.shape; obtain ⟨sj, aj, nj, kj, j0, j1, j2, j3⟩ := Va.cells (show Va w4 (w.heap.size + 1 + 1) from Vx.va (z := 0) (by exact srch))))
  go_wp2_with fail
  refine ret_vx (B := w.heap.size + 1 + 1) (z := u * x + v * y) rfl rfl rfl ?_ (fun v hv => ⟨v, rfl, hv, ?_⟩)
  all_goals exact srch

theorem red2_any (va vb : Value) (B C : Nat) (x y p q : Int) (w : World) (hx : It w va x) (hy : It w vb y) (hu : Vx w B p) (hv : Vx w C q) (hsx : sz x ≤ 274877906944) (hsy : sz y ≤ 274877906944) (hsu : sz p ≤ 274877906944) (hsv : sz q ≤ 274877906944) :
    Calls Tryz.prog 89 #[va, vb, .pointer (some ⟨B, 0, none⟩), .pointer (some ⟨C, 0, none⟩)] w fun e w' => ∃ r, e = .returned r ∧ It w' r (p * y - q * x) ∧ Below w.heap.size w w' := by
  obtain ⟨W, s1, a1, n1, c1, s2, a2, n2, c2, rfl, rfl, hW, b, vX, vY, vR, hs, p0, p1, q0, q1, hx', hy'⟩ := boxes3 w hx hy
  have hB := hu.lt
  have hC := hv.lt
  replace hu := hu.up b
  replace hv := hv.up b
  clear hx hy
  have hsm : sz (p * y) ≤ 2199023255552 := Nat.le_trans (sz_mul _ _) (by omega)
  have hsn : sz (q * x) ≤ 2199023255552 := Nat.le_trans (sz_mul _ _) (by omega)
  obtain ⟨su, au, nu, cu, r0, r1, -, -, hu'⟩ := hu.cells
  obtain ⟨sv, av, nv, cv, t0, t1, -, -, hv'⟩ := hv.cells
  go_enter Tryz.func89, Tryz.ntmps89
  go_upto_region 1 with fail
  rw [← hW]
  clear hW
  go_region_held3 (fun w' => w'.cell? ⟨w.heap.size, 0, none⟩ = some (.bool s1) ∧ w'.cell? ⟨w.heap.size, 1, none⟩ = some (.slice a1 n1 c1) ∧ w'.cell? ⟨w.heap.size + 1, 0, none⟩ = some (.bool s2) ∧ w'.cell? ⟨w.heap.size + 1, 1, none⟩ = some (.slice a2 n2 c2) ∧ w'.cell? ⟨B, 0, none⟩ = some (.bool su) ∧ w'.cell? ⟨B, 1, none⟩ = some (.slice au nu cu) ∧ w'.cell? ⟨C, 0, none⟩ = some (.bool sv) ∧ w'.cell? ⟨C, 1, none⟩ = some (.slice av nv cv))
    ((repeat' (first | with_reducible assumption | (with_reducible refine And.intro ?_ ?_) | (with_reducible refine cellD ?_) | (with_reducible refine cellN ?_ _) | (with_reducible refine cellS ?_ (by omega)) | (with_reducible refine keepc (by with_reducible assumption) ?_))))
    (first
      | (go_at_call_of 34 au; with_reducible (refine (mul_any _ _ p y _ (by exact srch) (by exact srch) (by exact Nat.le_trans hsu (by decide)) (by exact Nat.le_trans hsy (by decide))).mono ?_); rintro e w2 ⟨r, rfl, hv2, hb2⟩; obtain ⟨hc2, hf2⟩ := bcell hb2; have z2 := hb2.size; (try simp only [World.size_alloc, World.size_drew, World.size_setCell] at z2); (try have y2 := Nat.lt_of_succ_le z2); (try have x2 := Nat.lt_of_succ_le (Nat.le_of_succ_le z2)); obtain ⟨s3, a3, n3, c3, rfl⟩ := hv2.shape)
      | (go_at_call_of 34 av; with_reducible (refine (mul_any _ _ q x _ (by exact srch) (by exact srch) (by exact Nat.le_trans hsv (by decide)) (by exact Nat.le_trans hsx (by decide))).mono ?_); rintro e w3 ⟨r, rfl, hv3, hb3⟩; obtain ⟨hc3, hf3⟩ := bcell hb3; have z3 := hb3.size; (try simp only [World.size_alloc, World.size_drew, World.size_setCell] at z3); (try have y3 := Nat.lt_of_succ_le z3); (try have x3 := Nat.lt_of_succ_le (Nat.le_of_succ_le z3)); (try have y2_3 := Nat.lt_of_lt_of_le y2 z3); (try have x2_3 := Nat.lt_of_lt_of_le x2 z3); (try have y2_3 := Nat.lt_of_lt_of_le y2 (Nat.le_of_succ_le z3)); (try have x2_3 := Nat.lt_of_lt_of_le x2 (Nat.le_of_succ_le z3)); (try have y2_3 := Nat.lt_of_lt_of_le y2 (Nat.le_of_succ_le (Nat.le_of_succ_le z3))); (try have x2_3 := Nat.lt_of_lt_of_le x2 (Nat.le_of_succ_le (Nat.le_of_succ_le z3))); obtain ⟨s4, a4, n4, c4, rfl⟩ := hv3.shape)
      | (go_at_call 59; with_reducible (refine (sub_any _ _ (p * y) (q * x) _ (by exact srch) (by exact srch) (by exact hsm) (by exact hsn)).mono ?_); rintro e w4 ⟨r, rfl, hv4, hb4⟩; obtain ⟨hc4, hf4⟩ := bcell hb4; have z4 := hb4.size; (try simp only [World.size_alloc, World.size_drew, World.size_setCell] at z4); (try have y4 := Nat.lt_of_succ_le z4); (try have x4 := Nat.lt_of_succ_le (Nat.le_of_succ_le z4)); (try have y3_4 := Nat.lt_of_lt_of_le y3 z4); (try have x3_4 := Nat.lt_of_lt_of_le x3 z4); (try have y3_4 := Nat.lt_of_lt_of_le y3 (Nat.le_of_succ_le z4)); (try have x3_4 := Nat.lt_of_lt_of_le x3 (Nat.le_of_succ_le z4)); (try have y3_4 := Nat.lt_of_lt_of_le y3 (Nat.le_of_succ_le (Nat.le_of_succ_le z4))); (try have x3_4 := Nat.lt_of_lt_of_le x3 (Nat.le_of_succ_le (Nat.le_of_succ_le z4))); obtain ⟨s5, a5, n5, c5, rfl⟩ := hv4.shape; obtain ⟨sj, aj, nj, kj, j0, j1, j2, j3⟩ := Va.cells (show Va w4 (w.heap.size + 1 + 1) from Vx.va (z := 0) (by exact srch))))
  go_wp2_with fail
  refine ret_vx (B := w.heap.size + 1 + 1) (z := p * y - q * x) rfl rfl rfl ?_ (fun v hv => ⟨v, rfl, hv, ?_⟩)
  all_goals exact srch

theorem red3_any (va vb : Value) (x y : Int) (w : World) (hx : It w va x) (hy : It w vb y) (hsx : sz x ≤ 274877906944) :
    Calls Tryz.prog 90 #[va, vb] w fun e w' => ∃ r, e = .returned r ∧ It w' r (-x) ∧ Below w.heap.size w w' := by
  obtain ⟨W, s1, a1, n1, c1, s2, a2, n2, c2, rfl, rfl, hW, b, vX, vY, vR, hs, p0, p1, q0, q1, hx', hy'⟩ := boxes3 w hx hy
  clear hx hy
  go_enter Tryz.func90, Tryz.ntmps90
  go_wp2_with fail
  rw [← hW]
  clear hW
  refine (neg_any _ x W hx' (Nat.le_trans hsx (by decide))).mono ?_
  rintro e w1 ⟨vq, rfl, hq, hb1⟩
  have z1 := hb1.size
  rw [hs] at z1
  obtain ⟨sq, aq, nq, cq, rfl⟩ := hq.shape
  replace vR := vR.up hb1
  have hbw := Bl.up b hb1
  obtain ⟨s3, a3, n3, k3, g0, g1, g2, g3, -⟩ := vR.cells
  have t3 := vR.lt
  have t4 : w.heap.size + 1 + 1 ≤ w1.heap.size := Nat.le_of_lt t3
  have t5 : w.heap.size + 1 < w1.heap.size := t4
  clear p0 p1 q0 q1 vX vY
  go_wp2_with fail
  refine ret_vx (B := w.heap.size + 1 + 1) (z := -x) rfl rfl rfl ?_ (fun v hv => ⟨v, rfl, hv, ?_⟩)
  all_goals exact srch

theorem sol2_any (va vb : Value) (x y : Int) (w : World) (hx : It w va x) (hy : It w vb y) (hsx : sz x ≤ 274877906944) :
    Calls Tryz.prog 50 #[va, vb] w fun e w' => ∃ r, e = .returned r ∧ It w' r (-x) ∧ Below w.heap.size w w' := by
  obtain ⟨W, s1, a1, n1, c1, s2, a2, n2, c2, rfl, rfl, hW, b, vX, vY, vR, hs, p0, p1, q0, q1, hx', hy'⟩ := boxes3 w hx hy
  clear hx hy
  go_enter Tryz.func50, Tryz.ntmps50
  go_wp2_with fail
  rw [← hW]
  clear hW
  refine (neg_any _ x W hx' (Nat.le_trans hsx (by decide))).mono ?_
  rintro e w1 ⟨vq, rfl, hq, hb1⟩
  have z1 := hb1.size
  rw [hs] at z1
  obtain ⟨sq, aq, nq, cq, rfl⟩ := hq.shape
  replace vR := vR.up hb1
  have hbw := Bl.up b hb1
  obtain ⟨s3, a3, n3, k3, g0, g1, g2, g3, -⟩ := vR.cells
  have t3 := vR.lt
  have t4 : w.heap.size + 1 + 1 ≤ w1.heap.size := Nat.le_of_lt t3
  have t5 : w.heap.size + 1 < w1.heap.size := t4
  clear p0 p1 q0 q1 vX vY
  go_wp2_with fail
  refine ret_vx (B := w.heap.size + 1 + 1) (z := -x) rfl rfl rfl ?_ (fun v hv => ⟨v, rfl, hv, ?_⟩)
  all_goals exact srch

theorem less_any (va vb vq : Value) (l m : List Int) (q : Int) (w : World) (ha : Rw w va l) (hb : Rw w vb m) (hq : It w vq q) (hlm : l.length ≤ m.length) (hN : l.length ≤ 1099511627776)
    (hsl : ∀ i, i < l.length → sz (l.getD i 0) ≤ 1099511627776) (hsm : ∀ i, i < l.length → sz (m.getD i 0) ≤ 274877906944) (hsq : sz q ≤ 274877906944) :
    Calls Tryz.prog 47 #[va, vq, vb] w fun e w' => ∃ v, e = .returned v ∧ Rw w' v ((List.range l.length).map fun i => l.getD i 0 - q * m.getD i 0) ∧ Below w.heap.size w w' := by
  obtain ⟨s1, a1, n1, c1, rfl⟩ := hq.shape
  have hV := Vx.new (T := 56) rfl hq
  have hL := fun (g : Nat) (lb : Array Value) => mix_any va vb l m g lb (fun i => l.getD i 0 - q * m.getD i 0) (w.alloc (.cells #[.bool s1, .slice a1 n1 c1] 56))
  have hC := hL 81 #[.pointer (some ⟨w.heap.size, 0, none⟩)] (enters_of Tryz.func81 (by kernel_rfl) rfl) (ha.alloc _) (hb.alloc _) hlm hN
    (fun i hi W u v hbW hu hv => less1_any u v w.heap.size _ _ q W hu hv (hV.up hbW) (hsl i hi) (hsm i hi) hsq)
  clear hL
  go_enter Tryz.func47, Tryz.ntmps47
  go_wp2_with fail
  refine hC.mono ?_
  rintro e w1 ⟨v, rfl, hv, hb1⟩
  go_wp2_with fail
  go_ret
  exact ⟨v, rfl, hv, (below_new w _).trans (hb1.mono (by simp))⟩
end Go.Proofs.YtdbpkoddfcdhdaaGreat

namespace Go.Proofs.YtdbpkoddfcdhdaaGreat
open Go.RowKit
attribute [local go_sem ↓] Go.wp_at_zero Go.wp_at_succ

/-- The place of the first element of which p holds, or -1. -/
def idxI {α : Type} (p : α → Bool) (l : List α) : Int := if l.findIdx p < l.length then (l.findIdx p : Int) else -1

theorem idxI_hit {α : Type} {p : α → Bool} {l : List α} {d : α} {i : Nat} (hi : i < l.length) (h : p (l.getD i d) = true) (hn : ∀ j, j < i → p (l.getD j d) = false) : idxI p l = i := by
  have hg : l.getD i d = l[i] := by simp [List.getD_eq_getElem?_getD, hi]
  have : l.findIdx p = i := by
    rw [List.findIdx_eq hi]
    refine ⟨by rw [← hg]; exact h, fun j hj => ?_⟩
    have := hn j hj
    rw [List.getD_eq_getElem?_getD, List.getElem?_eq_getElem (by omega)] at this
    exact this
  unfold idxI
  rw [this, if_pos hi]

theorem idxI_miss {α : Type} {p : α → Bool} {l : List α} {d : α} (hn : ∀ j, j < l.length → p (l.getD j d) = false) : idxI p l = -1 := by
  unfold idxI
  rw [if_neg]
  intro h
  have h1 := List.findIdx_getElem (w := h)
  have := hn _ h
  rw [List.getD_eq_getElem?_getD, List.getElem?_eq_getElem h] at this
  simp only [Option.getD_some] at this
  rw [h1] at this
  cases this

theorem idxI_any {α : Type} (p : α → Bool) (l : List α) : decide (0 ≤ idxI p l) = l.any p := by
  unfold idxI
  rw [Bool.eq_iff_iff]
  simp only [decide_eq_true_eq, List.any_eq_true]
  rw [← List.findIdx_lt_length]
  split <;> simp_all

/-- What is asked of a function of an integer, at the elements of l. -/
def Fp1 (g : Nat) (lb : Array Value) (w : World) (l : List Int) (p : Int → Bool) : Prop :=
  ∀ i, i < l.length → ∀ (W : World) (v : Value), Below w.heap.size w W → It W v (l.getD i 0) →
    Calls Tryz.prog g (#[v] ++ lb) W fun e w' => e = .returned (.bool (p (l.getD i 0))) ∧ Below W.heap.size W w'

theorem Fp1.later {g : Nat} {lb : Array Value} {w W : World} {l : List Int} {p : Int → Bool} (h : Fp1 g lb w l p) (hb : Below w.heap.size w W) : Fp1 g lb W l p :=
  fun i hi W' v hb' hv => h i hi W' v (hb.trans (hb'.mono hb.size)) hv

set_option maxHeartbeats 1000000 in
theorem idx1_any (va : Value) (l : List Int) (g : Nat) (lb : Array Value) (p : Int → Bool) (w : World) (eg : ∀ args w, (callFunc g args).run Tryz.prog w = .ok (.enter g args) w)
    (ha : Rw w va l) (hN : l.length ≤ 1099511627776) (hf : Fp1 g lb w l p) :
    Calls Tryz.prog 44 #[va, .func (.func g) #[] lb] w fun e w' => e = .returned (.int .i64 (idxI p l)) ∧ Below w.heap.size w w' := by
  obtain ⟨a, ca, rfl, hca, hra⟩ := ha
  go_enter Tryz.func44, Tryz.ntmps44
  go_wp2_with fail
  go_loopw [5, 8] (fun s5 s wr => ∃ (i : Nat), i ≤ l.length ∧ s = .int .i64 i ∧ (∀ j, j < i → p (l.getD j 0) = false) ∧ Below w.heap.size w wr)
    (fun _ s _ => l.length - (intOf s).toNat)
  case atStart => exact ⟨0, Nat.zero_le _, rfl, fun j hj => absurd hj (Nat.not_lt_zero _), Below.refl _ _⟩
  case round =>
    obtain ⟨i, hi, rfl, hval, hbl⟩ := hrel
    have HV := Lib.hid hval
    clear hval
    by_cases hlt : i < l.length
    · obtain ⟨ba, offa, rfl, hba, hla⟩ := hra.at hlt
      obtain ⟨s1, a1, n1, k1, p0, p1, p2⟩ := hla i hlt
      clear hla hra
      replace p0 := keepc hbl p0
      replace p1 := keepc hbl p1
      replace p2 := p2.up hbl
      have hcall := hf i hlt _ _ hbl p2
      clear hf p2
      cases hq : p (l.getD i 0) with
      | true =>
        rw [hq] at hcall
        have HQ := Lib.hid hq
        clear hq
        go_wp2_with (go_at_fn g; refine hcall.mono ?_; rintro e w2 ⟨rfl, hb2⟩)
        go_ret
        exact ⟨ret_of (by rw [idxI_hit (d := 0) hlt HQ.out HV.out]; rfl), Bl.up hbl hb2⟩
      | false =>
        rw [hq] at hcall
        have HQ := Lib.hid hq
        clear hq
        go_wp2_with (go_at_fn g; refine hcall.mono ?_; rintro e w2 ⟨rfl, hb2⟩)
        go_roundw
        case rel =>
          refine ⟨i + 1, by omega, by go_num, fun j hj => ?_, Bl.up hbl hb2⟩
          by_cases e : j = i
          · subst e; exact HQ.out
          · exact HV.out j (by omega)
        case measure => simp [intOf]; omega
    · have hin : i = l.length := by omega
      subst hin
      go_wp2_with fail
      go_ret
      exact ⟨ret_of (by rw [idxI_miss (d := 0) HV.out]; rfl), hbl⟩

theorem has1_any (va : Value) (l : List Int) (g : Nat) (lb : Array Value) (p : Int → Bool) (w : World) (eg : ∀ args w, (callFunc g args).run Tryz.prog w = .ok (.enter g args) w)
    (ha : Rw w va l) (hN : l.length ≤ 1099511627776) (hf : Fp1 g lb w l p) :
    Calls Tryz.prog 79 #[va, .func (.func g) #[] lb] w fun e w' => e = .returned (.bool (l.any p)) ∧ Below w.heap.size w w' := by
  rw [← idxI_any]
  go_enter Tryz.func79, Tryz.ntmps79
  go_wp2_with fail
  refine (idx1_any va l g lb p w eg ha hN hf).mono ?_
  rintro e w1 ⟨rfl, hb⟩
  go_wp2_with fail
  go_ret
  exact ⟨rfl, hb⟩

/-- What is asked of a function of a row, at the rows of m. -/
def Fp2 (g : Nat) (lb : Array Value) (w : World) (m : List (List Int)) (p : List Int → Bool) : Prop :=
  ∀ i, i < m.length → ∀ (W : World) (v : Value), Below w.heap.size w W → Rw W v (m.getD i []) →
    Calls Tryz.prog g (#[v] ++ lb) W fun e w' => e = .returned (.bool (p (m.getD i []))) ∧ Below W.heap.size W w'

set_option maxHeartbeats 1000000 in
theorem idx2_any (va : Value) (m : List (List Int)) (g : Nat) (lb : Array Value) (p : List Int → Bool) (w : World) (eg : ∀ args w, (callFunc g args).run Tryz.prog w = .ok (.enter g args) w)
    (ha : Mx w va m) (hN : m.length ≤ 1099511627776) (hf : Fp2 g lb w m p) :
    Calls Tryz.prog 56 #[va, .func (.func g) #[] lb] w fun e w' => e = .returned (.int .i64 (idxI p m)) ∧ Below w.heap.size w w' := by
  obtain ⟨a, ca, rfl, hca, hra⟩ := ha
  go_enter Tryz.func56, Tryz.ntmps56
  go_wp2_with fail
  go_loopw [5, 8] (fun s5 s wr => ∃ (i : Nat), i ≤ m.length ∧ s = .int .i64 i ∧ (∀ j, j < i → p (m.getD j []) = false) ∧ Below w.heap.size w wr)
    (fun _ s _ => m.length - (intOf s).toNat)
  case atStart => exact ⟨0, Nat.zero_le _, rfl, fun j hj => absurd hj (Nat.not_lt_zero _), Below.refl _ _⟩
  case round =>
    obtain ⟨i, hi, rfl, hval, hbl⟩ := hrel
    have HV := Lib.hid hval
    clear hval
    by_cases hlt : i < m.length
    · obtain ⟨ba, offa, rfl, hba, hla⟩ := hra.at hlt
      obtain ⟨c1, k1, p0, p2⟩ := hla i hlt
      clear hla hra
      replace p0 := keepc hbl p0
      replace p2 := p2.up hbl
      have hcall := hf i hlt _ _ hbl p2
      clear hf p2
      obtain ⟨rr, hrr⟩ : ∃ rr, rr = m.getD i [] := ⟨_, rfl⟩
      rw [← hrr] at p0 hcall
      replace hrr := Lib.hid hrr
      cases hq : p rr with
      | true =>
        rw [hq] at hcall
        have HQ := Lib.hid hq
        clear hq
        go_wp2_with (go_at_fn g; refine hcall.mono ?_; rintro e w2 ⟨rfl, hb2⟩)
        go_ret
        exact ⟨ret_of (by rw [idxI_hit (d := []) hlt (by rw [← hrr.out]; exact HQ.out) HV.out]; rfl), Bl.up hbl hb2⟩
      | false =>
        rw [hq] at hcall
        have HQ := Lib.hid hq
        clear hq
        go_wp2_with (go_at_fn g; refine hcall.mono ?_; rintro e w2 ⟨rfl, hb2⟩)
        go_roundw
        case rel =>
          refine ⟨i + 1, by omega, by go_num, fun j hj => ?_, Bl.up hbl hb2⟩
          by_cases e : j = i
          · subst e; rw [← hrr.out]; exact HQ.out
          · exact HV.out j (by omega)
        case measure => simp [intOf]; omega
    · have hin : i = m.length := by omega
      subst hin
      go_wp2_with fail
      go_ret
      exact ⟨ret_of (by rw [idxI_miss (d := []) HV.out]; rfl), hbl⟩

theorem has2_any (va : Value) (m : List (List Int)) (g : Nat) (lb : Array Value) (p : List Int → Bool) (w : World) (eg : ∀ args w, (callFunc g args).run Tryz.prog w = .ok (.enter g args) w)
    (ha : Mx w va m) (hN : m.length ≤ 1099511627776) (hf : Fp2 g lb w m p) :
    Calls Tryz.prog 65 #[va, .func (.func g) #[] lb] w fun e w' => e = .returned (.bool (m.any p)) ∧ Below w.heap.size w w' := by
  rw [← idxI_any]
  go_enter Tryz.func65, Tryz.ntmps65
  go_wp2_with fail
  refine (idx2_any va m g lb p w eg ha hN hf).mono ?_
  rintro e w1 ⟨rfl, hb⟩
  go_wp2_with fail
  go_ret
  exact ⟨rfl, hb⟩

/-- x is not 0. -/
def nz (x : Int) : Bool := !decide (x = 0)

theorem nz_cmp (x : Int) : (cmpI x 0 != 0) = nz x := by
  unfold nz
  rw [Bool.eq_iff_iff]
  simp [bne_iff_ne, cmpI_zero]

theorem zero1_any (va : Value) (x : Int) (w : World) (hx : It w va x) :
    Calls Tryz.prog 80 #[va] w fun e w' => e = .returned (.bool (nz x)) ∧ Below w.heap.size w w' := by
  obtain ⟨s, a, n, c, rfl⟩ := hx.shape
  rw [← nz_cmp]
  go_enter Tryz.func80, Tryz.ntmps80
  go_wp2_with fail
  refine (sign_any _ x _ (hx.alloc _)).mono ?_
  rintro e w1 ⟨rfl, hb⟩
  go_wp2_with fail
  go_ret
  exact ⟨rfl, (below_new w _).trans (hb.mono (by simp))⟩

theorem sol1_any (va : Value) (x : Int) (w : World) (hx : It w va x) :
    Calls Tryz.prog 45 #[va] w fun e w' => e = .returned (.bool (nz x)) ∧ Below w.heap.size w w' := by
  obtain ⟨s, a, n, c, rfl⟩ := hx.shape
  rw [← nz_cmp]
  go_enter Tryz.func45, Tryz.ntmps45
  go_wp2_with fail
  refine (sign_any _ x _ (hx.alloc _)).mono ?_
  rintro e w1 ⟨rfl, hb⟩
  go_wp2_with fail
  go_ret
  exact ⟨rfl, (below_new w _).trans (hb.mono (by simp))⟩

theorem zero_any (va : Value) (l : List Int) (w : World) (ha : Rw w va l) (hN : l.length ≤ 1099511627776) :
    Calls Tryz.prog 42 #[va] w fun e w' => e = .returned (.bool (!l.any nz)) ∧ Below w.heap.size w w' := by
  have hc := has1_any va l 80 #[] nz w (enters_of Tryz.func80 (by kernel_rfl) rfl) ha hN (fun i hi W v hb hv => zero1_any v _ W hv)
  go_enter Tryz.func42, Tryz.ntmps42
  go_wp2_with fail
  refine hc.mono ?_
  rintro e w1 ⟨rfl, hb⟩
  go_wp2_with fail
  go_ret
  exact ⟨rfl, hb⟩
end Go.Proofs.YtdbpkoddfcdhdaaGreat

namespace Go.Proofs.YtdbpkoddfcdhdaaGreat
open Go.RowKit
attribute [local go_sem ↓] Go.wp_at_zero Go.wp_at_succ

theorem mat_ext {m m' : List (List Int)} (h : m.length = m'.length) (h' : ∀ i, i < m.length → m.getD i [] = m'.getD i []) : m = m' := by
  refine List.ext_getElem h fun i h1 h2 => ?_
  have := h' i h1
  simpa [List.getD_eq_getElem?_getD, h1, h2] using this
theorem mgetD_set_same {l : List (List Int)} {i : Nat} (h : i < l.length) (z : List Int) : (l.set i z).getD i [] = z := by simp [List.getD_eq_getElem?_getD, h]
theorem mgetD_set_other {l : List (List Int)} {i j : Nat} (h : i ≠ j) (z : List Int) : (l.set i z).getD j [] = l.getD j [] := by simp [List.getD_eq_getElem?_getD, h]

set_option maxHeartbeats 2000000 in
theorem copied_any (v : Value) (m : List (List Int)) (w : World) (h : Mx w v m) (hN : m.length ≤ 1099511627776) (hrow : ∀ i, i < m.length → (m.getD i []).length ≤ 1099511627776) :
    Calls Tryz.prog 54 #[v] w fun e w' => ∃ g, e = .returned (.slice (some ⟨g, 0, none⟩) m.length m.length) ∧ w.heap.size ≤ g ∧ Om w' g m ∧ Below w.heap.size w w' := by
  obtain ⟨a, ca, rfl, hca, hra⟩ := h
  have hmk := mk_mat (m.length : Int) m.length rfl hN
  go_enter Tryz.func54, Tryz.ntmps54
  go_wp2_with fail
  clear hmk
  go_loopw [4, 10] (fun s4 s wr => ∃ (i : Nat) (o : List (List Int)), i ≤ m.length ∧ s = .int .i64 i ∧ Om wr w.heap.size o ∧ o.length = m.length ∧ (∀ j, j < i → o.getD j [] = m.getD j []) ∧ Below w.heap.size w wr)
    (fun _ s _ => m.length - (intOf s).toNat)
  case atStart =>
    exact ⟨0, List.replicate m.length [], Nat.zero_le _, rfl, Om.zeros w _, by simp, fun j hj => absurd hj (Nat.not_lt_zero _), below_new _ _⟩
  case round =>
    obtain ⟨i, o, hi, rfl, hown, hlen, hval, hbl⟩ := hrel
    have HV := Lib.hid hval
    have HL := Lib.hid hlen
    have hil : i < m.length → i < o.length := fun h => by rw [hlen]; exact h
    clear hval hlen
    by_cases hlt : i < m.length
    · obtain ⟨ba, offa, rfl, hba, hla⟩ := hra.at hlt
      obtain ⟨c1, k1, p0, p1⟩ := hla i hlt
      have hil' := hil hlt
      have hn := hrow i hlt
      clear hla hra hil hrow
      replace p0 := keepc hbl p0
      replace p1 := p1.up hbl
      obtain ⟨rr, hrr⟩ : ∃ rr, rr = m.getD i [] := ⟨_, rfl⟩
      rw [← hrr] at p0 p1 hn
      replace hrr := Lib.hid hrr
      have hmk := mk_row (rr.length : Int) rr.length rfl hn
      have i0 : (0 : Int) ≤ (i : Int) := by omega
      have i1 : (i : Int) < (m.length : Int) := by omega
      have hsl := hown.sl
      have hglt := hown.lt
      obtain ⟨c2, k2, q0, q1⟩ := hown.cells hil'
      have f0 := hown.free i
      clear q1
      go_upto_region 6 with fail
      obtain ⟨W1, hW1⟩ : ∃ W1, W1 = (wr.setCell ⟨w.heap.size, i, none⟩ (.slice (some ⟨wr.heap.size, 0, none⟩) rr.length rr.length)).alloc (.cells (madeCells #[.bool false, .slice none 0 0] (rr.length * 2)) 56) := ⟨_, rfl⟩
      rw [← hW1]
      have hO : Ow W1 wr.heap.size (List.replicate rr.length 0) := by rw [hW1]; have := Ow.zeros (wr.setCell ⟨w.heap.size, i, none⟩ (.slice (some ⟨wr.heap.size, 0, none⟩) rr.length rr.length)) rr.length; rw [World.size_setCell] at this; exact this
      have hbut : But w.heap.size wr W1 := by rw [hW1]; exact ((But.refl _ _).set _ _).alloc _
      have hput : PutAt w.heap.size i (.slice (some ⟨wr.heap.size, 0, none⟩) rr.length rr.length) wr W1 := by rw [hW1]; exact (PutAt.set hown.block rfl _).up (Below.heap_alloc _ _ _ (by simpa using hglt))
      have hbl1 : Below w.heap.size w W1 := by rw [hW1]; exact Bl.alloc (hbl.setCell (Nat.le_refl _) _) _
      have r0 : W1.cell? ⟨w.heap.size, i, none⟩ = some (.slice (some ⟨wr.heap.size, 0, none⟩) rr.length rr.length) := by rw [hW1]; exact cellN (World.cell?_setCell_same _ _ _ q0) _
      have r1 : W1.cell? ⟨ba, offa + i, none⟩ = some (.slice c1 rr.length k1) := by rw [hW1]; exact cellN (cellS p0 (by omega)) _
      have r2 : Rw W1 (.slice c1 rr.length k1) rr := p1.but hsl hbut
      have hz1 : W1.heap.size = wr.heap.size + 1 := by rw [hW1]; simp
      clear hW1 q0 f0 p0 p1 hmk
      go_region_held3 (fun w' => w'.cell? ⟨w.heap.size, i, none⟩ = some (.slice (some ⟨wr.heap.size, 0, none⟩) rr.length rr.length) ∧ w'.cell? ⟨ba, offa + i, none⟩ = some (.slice c1 rr.length k1))
        ((repeat' (first | with_reducible assumption | (with_reducible refine And.intro ?_ ?_) | (with_reducible refine cellD ?_) | (with_reducible refine cellN ?_ _) | (with_reducible refine cellS ?_ (by omega)) | (with_reducible refine keepc (by with_reducible assumption) ?_))))
        ((refine step_copyR (by rfl) (.tmp 25) (.tmp 29) _ _ (by rfl) Tryz.underlying36 wr.heap.size rr.length k1 c1 (List.replicate rr.length 0) rr rr.length (by simp) (by rfl) (by rfl) hO.drew r2.drew (by simp) ?_; intro w2 ho hk hs hB; have hb2 : Below wr.heap.size W1.drew w2 := hB _ _ (Below.refl _ _) (Nat.le_refl _); have s0 := (World.cell?_of_block (a := ⟨w.heap.size, i, none⟩) (hk w.heap.size (by omega))).trans r0; have s1 := (World.cell?_of_block (a := ⟨ba, offa + i, none⟩) (hk _ (by show ba ≠ _; omega))).trans r1))
      clear r0 r1 r2 s0 s1 hO hB hk
      rw [show rr ++ List.drop rr.length (List.replicate rr.length 0) = rr by simp] at ho
      go_wp2_with fail
      go_roundw
      case rel =>
        refine ⟨i + 1, o.set i rr, by omega, by go_num, hown.put hil' (hbut.drew.upB hb2) (PutAt.up (w1 := W1) hput (hb2.block _ hglt)) (ho.row (Nat.le_refl _)), by rw [List.length_set]; exact HL.out, fun j hj => ?_, (Bl.drew hbl1).trans (hb2.mono (Nat.le_of_lt hglt))⟩
        by_cases e : i = j
        · subst e; rw [mgetD_set_same hil', hrr.out]
        · rw [mgetD_set_other e]; exact HV.out j (by omega)
      case measure => simp [intOf]; omega
    · have hin : i = m.length := by omega
      subst hin
      go_wp2_with fail
      go_ret
      have e : o = m := mat_ext HL.out (fun j hj => HV.out j (by rw [← HL.out]; exact hj))
      rw [e] at hown
      exact ⟨_, rfl, Nat.le_refl _, hown, hbl⟩
end Go.Proofs.YtdbpkoddfcdhdaaGreat
