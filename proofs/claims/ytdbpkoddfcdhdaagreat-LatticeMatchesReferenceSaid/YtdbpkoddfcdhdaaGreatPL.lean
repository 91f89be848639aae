/-
  The functions that lattice.Det hands over.
  lattice.Det, lattice.Index
  lattice.Det where it refuses or has no rows, lattice.Index.
-/
import Derived.IntWalk
import Derived.Test.YtdbpkoddfcdhdaaGreatPK
import Derived.Test.YtdbpkoddfcdhdaaGreatPH
import Derived.Test.YtdbpkoddfcdhdaaGreatPJ
set_option linter.unusedSimpArgs false
set_option linter.unusedVariables false

namespace Go.Proofs.YtdbpkoddfcdhdaaGreat
open Go.RowKit
attribute [local go_sem ↓] Go.wp_at_zero Go.wp_at_succ

theorem det1_any (v : Value) (l : List Int) (B k : Nat) (w : World) (h : Rw w v l) (hB : w.cell? ⟨B, 0, none⟩ = some (.int .i64 (k : Int))) (hk : k < l.length) (hl : l.length ≤ 1099511627776) :
    Calls Tryz.prog 57 #[v, .pointer (some ⟨B, 0, none⟩)] w fun e w' => e = .returned (.bool (nz (l.getD k 0))) ∧ Below w.heap.size w w' := by
  obtain ⟨b, off, cap, rfl⟩ := h.some (by omega)
  obtain ⟨-, -, s, c, n, q, x0, x1, x2⟩ := h.elem hk
  generalize hz : l.getD k 0 = z at x2 ⊢
  clear hz
  rw [← nz_cmp]
  have k0 : (0 : Int) ≤ (k : Int) := by omega
  have k1 : (k : Int) < (l.length : Int) := by omega
  go_enter Tryz.func57, Tryz.ntmps57
  go_wp2_with fail
  refine (sign_any _ _ _ x2).mono ?_
  rintro e w1 ⟨rfl, hb⟩
  go_wp2_with fail
  go_ret
  exact ⟨rfl, hb⟩

/-- x A - y B, divided. -/
def elim (u p x v d : Int) : Int := (u * p - x * v) / d

theorem det2_any (va vb : Value) (Ba Bk Bx Bd g R cap k b off cb N : Nat) (u v p x d : Int) (w : World) (hu : It w va u) (hv : It w vb v) (hx : Vx w Bx x) (hd : Vx w Bd d)
    (ha : w.cell? ⟨Ba, 0, none⟩ = some (.slice (some ⟨g, 0, none⟩) R cap)) (hk : w.cell? ⟨Bk, 0, none⟩ = some (.int .i64 (k : Int))) (hkR : k < R) (hkN : k < N) (hR : R ≤ 1099511627776) (hN : N ≤ 1099511627776)
    (hr : w.cell? ⟨g, k, none⟩ = some (.slice (some ⟨b, off, none⟩) N cb)) (s : Bool) (c : Option Addr) (n q : Nat) (y0 : w.cell? ⟨b, off + k * 2, none⟩ = some (.bool s)) (y1 : w.cell? ⟨b, off + k * 2 + 1, none⟩ = some (.slice c n q)) (y2 : It w (.agg #[.bool s, .slice c n q]) p)
    (hsu : sz u ≤ 137438953472) (hsv : sz v ≤ 137438953472) (hsp : sz p ≤ 137438953472) (hsx : sz x ≤ 137438953472) (hsd : sz d ≤ 137438953472) (hd0 : d ≠ 0) :
    Calls Tryz.prog 58 #[va, vb, .pointer (some ⟨Ba, 0, none⟩), .pointer (some ⟨Bk, 0, none⟩), .pointer (some ⟨Bx, 0, none⟩), .pointer (some ⟨Bd, 0, none⟩)] w fun e w' => ∃ r, e = .returned r ∧ It w' r (elim u p x v d) ∧ Below w.heap.size w w' := by
  show Calls _ _ _ _ fun e w' => ∃ r, e = .returned r ∧ It w' r ((u * p - x * v) / d) ∧ Below w.heap.size w w'
  obtain ⟨W, s1, a1, n1, c1, s2, a2, n2, c2, rfl, rfl, hW, hb, vX, vY, vR, hs, p0, p1, q0, q1, hu', hv'⟩ := boxes3 w hu hv
  have lBx := hx.lt
  have lBd := hd.lt
  have lBa := World.block_lt_of_cell? w ⟨Ba, 0, none⟩ ha
  have lBk := World.block_lt_of_cell? w ⟨Bk, 0, none⟩ hk
  have lg := World.block_lt_of_cell? w ⟨g, k, none⟩ hr
  have lb := World.block_lt_of_cell? w ⟨b, off + k * 2, none⟩ y0
  replace hx := hx.up hb
  replace hd := hd.up hb
  replace ha := keepc hb ha
  replace hk := keepc hb hk
  replace hr := keepc hb hr
  replace y0 := keepc hb y0
  replace y1 := keepc hb y1
  replace y2 := y2.up hb
  clear hu hv
  have hm1 : sz (u * p) ≤ 274877906944 := Nat.le_trans (sz_mul _ _) (by omega)
  have hm2 : sz (x * v) ≤ 274877906944 := Nat.le_trans (sz_mul _ _) (by omega)
  have hm3 : sz (u * p - x * v) ≤ 1099511627776 := Nat.le_trans (sz_sub _ _) (by omega)
  obtain ⟨sx, ax, nx, cx, r0, r1, -, -, hx'⟩ := hx.cells
  obtain ⟨sd, ad, nd, cd, t0, t1, -, -, hd'⟩ := hd.cells
  have k0 : (0 : Int) ≤ (k : Int) := by omega
  have k1 : (k : Int) < (R : Int) := by omega
  have k2 : (k : Int) < (N : Int) := by omega
  go_enter Tryz.func58, Tryz.ntmps58
  go_upto_region 1 with fail
  rw [← hW]
  clear hW
  go_region_held3 (fun w' => w'.cell? ⟨w.heap.size, 0, none⟩ = some (.bool s1) ∧ w'.cell? ⟨w.heap.size, 1, none⟩ = some (.slice a1 n1 c1) ∧ w'.cell? ⟨w.heap.size + 1, 0, none⟩ = some (.bool s2) ∧ w'.cell? ⟨w.heap.size + 1, 1, none⟩ = some (.slice a2 n2 c2) ∧ w'.cell? ⟨Bx, 0, none⟩ = some (.bool sx) ∧ w'.cell? ⟨Bx, 1, none⟩ = some (.slice ax nx cx) ∧ w'.cell? ⟨Bd, 0, none⟩ = some (.bool sd) ∧ w'.cell? ⟨Bd, 1, none⟩ = some (.slice ad nd cd) ∧
      w'.cell? ⟨Ba, 0, none⟩ = some (.slice (some ⟨g, 0, none⟩) R cap) ∧ w'.cell? ⟨Bk, 0, none⟩ = some (.int .i64 (k : Int)) ∧ w'.cell? ⟨g, k, none⟩ = some (.slice (some ⟨b, off, none⟩) N cb) ∧ w'.cell? ⟨b, off + k * 2, none⟩ = some (.bool s) ∧ w'.cell? ⟨b, off + k * 2 + 1, none⟩ = some (.slice c n q))
    ((repeat' (first | with_reducible assumption | (with_reducible refine And.intro ?_ ?_) | (with_reducible refine cellD ?_) | (with_reducible refine cellN ?_ _) | (with_reducible refine cellS ?_ (by omega)) | (with_reducible refine keepc (by with_reducible assumption) ?_))))
    (first
      | (go_at_call_of 34 c; with_reducible (refine (mul_any _ _ u p _ (by exact srch) (by exact srch) (by exact Nat.le_trans hsu (by decide)) (by exact Nat.le_trans hsp (by decide))).mono ?_); rintro e w2 ⟨r, rfl, hv2, hb2⟩; obtain ⟨hc2, hf2⟩ := bcell hb2; have z2 := hb2.size; (try simp only [World.size_alloc, World.size_drew, World.size_setCell] at z2); (try have y2 := Nat.lt_of_succ_le z2); (try have x2 := Nat.lt_of_succ_le (Nat.le_of_succ_le z2)); obtain ⟨s3, a3, n3, c3, rfl⟩ := hv2.shape)
      | (go_at_call_of 34 ax; with_reducible (refine (mul_any _ _ x v _ (by exact srch) (by exact srch) (by exact Nat.le_trans hsx (by decide)) (by exact Nat.le_trans hsv (by decide))).mono ?_); rintro e w3 ⟨r, rfl, hv3, hb3⟩; obtain ⟨hc3, hf3⟩ := bcell hb3; have z3 := hb3.size; (try simp only [World.size_alloc, World.size_drew, World.size_setCell] at z3); (try have y3 := Nat.lt_of_succ_le z3); (try have x3 := Nat.lt_of_succ_le (Nat.le_of_succ_le z3)); (try have y2_3 := Nat.lt_of_lt_of_le y2 z3); (try have x2_3 := Nat.lt_of_lt_of_le x2 z3); (try have y2_3 := Nat.lt_of_lt_of_le y2 (Nat.le_of_succ_le z3)); (try have x2_3 := Nat.lt_of_lt_of_le x2 (Nat.le_of_succ_le z3)); (try have y2_3 := Nat.lt_of_lt_of_le y2 (Nat.le_of_succ_le (Nat.le_of_succ_le z3))); (try have x2_3 := Nat.lt_of_lt_of_le x2 (Nat.le_of_succ_le (Nat.le_of_succ_le z3))); obtain ⟨s4, a4, n4, c4, rfl⟩ := hv3.shape)
      | (go_at_call 59; with_reducible (refine (sub_any _ _ (u * p) (x * v) _ (by exact srch) (by exact srch) (by exact Nat.le_trans hm1 (by decide)) (by exact Nat.le_trans hm2 (by decide))).mono ?_); rintro e w4 ⟨r, rfl, hv4, hb4⟩; obtain ⟨hc4, hf4⟩ := bcell hb4; have z4 := hb4.size; (try simp only [World.size_alloc, World.size_drew, World.size_setCell] at z4); (try have y4 := Nat.lt_of_succ_le z4); (try have x4 := Nat.lt_of_succ_le (Nat.le_of_succ_le z4)); (try have y3_4 := Nat.lt_of_lt_of_le y3 z4); (try have x3_4 := Nat.lt_of_lt_of_le x3 z4); (try have y3_4 := Nat.lt_of_lt_of_le y3 (Nat.le_of_succ_le z4)); (try have x3_4 := Nat.lt_of_lt_of_le x3 (Nat.le_of_succ_le z4)); (try have y3_4 := Nat.lt_of_lt_of_le y3 (Nat.le_of_succ_le (Nat.le_of_succ_le z4))); (try have x3_4 := Nat.lt_of_lt_of_le x3 (Nat.le_of_succ_le (Nat.le_of_succ_le z4))); obtain ⟨s5, a5, n5, c5, rfl⟩ := hv4.shape)
      | (go_at_call 35; with_reducible (refine (exact_any _ _ (u * p - x * v) d _ (by exact srch) (by exact srch) (by exact hd0) (by exact hm3) (by exact Nat.le_trans hsd (by decide))).mono ?_); rintro e w5 ⟨r, rfl, hv5, hb5⟩; obtain ⟨hc5, hf5⟩ := bcell hb5; have z5 := hb5.size; (try simp only [World.size_alloc, World.size_drew, World.size_setCell] at z5); (try have y5 := Nat.lt_of_succ_le z5); (try have x5 := Nat.lt_of_succ_le (Nat.le_of_succ_le z5)); (try have y4_5 := Nat.lt_of_lt_of_le y4 z5); (try have x4_5 := Nat.lt_of_lt_of_le x4 z5); (try have y4_5 := Nat.lt_of_lt_of_le y4 (Nat.le_of_succ_le z5)); (try have x4_5 := Nat.lt_of_lt_of_le x4 (Nat.le_of_succ_le z5)); (try have y4_5 := Nat.lt_of_lt_of_le y4 (Nat.le_of_succ_le (Nat.le_of_succ_le z5))); (try have x4_5 := Nat.lt_of_lt_of_le x4 (Nat.le_of_succ_le (Nat.le_of_succ_le z5))); obtain ⟨s6, a6, n6, c6, rfl⟩ := hv5.shape; obtain ⟨sj, aj, nj, kj, j0, j1, j2, j3⟩ := Va.cells (show Va w5 (w.heap.size + 1 + 1) from Vx.va (z := 0) (by exact srch))))
  go_wp2_with fail
  refine ret_vx (B := w.heap.size + 1 + 1) (z := (u * p - x * v) / d) rfl rfl rfl ?_ (fun v hv => ⟨v, rfl, hv, ?_⟩)
  all_goals exact srch
end Go.Proofs.YtdbpkoddfcdhdaaGreat

namespace Go.Proofs.YtdbpkoddfcdhdaaGreat
open Go.RowKit
attribute [local go_sem ↓] Go.wp_at_zero Go.wp_at_succ

def nzAt (k : Nat) (r : List Int) : Bool := nz (r.getD k 0)
def elimR (a b : List Int) (p x d : Int) : List Int := (List.range a.length).map fun j => elim (a.getD j 0) p x (b.getD j 0) d
def swapM (m : List (List Int)) (i j : Nat) : List (List Int) := (m.set i (m.getD j [])).set j (m.getD i [])

/-- What the elimination asks of an invariant. -/
structure DetPlan (R : Nat) (DP : Nat → List (List Int) → Int → Bool → Prop) (DQ : Nat → Nat → List (List Int) → Int → Bool → Prop) : Prop where
  sp : ∀ {k m d ng}, DP k m d ng → Shape R R m ∧ SmallM m ∧ sz d ≤ 137438953472 ∧ d ≠ 0
  sq : ∀ {k i m d ng}, DQ k i m d ng → Shape R R m ∧ SmallM m ∧ sz d ≤ 137438953472 ∧ d ≠ 0
  piv0 : ∀ {k m d ng}, DP k m d ng → k < R → idxI (nzAt k) (m.drop k) = 0 → DQ k (k + 1) m d ng
  piv : ∀ {k m d ng} {p : Nat}, DP k m d ng → k < R → idxI (nzAt k) (m.drop k) = (p : Int) → 0 < p → k + p < R → DQ k (k + 1) (swapM m k (k + p)) d (!ng)
  elim : ∀ {k i m d ng}, DQ k i m d ng → k < i → i < R → DQ k (i + 1) (m.set i (elimR (m.getD i []) (m.getD k []) ((m.getD k []).getD k 0) ((m.getD i []).getD k 0) d)) d ng
  next : ∀ {k m d ng}, DQ k R m d ng → DP (k + 1) m ((m.getD k []).getD k 0) ng

theorem But.cell {g : Nat} {w w' : World} (h : But g w w') {B o : Nat} {v : Value} (hc : w.cell? ⟨B, o, none⟩ = some v) (hne : B ≠ g) : w'.cell? ⟨B, o, none⟩ = some v :=
  (World.cell?_of_block (w := w) (h.block B (World.block_lt_of_cell? w ⟨B, o, none⟩ hc) hne)).trans hc

theorem Vx.but {g : Nat} {w w' : World} {B : Nat} {z : Int} (hv : Vx w B z) (hb : But g w w') (hne : B ≠ g) (hg : NoW w g) : Vx w' B z := by
  obtain ⟨s, a, n, c, h1, h2, h3⟩ := hv
  have hl := h1.lt
  have hk := hb.block B hl hne
  refine ⟨s, a, n, c, ⟨(World.cell?_of_block (w := w) hk).trans h1.c0, (World.cell?_of_block (w := w) hk).trans h1.c1, (World.frozen?_of_block (w := w) hk).trans h1.f0, (World.frozen?_of_block (w := w) hk).trans h1.f1⟩, h2.but hg hb, fun o x => ?_⟩
  rw [World.cell?_of_block (w := w) (a := ⟨B, o, none⟩) hk]
  exact h3 o x

theorem Om.suf {w : World} {g : Nat} {m : List (List Int)} (h : Om w g m) {R k : Nat} (hR : m.length = R) : Mx w (.slice (some ⟨g, k, none⟩) (R - k) (R - k)) (m.drop k) := by
  refine ⟨_, R - k, by rw [List.length_drop, hR], by rw [List.length_drop, hR]; exact Nat.le_refl _, .inr ⟨g, k, rfl, h.lt, fun i hi => ?_⟩⟩
  rw [List.length_drop] at hi
  obtain ⟨c, q, c0, c1⟩ := h.cells (i := k + i) (by omega)
  have e : (m.drop k).getD i [] = m.getD (k + i) [] := by simp only [List.getD_eq_getElem?_getD, List.getElem?_drop]
  rw [e]
  exact ⟨c, q, c0, c1⟩

theorem ret_vx_e {fn : Func} {R : Ending → World → Prop} {a : Act} {w : World} {B : Nat} {z e : Int} (hr : fn.results = #[.cell 2 56, .tmp 3]) (ht : a.tmps.getD 2 undef = .pointer (some ⟨B, 0, none⟩)) (h3 : a.tmps.getD 3 undef = .int .i64 e) (hd : a.defers = [])
    (h : Vx w B z) (hR : ∀ v, It w v z → R (.returned (.tuple #[v, .int .i64 e])) w) : bodyPost Tryz.prog fn R .ret a w := by
  obtain ⟨s, x, n, c, h1, h2, -⟩ := h
  refine bodyPost_ret ?_ hd (hR _ h2)
  have hl := load_int w B 0 _ _ h1.c0 h1.c1
  have ht1 : a.tmps[2]?.getD undef = .pointer (some ⟨B, 0, none⟩) := by simpa using ht
  have ht2 : a.tmps[3]?.getD undef = .int .i64 e := by simpa using h3
  have hA : ∀ B, (asAddr (.pointer (some ⟨B, 0, none⟩))).run Tryz.prog w = .ok ⟨B, 0, none⟩ w := fun _ => rfl
  simp [results, hr, ht1, ht2, hl, hA]

theorem idxM_range {p : List Int → Bool} {l : List (List Int)} : idxI p l = -1 ∨ ∃ k : Nat, idxI p l = k ∧ k < l.length := by
  unfold idxI
  split
  · rename_i h; exact .inr ⟨_, rfl, h⟩
  · exact .inl rfl

/-- Det gives 0 where a column has no pivot, and else the last one, with its sign. -/
def DetRes (R : Nat) (DP : Nat → List (List Int) → Int → Bool → Prop) (z : Int) : Prop :=
  (∃ k m d ng, DP k m d ng ∧ k < R ∧ idxI (nzAt k) (m.drop k) = -1 ∧ z = 0) ∨ (∃ m d ng, DP R m d ng ∧ z = if ng then -d else d)

theorem sqTest {R : Nat} {m : List (List Int)} (hs : Shape R R m) (hR : 0 < R) : (((m.getD 0 []).length : Int) != (R : Int)) = false := by rw [hs.2 0 hR]; simp

/-- No row of block g lies in block B. -/
def Av (w : World) (g B : Nat) : Prop := ∀ i a n c, w.cell? ⟨g, i, none⟩ = some (.slice (some a) n c) → a.block ≠ B

theorem Av.but {w w' : World} {g B : Nat} (h : Av w g B) (hc : w'.heap[g]? = w.heap[g]?) : Av w' g B := fun i a n c e => h i a n c (by rw [← World.cell?_of_block (w := w) (a := ⟨g, i, none⟩) hc]; exact e)
theorem Av.up {w w' : World} {g B : Nat} (h : Av w g B) (hg : g < w.heap.size) (hb : Below w.heap.size w w') : Av w' g B := h.but (hb.block g hg)

theorem Av.put {w w' : World} {g B i : Nat} {v : Value} (h : Av w g B) (hp : PutAt g i v w w') (hv : ∀ a n c, v = .slice (some a) n c → a.block ≠ B) : Av w' g B := by
  obtain ⟨cur, h1, h2⟩ := hp
  intro j a n c e
  simp only [World.cell?, h2] at e
  by_cases ij : i = j
  · subst ij
    rcases Nat.lt_or_ge i cur.size with hl | hl
    · rw [Array.getElem?_setIfInBounds_self_of_lt hl] at e
      simp at e
      exact hv a n c e
    · rw [Array.getElem?_eq_none (by simpa using hl)] at e
      simp at e
  · rw [Array.getElem?_setIfInBounds_ne ij] at e
    exact h j a n c (by simp only [World.cell?, h1]; exact e)

theorem Rw.st {w : World} {a : Option Addr} {N cap : Nat} {l : List Int} (h : Rw w (.slice a N cap) l) {B : Nat} (hB : Va w B) (hne : ∀ b, a = Option.some b → b.block ≠ B) (s : Bool) (x : Option Addr) (n c : Nat) :
    Rw ((w.setCell ⟨B, 0, none⟩ (.bool s)).setCell ⟨B, 1, none⟩ (.slice x n c)) (.slice a N cap) l := by
  obtain ⟨a', cap', e, h2, h3⟩ := h
  injection e with e1 e2 e3
  subst e1 e3
  refine ⟨_, _, by rw [← e2], h2, ?_⟩
  rcases h3 with h | ⟨b, off, e1, e2', e3⟩
  · exact .inl h
  · have hb := hne _ e1
    refine .inr ⟨b, off, e1, by simpa using e2', fun j hj => ?_⟩
    obtain ⟨s', c', n', k', c0, c1, c2⟩ := e3 j hj
    exact ⟨s', c', n', k', cellS (cellS c0 (fun h => hb h.symm)) (fun h => hb h.symm), cellS (cellS c1 (fun h => hb h.symm)) (fun h => hb h.symm), c2.st hB⟩

theorem Om.st {w : World} {g : Nat} {m : List (List Int)} (h : Om w g m) {B : Nat} (hB : Va w B) (hA : Av w g B) (hne : g ≠ B) (s : Bool) (x : Option Addr) (n c : Nat) :
    Om ((w.setCell ⟨B, 0, none⟩ (.bool s)).setCell ⟨B, 1, none⟩ (.slice x n c)) g m := by
  have hc := fun i hi => h.cells (i := i) hi
  obtain ⟨cur, h1, h2, h3⟩ := h
  refine ⟨cur, ((set_heap _ hne _).trans (set_heap _ hne _)).trans h1, h2, fun i hi => ?_⟩
  obtain ⟨c', k', c0, c1⟩ := h3 i hi
  obtain ⟨c2, k2, d0, d1⟩ := hc i hi
  have e : some (Value.slice c2 (m.getD i []).length k2) = some (.slice c' (m.getD i []).length k') := by
    rw [← d0]; simp only [World.cell?, h1]; exact c0
  injection e with e
  injection e with e4 e5 e6
  subst e4 e6
  exact ⟨c2, k2, c0, c1.st hB (fun b hb => hA i b _ _ (by rw [← hb]; exact d0)) s x n c⟩

theorem Om.av {w : World} {g : Nat} {m : List (List Int)} (h : Om w g m) {B : Nat} (hB : w.heap.size ≤ B) (hl : ∀ i, i < m.length → 0 < (m.getD i []).length) : Av w g B := by
  intro i a n c e
  have hi : i < m.length := by
    obtain ⟨cur, h1, h2, -⟩ := h
    simp only [World.cell?, h1] at e
    rcases Nat.lt_or_ge i cur.size with hl | hl
    · omega
    · rw [Array.getElem?_eq_none hl] at e; simp at e
  obtain ⟨c', k', d0, d1⟩ := h.cells hi
  rw [d0] at e
  injection e with e
  injection e with e1 e2 e3
  subst e1
  obtain ⟨b, off, cap, hv⟩ := d1.some (hl i hi)
  injection hv with hv1
  injection hv1 with hv1
  subst hv1
  obtain ⟨-, hb, -⟩ := d1.elem (k := 0) (hl i hi)
  show b ≠ B
  omega

set_option maxRecDepth 100000 in
set_option maxHeartbeats 8000000 in
theorem Det_ok {R : Nat} {DP : Nat → List (List Int) → Int → Bool → Prop} {DQ : Nat → Nat → List (List Int) → Int → Bool → Prop} (pl : DetPlan R DP DQ) (v : Value) (m : List (List Int)) (w : World)
    (h : Mx w v m) (hR0 : 0 < R) (hR : R ≤ 12) (h0 : DP 0 m 1 false) :
    Calls Tryz.prog 21 #[v] w fun e w' => ∃ v' z, e = .returned (.tuple #[v', .int .i64 0]) ∧ It w' v' z ∧ DetRes R DP z ∧ Below w.heap.size w w' := by
  obtain ⟨hs, -, -, -⟩ := pl.sp h0
  have hC := refused_any v m w h (by rw [hs.1]; omega)
  rw [refM_shape hs hR hR0 hR] at hC
  have hcp := fun W (hW : Below w.heap.size w W) => copied_any v m W (h.up hW) (by rw [hs.1]; omega) (fun i hi => by rw [hs.1] at hi; rw [hs.2 i hi]; omega)
  rw [hs.1] at hcp
  obtain ⟨b0, off0, ca, c, k, rfl, p0⟩ := h.len0 hs hR0
  have hne : ((R : Int) != (R : Int)) = false := by simp
  have hgt : (0 : Int) < (R : Int) := by omega
  have HC := Lib.hid hC
  have HCP := Lib.hid hcp
  have hCu : ∀ W, Below w.heap.size w W → Mx W (.slice (some ⟨b0, off0, none⟩) R ca) m := fun W hW => h.up hW
  have hRf := fun W (hW : Below w.heap.size w W) => refused_any (.slice (some ⟨b0, off0, none⟩) R ca) m W (h.up hW) (by rw [hs.1]; omega)
  rw [refM_shape hs hR hR0 hR] at hRf
  have HRF := Lib.hid hRf
  clear hC hcp hCu hRf HC
  have v0 := Vx.new0 (w := w) (T := 56) rfl
  go_enter Tryz.func21, Tryz.ntmps21
  go_wp2_with fail
  refine (HRF.out _ (below_new _ _)).mono ?_
  rintro e w1 ⟨rfl, hb1⟩
  replace v0 := v0.up hb1
  have lv1 := v0.lt
  replace p0 := keepc hb1 (cellN p0 _)
  have hbw := (below_new w (.cells #[.bool false, .slice none 0 0] 56)).trans (hb1.mono (by simp))
  clear hb1
  go_wp2_with fail
  refine (HCP.out _ hbw).mono ?_
  rintro e w2 ⟨g, rfl, hg, hO, hb2⟩
  replace v0 := v0.up hb2
  have lv0 := v0.lt
  replace hbw := Bl.up hbw hb2
  have hg1 : w.heap.size < g := by omega
  clear hb2
  go_wp2_with fail
  refine (latof_any 1 _ (by decide) (by decide)).mono ?_
  rintro e w3 ⟨v1, rfl, hv1, hb3⟩
  obtain ⟨s1, a1, n1, c1, rfl⟩ := hv1.shape
  replace v0 := v0.up hb3
  replace hO := hO.up hb3
  replace hbw := Bl.up hbw hb3
  have hgl := hO.lt
  clear hb3 p0
  go_upto_region 7 with fail
  obtain ⟨W4, hW4⟩ : ∃ W4, W4 = (w3.alloc (.cells #[.slice (some ⟨g, 0, none⟩) R R] 27)).alloc (.cells #[.bool s1, .slice a1 n1 c1] 56) := ⟨_, rfl⟩
  rw [← hW4]
  have hbw4 : Below w.heap.size w W4 := by rw [hW4]; exact Bl.alloc (Bl.alloc hbw _) _
  have v04 : Vx W4 w.heap.size 0 := by rw [hW4]; exact (v0.alloc _).alloc _
  have hO4 : Om W4 g m := by rw [hW4]; exact (hO.alloc _).alloc _
  have hA4 : W4.cell? ⟨w3.heap.size, 0, none⟩ = some (.slice (some ⟨g, 0, none⟩) R R) := by rw [hW4]; exact cellN (by rw [World.cell?_alloc_at _ _ _ _ rfl]; rfl) _
  have hL4 : Vx W4 (w3.heap.size + 1) 1 := by rw [hW4]; exact Vx.new (by simp) (hv1.alloc _)
  have hl4 := hL4.lt
  have hAv4 : Av W4 g (w3.heap.size + 1) := by
    rw [hW4]
    exact Av.up (Av.up (hO.av (Nat.le_succ _) (fun i hi => by rw [hs.1] at hi; rw [hs.2 i hi]; exact hR0)) hgl (below_new _ _)) (by simp; omega) (below_new _ _)
  clear hW4 hv1 hO v0 hbw
  generalize w3.heap.size = Ba at *
  go_wp2_with fail
  go_loopw [7, 39] (fun s7 s wr => ∃ (k : Nat) (m : List (List Int)) (d : Int) (ng : Bool), k ≤ R ∧ s = .int .i64 k ∧ s7 = .bool ng ∧ DP k m d ng ∧ Av wr g (Ba + 1) ∧ Om wr g m ∧ wr.cell? ⟨Ba, 0, none⟩ = some (.slice (some ⟨g, 0, none⟩) R R) ∧ Vx wr (Ba + 1) d ∧ Vx wr w.heap.size 0 ∧ Below w.heap.size w wr)
    (fun _ s _ => R - (intOf s).toNat)
  case atStart => exact ⟨0, m, 1, false, Nat.zero_le _, rfl, rfl, h0, hAv4, hO4, hA4, hL4, v04, hbw4⟩
  case round =>
    clear hO4 hA4 hL4 v04 hbw4 h0 hs hAv4
    obtain ⟨k, m, d, ng, hk, rfl, rfl, hP, hAv, hO, hA, hL, v0, hbl⟩ := hrel
    obtain ⟨hs, hsm, hsd, hd0⟩ := pl.sp hP
    by_cases hkR : k < R
    · have k0 : (0 : Int) ≤ (k : Int) := by omega
      have k1 : (k : Int) < (R : Int) := by omega
      have k2 : (k : Int) ≤ (R : Int) := by omega
      have k3 : ¬ R = k := by omega
      have hgl := hO.lt
      have hdl : ∀ i, i < (m.drop k).length → k < ((m.drop k).getD i []).length ∧ ((m.drop k).getD i []).length ≤ 1099511627776 := by
        intro i hi
        rw [List.length_drop, hs.1] at hi
        have e : (m.drop k).getD i [] = m.getD (k + i) [] := by simp only [List.getD_eq_getElem?_getD, List.getElem?_drop]
        rw [e, hs.2 _ (by omega)]
        omega
      have hix := fun W (hW : Below wr.heap.size wr W) (hB : W.cell? ⟨wr.heap.size, 0, none⟩ = some (.int .i64 (k : Int))) => idx2_any _ (m.drop k) 57 #[.pointer (some ⟨wr.heap.size, 0, none⟩)] (nzAt k) W (enters_of Tryz.func57 (by kernel_rfl) rfl) ((hO.up hW).suf (k := k) hs.1) (by rw [List.length_drop, hs.1]; omega)
        (fun i hi W' v' hb' hv' => det1_any v' _ wr.heap.size k W' hv' (keepc hb' hB) (hdl i hi).1 (hdl i hi).2)
      have HIX := Lib.hid hix
      clear hix hdl
      go_upto_region 10 with fail
      obtain ⟨W5, hW5⟩ : ∃ W5, W5 = wr.alloc (.cells #[.int .i64 (k : Int)] 3) := ⟨_, rfl⟩
      rw [← hW5]
      have hb5 : Below wr.heap.size wr W5 := by rw [hW5]; exact below_new _ _
      have hK5 : W5.cell? ⟨wr.heap.size, 0, none⟩ = some (.int .i64 (k : Int)) := by rw [hW5, World.cell?_alloc_at _ _ _ _ rfl]; rfl
      have hic := HIX.out W5 hb5 hK5
      have hAv5 := hAv.up hgl hb5
      have hgl5 := Nat.lt_of_lt_of_le hgl hb5.size
      have hO5 := hO.up hb5
      have hA5 := keepc hb5 hA
      have hL5 := hL.up hb5
      have v05 := v0.up hb5
      have hbl5 := Bl.up hbl hb5
      have lA := World.block_lt_of_cell? wr ⟨Ba, 0, none⟩ hA
      have lL := hL.lt
      have lv := v0.lt
      clear hW5 hO hA hL v0 hbl hb5 HIX hAv
      generalize wr.heap.size = Bk at *
      rcases idxM_range (p := nzAt k) (l := m.drop k) with hz | ⟨p, hz, hpl⟩
      · rw [hz] at hic
        have HZ := Lib.hid hz
        clear hz
        go_wp2_with (go_at_call 56; refine hic.mono ?_; rintro e w6 ⟨rfl, hb6⟩; have v06 := v05.up hb6; have hbl6 := Bl.up hbl5 hb6; obtain ⟨s3, a3, n3, c3, r0, r1, r2, r3, ir⟩ := v06.cells)
        exact ret_vx_e (B := w.heap.size) (z := 0) rfl rfl rfl rfl (Vx.put v06.va (it_zero _)) (fun v hv => ⟨v, 0, rfl, hv, .inl ⟨k, m, d, ng, hP, hkR, HZ.out, rfl⟩, Bl.st hbl6 (Nat.le_refl _)⟩)
      · rw [hz] at hic
        rw [List.length_drop, hs.1] at hpl
        have p0 : (0 : Int) ≤ (p : Int) := by omega
        have hkp : k + p < R := by omega
        have hpz := hz
        have HZ := Lib.hid hz
        clear hz hpl
        go_upto_if 51 with (go_at_call 56; refine hic.mono ?_; rintro e w6 ⟨rfl, hb6⟩)
        have hAv6 := hAv5.up hgl5 hb6
        have hO6 := hO5.up hb6
        have hA6 := keepc hb6 hA5
        have hL6 := hL5.up hb6
        have v06 := v05.up hb6
        have hK6 := keepc hb6 hK5
        have hbl6 := Bl.up hbl5 hb6
        clear hO5 hA5 hL5 v05 hK5 hbl5 hb6 hic hpz hAv5
        go_cut [7] (fun s7 wd => ∃ (m1 : List (List Int)) (ng1 : Bool), s7 = .bool ng1 ∧ DQ k (k + 1) m1 d ng1 ∧ Av wd g (Ba + 1) ∧ Om wd g m1 ∧ But g w6 wd)
        case first =>
          rcases Nat.eq_zero_or_pos p with hp0 | hp0
          · subst hp0
            have hq := pl.piv0 hP hkR HZ.out
            go_wp2_with fail
            go_meet
            case rel => exact ⟨m, ng, rfl, hq, hAv6, hO6, But.refl _ _⟩
          · have hq := pl.piv hP hkR HZ.out hp0 hkp
            have hp1 : (0 : Int) < (p : Int) := by omega
            obtain ⟨c2, k2', x0, x1⟩ := hO6.cells (i := k) (by rw [hs.1]; omega)
            obtain ⟨c3, k3', y0, y1⟩ := hO6.cells (i := k + p) (by rw [hs.1]; omega)
            rw [hs.2 k hkR] at x0 x1
            rw [hs.2 (k + p) hkp] at y0 y1
            have f0 := hO6.free k
            have f1 := hO6.free (k + p)
            have gA : g ≠ Ba := by omega
            have gK : g ≠ Bk := by omega
            have hz0 : (0 : Int) ≤ (k : Int) + (p : Int) := by omega
            have hz1 : (k : Int) + (p : Int) < (R : Int) := by omega
            have hkk : k ≠ k + p := by omega
            have hOm' := fun (u v : Value) (hu : Rw w6.drew u (m.getD (k + p) [])) (hv : Rw w6.drew v (m.getD k [])) => (hO6.drew).put2 (i := k) (j := k + p) (by rw [hs.1]; exact hkR) (by rw [hs.1]; exact hkp) ((But.refl _ _).set k u) (PutAt.set hO6.drew.block rfl u) (hu.set hO6.drew.sl k u) ((But.refl _ _).set (k + p) v) (PutAt.set (Om.block (hO6.drew.put (i := k) (by rw [hs.1]; exact hkR) ((But.refl _ _).set k u) (PutAt.set hO6.drew.block rfl u) (hu.set hO6.drew.sl k u))) rfl v) ((hv.set hO6.drew.sl k u).set (Om.sl (hO6.drew.put (i := k) (by rw [hs.1]; exact hkR) ((But.refl _ _).set k u) (PutAt.set hO6.drew.block rfl u) (hu.set hO6.drew.sl k u))) (k + p) v)
            have hOm2 := hOm' _ _ y1.drew x1.drew
            clear hOm'
            have hbu : But g w6 (((w6.drew).setCell ⟨g, k, none⟩ (.slice c3 R k3')).setCell ⟨g, k + p, none⟩ (.slice c2 R k2')) := (((But.refl g w6).drew).set k _).set (k + p) _
            have hav2 : Av (((w6.drew).setCell ⟨g, k, none⟩ (.slice c3 R k3')).setCell ⟨g, k + p, none⟩ (.slice c2 R k2')) g (Ba + 1) :=
              Av.put (i := k + p) (Av.put (w := w6.drew) (i := k) (w' := w6.drew.setCell ⟨g, k, none⟩ (.slice c3 R k3')) hAv6 (PutAt.set hO6.drew.block rfl _) (fun a n c e => by injection e with e1; exact hAv6 (k + p) a _ _ (by rw [← e1]; exact y0))) (PutAt.set (Om.block (hO6.drew.put (i := k) (by rw [hs.1]; exact hkR) ((But.refl _ _).set k _) (PutAt.set hO6.drew.block rfl _) (y1.drew.set hO6.drew.sl k _))) rfl _) (fun a n c e => by injection e with e1; exact hAv6 k a _ _ (by rw [← e1]; exact x0))
            have HAV := Lib.hid hav2
            have HOM := Lib.hid hOm2
            have HBU := Lib.hid hbu
            clear hOm2 hbu hav2
            go_upto_region 14 with fail
            have hz2 : ((k : Int) + (p : Int)).toNat = k + p := by omega
            have hsum : IntKind.i64.wrap ((k : Int) + (p : Int)) = (k : Int) + (p : Int) := IntWalk.i64_in _ (by omega)
            refine wp_region_U (by kernel_rfl) [17, 19] (S := fun w' => w'.cell? ⟨Ba, 0, none⟩ = some (.slice (some ⟨g, 0, none⟩) R R) ∧ w'.cell? ⟨Bk, 0, none⟩ = some (.int .i64 (k : Int)) ∧ w'.cell? ⟨g, k, none⟩ = some (.slice c2 R k2') ∧ w'.cell? ⟨g, k + p, none⟩ = some (.slice c3 R k3')) (S2 := fun w' => w'.cell? ⟨Ba, 0, none⟩ = some (.slice (some ⟨g, 0, none⟩) R R) ∧ w'.cell? ⟨Bk, 0, none⟩ = some (.int .i64 (k : Int))) ⟨hA6, hK6⟩ ⟨hA6, hK6, x0, y0⟩ (fun hH2 hHeld => ?_)
            (refine wpAnyU_take (i := 0) (v := _) rfl (by as_aux_lemma => kernel_rfl) (by as_aux_lemma => kernel_rfl) (by as_aux_lemma => kernel_rfl) (by as_aux_lemma => kernel_rfl) (by as_aux_lemma => kernel_rfl) (fun _ _ _ h => h) (Or.inl ⟨by rfl, by (intro w hSw; (try dsimp only at hSw); go_simp; all_goals (with_reducible rfl))⟩) (by assumption) (by assumption) ?_; (try simp only [Act.put, List.setIfInBounds_toArray, List.set_cons_zero, List.set_cons_succ, List.getElem_toArray, List.getElem_cons_succ, List.getElem_cons_zero]))
            (refine wpAnyU_take (i := 1) (v := _) rfl (by as_aux_lemma => kernel_rfl) (by as_aux_lemma => kernel_rfl) (by as_aux_lemma => kernel_rfl) (by as_aux_lemma => kernel_rfl) (by as_aux_lemma => kernel_rfl) (fun _ _ _ h => h) (Or.inl ⟨by rfl, by (intro w hSw; (try dsimp only at hSw); go_simp; all_goals (with_reducible rfl))⟩) (by assumption) (by assumption) ?_; (try simp only [Act.put, List.setIfInBounds_toArray, List.set_cons_zero, List.set_cons_succ, List.getElem_toArray, List.getElem_cons_succ, List.getElem_cons_zero]))
            (refine wpAnyU_takeP (i := 2) (v := _) rfl (by as_aux_lemma => kernel_rfl) (by as_aux_lemma => kernel_rfl) (by as_aux_lemma => kernel_rfl) (by as_aux_lemma => kernel_rfl) (fun _ _ _ h => h) (Or.inl ⟨by rfl, by (intro w hSw; (try dsimp only at hSw); go_simp; all_goals (with_reducible rfl))⟩) (by assumption) (by first | (intro _; assumption) | (intro h; exact absurd h (by decide))) ?_; (try simp only [Act.put, List.setIfInBounds_toArray, List.set_cons_zero, List.set_cons_succ, List.getElem_toArray, List.getElem_cons_succ, List.getElem_cons_zero]))
            (refine wpAnyU_takeP (i := 3) (v := _) rfl (by as_aux_lemma => kernel_rfl) (by as_aux_lemma => kernel_rfl) (by as_aux_lemma => kernel_rfl) (by as_aux_lemma => kernel_rfl) (fun _ _ _ h => h) (Or.inl ⟨by rfl, by (intro w hSw; (try dsimp only at hSw); go_simp; all_goals (with_reducible rfl))⟩) (by assumption) (by first | (intro _; assumption) | (intro h; exact absurd h (by decide))) ?_; (try simp only [Act.put, List.setIfInBounds_toArray, List.set_cons_zero, List.set_cons_succ, List.getElem_toArray, List.getElem_cons_succ, List.getElem_cons_zero]))
            (refine wpAnyU_takeP (i := 4) (v := _) rfl (by as_aux_lemma => kernel_rfl) (by as_aux_lemma => kernel_rfl) (by as_aux_lemma => kernel_rfl) (by as_aux_lemma => kernel_rfl) (fun _ _ _ h => h) (Or.inl ⟨by rfl, by (intro w hSw; (try dsimp only at hSw); go_simp; all_goals (with_reducible rfl))⟩) (by assumption) (by first | (intro _; assumption) | (intro h; exact absurd h (by decide))) ?_; (try simp only [Act.put, List.setIfInBounds_toArray, List.set_cons_zero, List.set_cons_succ, List.getElem_toArray, List.getElem_cons_succ, List.getElem_cons_zero]))
            (refine wpAnyU_takeP (i := 5) (v := _) rfl (by as_aux_lemma => kernel_rfl) (by as_aux_lemma => kernel_rfl) (by as_aux_lemma => kernel_rfl) (by as_aux_lemma => kernel_rfl) (fun _ _ _ h => h) (Or.inl ⟨by rfl, by (intro w hSw; (try dsimp only at hSw); go_simp; all_goals (with_reducible rfl))⟩) (by assumption) (by first | (intro _; assumption) | (intro h; exact absurd h (by decide))) ?_; (try simp only [Act.put, List.setIfInBounds_toArray, List.set_cons_zero, List.set_cons_succ, List.getElem_toArray, List.getElem_cons_succ, List.getElem_cons_zero]))
            (refine wpAnyU_take (i := 6) (v := _) rfl (by as_aux_lemma => kernel_rfl) (by as_aux_lemma => kernel_rfl) (by as_aux_lemma => kernel_rfl) (by as_aux_lemma => kernel_rfl) (by as_aux_lemma => kernel_rfl) (fun _ _ _ h => h) (Or.inl ⟨by rfl, by (intro w hSw; (try dsimp only at hSw); go_simp; all_goals (with_reducible rfl))⟩) (by assumption) (by assumption) ?_; (try simp only [Act.put, List.setIfInBounds_toArray, List.set_cons_zero, List.set_cons_succ, List.getElem_toArray, List.getElem_cons_succ, List.getElem_cons_zero]))
            (refine wpAnyU_take (i := 7) (v := _) rfl (by as_aux_lemma => kernel_rfl) (by as_aux_lemma => kernel_rfl) (by as_aux_lemma => kernel_rfl) (by as_aux_lemma => kernel_rfl) (by as_aux_lemma => kernel_rfl) (fun _ _ _ h => h) (Or.inl ⟨by rfl, by (intro w hSw; (try dsimp only at hSw); go_simp; all_goals (with_reducible rfl))⟩) (by assumption) (by assumption) ?_; (try simp only [Act.put, List.setIfInBounds_toArray, List.set_cons_zero, List.set_cons_succ, List.getElem_toArray, List.getElem_cons_succ, List.getElem_cons_zero]))
            (refine wpAnyU_take (i := 8) (v := _) rfl (by as_aux_lemma => kernel_rfl) (by as_aux_lemma => kernel_rfl) (by as_aux_lemma => kernel_rfl) (by as_aux_lemma => kernel_rfl) (by as_aux_lemma => kernel_rfl) (fun _ _ _ h => h) (Or.inl ⟨by rfl, by (intro w hSw; (try dsimp only at hSw); go_simp; all_goals (with_reducible rfl))⟩) (by assumption) (by assumption) ?_; (try simp only [Act.put, List.setIfInBounds_toArray, List.set_cons_zero, List.set_cons_succ, List.getElem_toArray, List.getElem_cons_succ, List.getElem_cons_zero]))
            (refine wpAnyU_take (i := 9) (v := _) rfl (by as_aux_lemma => kernel_rfl) (by as_aux_lemma => kernel_rfl) (by as_aux_lemma => kernel_rfl) (by as_aux_lemma => kernel_rfl) (by as_aux_lemma => kernel_rfl) (fun _ _ _ h => h) (Or.inl ⟨by rfl, by (intro w hSw; (try dsimp only at hSw); go_simp; all_goals (with_reducible rfl))⟩) (by assumption) (by assumption) ?_; (try simp only [Act.put, List.setIfInBounds_toArray, List.set_cons_zero, List.set_cons_succ, List.getElem_toArray, List.getElem_cons_succ, List.getElem_cons_zero]))
            (refine wpAnyU_take (i := 10) (v := _) rfl (by as_aux_lemma => kernel_rfl) (by as_aux_lemma => kernel_rfl) (by as_aux_lemma => kernel_rfl) (by as_aux_lemma => kernel_rfl) (by as_aux_lemma => kernel_rfl) (fun _ _ _ h => h) (Or.inl ⟨by rfl, by (intro w hSw; (try dsimp only at hSw); go_simp; all_goals (with_reducible rfl))⟩) (by assumption) (by assumption) ?_; (try simp only [Act.put, List.setIfInBounds_toArray, List.set_cons_zero, List.set_cons_succ, List.getElem_toArray, List.getElem_cons_succ, List.getElem_cons_zero]))
            (refine wpAnyU_take (i := 11) (v := _) rfl (by as_aux_lemma => kernel_rfl) (by as_aux_lemma => kernel_rfl) (by as_aux_lemma => kernel_rfl) (by as_aux_lemma => kernel_rfl) (by as_aux_lemma => kernel_rfl) (fun _ _ _ h => h) (Or.inl ⟨by rfl, by (intro w hSw; (try dsimp only at hSw); go_simp; all_goals (with_reducible rfl))⟩) (by assumption) (by assumption) ?_; (try simp only [Act.put, List.setIfInBounds_toArray, List.set_cons_zero, List.set_cons_succ, List.getElem_toArray, List.getElem_cons_succ, List.getElem_cons_zero]))
            (refine wpAnyU_take (i := 12) (v := _) rfl (by as_aux_lemma => kernel_rfl) (by as_aux_lemma => kernel_rfl) (by as_aux_lemma => kernel_rfl) (by as_aux_lemma => kernel_rfl) (by as_aux_lemma => kernel_rfl) (fun _ _ _ h => h) (Or.inl ⟨by rfl, by (intro w hSw; (try dsimp only at hSw); go_simp; all_goals (with_reducible rfl))⟩) (by assumption) (by assumption) ?_; (try simp only [Act.put, List.setIfInBounds_toArray, List.set_cons_zero, List.set_cons_succ, List.getElem_toArray, List.getElem_cons_succ, List.getElem_cons_zero]))
            (refine wpAnyU_take (i := 13) (v := _) rfl (by as_aux_lemma => kernel_rfl) (by as_aux_lemma => kernel_rfl) (by as_aux_lemma => kernel_rfl) (by as_aux_lemma => kernel_rfl) (by as_aux_lemma => kernel_rfl) (fun _ _ _ h => h) (Or.inl ⟨by rfl, by (intro w hSw; (try dsimp only at hSw); go_simp; all_goals (with_reducible rfl))⟩) (by assumption) (by assumption) ?_; (try simp only [Act.put, List.setIfInBounds_toArray, List.set_cons_zero, List.set_cons_succ, List.getElem_toArray, List.getElem_cons_succ, List.getElem_cons_zero]))
            (refine wpAnyU_take (i := 14) (v := _) rfl (by as_aux_lemma => kernel_rfl) (by as_aux_lemma => kernel_rfl) (by as_aux_lemma => kernel_rfl) (by as_aux_lemma => kernel_rfl) (by as_aux_lemma => kernel_rfl) (fun _ _ _ h => h) (Or.inl ⟨by rfl, by (intro w hSw; (try dsimp only at hSw); go_simp; all_goals (with_reducible rfl))⟩) (by assumption) (by assumption) ?_; (try simp only [Act.put, List.setIfInBounds_toArray, List.set_cons_zero, List.set_cons_succ, List.getElem_toArray, List.getElem_cons_succ, List.getElem_cons_zero]))
            (refine wpAnyU_take (i := 15) (v := _) rfl (by as_aux_lemma => kernel_rfl) (by as_aux_lemma => kernel_rfl) (by as_aux_lemma => kernel_rfl) (by as_aux_lemma => kernel_rfl) (by as_aux_lemma => kernel_rfl) (fun _ _ _ h => h) (Or.inl ⟨by rfl, by (intro w hSw; (try dsimp only at hSw); go_simp; all_goals (with_reducible rfl))⟩) (by assumption) (by assumption) ?_; (try simp only [Act.put, List.setIfInBounds_toArray, List.set_cons_zero, List.set_cons_succ, List.getElem_toArray, List.getElem_cons_succ, List.getElem_cons_zero]))
            (refine wpAnyU_take (i := 16) (v := _) rfl (by as_aux_lemma => kernel_rfl) (by as_aux_lemma => kernel_rfl) (by as_aux_lemma => kernel_rfl) (by as_aux_lemma => kernel_rfl) (by as_aux_lemma => kernel_rfl) (fun _ _ _ h => h) (Or.inl ⟨by rfl, by (intro w hSw; (try dsimp only at hSw); go_simp; all_goals (with_reducible rfl))⟩) (by assumption) (by assumption) ?_; (try simp only [Act.put, List.setIfInBounds_toArray, List.set_cons_zero, List.set_cons_succ, List.getElem_toArray, List.getElem_cons_succ, List.getElem_cons_zero]))
            (refine wpAnyU_one (i := 17) (by as_aux_lemma => kernel_rfl) rfl (fun K hK => ?_); (try simp only [Act.put, List.setIfInBounds_toArray, List.set_cons_zero, List.set_cons_succ, List.getElem_toArray, List.getElem_cons_succ, List.getElem_cons_zero]); go_simp)
            go_wp2_with fail
            refine hK.out _ _ ⟨cellS (cellD hA6) gA, cellS (cellD hK6) gK⟩ (fun h => absurd h (by decide)) ?_
            have hH3 : (w6.drew.setCell ⟨g, k, none⟩ (.slice c3 R k3')).cell? ⟨Ba, 0, none⟩ = some (.slice (some ⟨g, 0, none⟩) R R) ∧ (w6.drew.setCell ⟨g, k, none⟩ (.slice c3 R k3')).cell? ⟨Bk, 0, none⟩ = some (.int .i64 (k : Int)) := ⟨cellS (cellD hA6) gA, cellS (cellD hK6) gK⟩
            clear hK hHeld hH2
            (try simp only [lay, List.getElem_toArray, List.getElem_cons_succ, List.getElem_cons_zero])
            (refine wpAnyU_takeP (i := 18) (v := _) rfl (by as_aux_lemma => kernel_rfl) (by as_aux_lemma => kernel_rfl) (by as_aux_lemma => kernel_rfl) (by as_aux_lemma => kernel_rfl) (fun _ _ _ h => h) (Or.inl ⟨by rfl, by (intro w hSw; (try dsimp only at hSw); go_simp; all_goals (with_reducible rfl))⟩) (by assumption) (by first | (intro _; assumption) | (intro h; exact absurd h (by decide))) ?_; (try simp only [Act.put, List.setIfInBounds_toArray, List.set_cons_zero, List.set_cons_succ, List.getElem_toArray, List.getElem_cons_succ, List.getElem_cons_zero]))
            have y0' : (w6.drew.setCell ⟨g, k, none⟩ (.slice c3 R k3')).cell? ⟨g, k + p, none⟩ = some (.slice c3 R k3') := by rw [World.cell?_setCell_other _ _ _ _ (by first | (simp; done) | (simp; omega))]; exact y0
            clear hsum hz2
            (refine wpAnyU_one (i := 19) (by as_aux_lemma => kernel_rfl) rfl (fun K hK => ?_); (try simp only [Act.put, List.setIfInBounds_toArray, List.set_cons_zero, List.set_cons_succ, List.getElem_toArray, List.getElem_cons_succ, List.getElem_cons_zero]); go_simp)
            go_wp2_with fail
            refine hK.out _ _ ⟨cellS (cellS (cellD hA6) gA) gA, cellS (cellS (cellD hK6) gK) gK⟩ (fun h => absurd h (by decide)) ?_
            clear hK hH3 y0'
            (try simp only [lay, List.getElem_toArray, List.getElem_cons_succ, List.getElem_cons_zero])
            refine wpAnyU_done (by kernel_rfl) ?_ _
            clear x0 y0 x1 y1 f0 f1
            go_wp2_with fail
            go_meet
            case rel => exact ⟨_, !ng, rfl, hq, HAV.out, HOM.out, HBU.out⟩
        case rest =>
          obtain ⟨m1, ng1, rfl, hQ, hAv7, hO7, hbut⟩ := hcut
          have gA : Ba ≠ g := by omega
          have gK : Bk ≠ g := by omega
          have gL : Ba + 1 ≠ g := by omega
          have gv : w.heap.size ≠ g := by omega
          have hnW := hO6.sl.noW
          have hA7 := hbut.cell hA6 gA
          have hK7 := hbut.cell hK6 gK
          have hL7 := hL6.but hbut gL hnW
          have v07 := v06.but hbut gv hnW
          have hbl7 := But.below hbl6 (Nat.le_of_lt hg1) hbut
          clear hO6 hA6 hK6 hL6 v06 hbl6 hbut hnW hAv6 hP hsm hsd hd0 hs
          go_wp2_with fail
          go_loopw [10] (fun s wq => ∃ (i : Nat) (m : List (List Int)), s = .int .i64 i ∧ k < i ∧ i ≤ R ∧ DQ k i m d ng1 ∧ Av wq g (Ba + 1) ∧ Om wq g m ∧ wq.cell? ⟨Ba, 0, none⟩ = some (.slice (some ⟨g, 0, none⟩) R R) ∧ wq.cell? ⟨Bk, 0, none⟩ = some (.int .i64 (k : Int)) ∧ Vx wq (Ba + 1) d ∧ Vx wq w.heap.size 0 ∧ Below w.heap.size w wq)
            (fun s _ => R - (intOf s).toNat)
          case atStart => exact ⟨k + 1, m1, by go_num, by omega, by omega, hQ, hAv7, hO7, hA7, hK7, hL7, v07, hbl7⟩
          case round =>
            clear hO7 hA7 hK7 hL7 v07 hbl7 hQ hAv7
            obtain ⟨i, m, rfl, hki, hiR, hQ, hAv, hO, hA, hJ, hL, v0, hbl⟩ := hrel
            obtain ⟨hs, hsm, hsd, hd0⟩ := pl.sq hQ
            obtain ⟨b1, o1, q1, s1, c1, n1, e1, p0, p1, p2, p3, p4⟩ := hO.int hs hkR hkR
            have hgl := hO.lt
            by_cases hlt : i < R
            · have i0 : (0 : Int) ≤ (i : Int) := by omega
              have i1 : (i : Int) < (R : Int) := by omega
              obtain ⟨b2, o2, q2, s2, c2, n2, e2, r0, r1, r2, r3, r4⟩ := hO.int hs hlt hkR
              have hel := pl.elim hQ hki hlt
              obtain ⟨x, hx⟩ : ∃ x, x = (m.getD i []).getD k 0 := ⟨_, rfl⟩
              obtain ⟨y, hy⟩ : ∃ y, y = (m.getD k []).getD k 0 := ⟨_, rfl⟩
              rw [← hx] at r3 hel
              rw [← hy] at p3 hel
              have hsx : sz x ≤ 137438953472 := by rw [hx]; exact hsm i k
              have hsy : sz y ≤ 137438953472 := by rw [hy]; exact hsm k k
              clear hx hy
              go_upto_region 19 with fail
              go_cut [11] (fun s11 wd => ∃ B : Nat, s11 = .pointer (some ⟨B, 0, none⟩) ∧ wr.heap.size ≤ B ∧ Below wr.heap.size wr wd ∧ Vx wd B x)
              case first =>
                have HBL := Lib.hid hbl
                clear hbl hel
                go_region_held3 (fun w' => w'.cell? ⟨Ba, 0, none⟩ = some (.slice (some ⟨g, 0, none⟩) R R) ∧ w'.cell? ⟨Bk, 0, none⟩ = some (.int .i64 (k : Int)) ∧ w'.cell? ⟨g, i, none⟩ = some (.slice (some ⟨b2, o2, none⟩) R q2) ∧ w'.cell? ⟨b2, o2 + k * 2, none⟩ = some (.bool s2) ∧ w'.cell? ⟨b2, o2 + k * 2 + 1, none⟩ = some (.slice c2 n2 e2))
                  ((repeat' (first | with_reducible assumption | (with_reducible refine And.intro ?_ ?_) | (with_reducible refine cellD ?_) | (with_reducible refine cellN ?_ _) | (with_reducible refine cellS ?_ (by omega)) | (with_reducible refine keepc (by with_reducible assumption) ?_))))
                  (fail)
                all_goals go_wp2_with fail
                all_goals (go_meet; case rel => (refine ⟨_, rfl, by simp, ?_, ?_⟩ <;> exact srch))
              case rest =>
                obtain ⟨B, rfl, hlB, hbc, vX⟩ := hcut
                replace hAv := hAv.up hgl hbc
                have hglc := Nat.lt_of_lt_of_le hgl hbc.size
                replace hA := keepc hbc hA
                replace hJ := keepc hbc hJ
                replace hL := hL.up hbc
                replace v0 := v0.up hbc
                replace hO := hO.up hbc
                replace hbl := Bl.up hbl hbc
                replace p0 := keepc hbc p0
                replace p1 := keepc hbc p1
                replace p2 := keepc hbc p2
                replace p3 := p3.up hbc
                replace p4 := p4.up hbc
                replace r0 := keepc hbc r0
                replace r4 := r4.up hbc
                clear hbc r1 r2 r3
                have hlen : (m.getD i []).length ≤ (m.getD k []).length := by rw [hs.2 i hlt, hs.2 k hkR]; exact Nat.le_refl _
                have hlN : (m.getD i []).length ≤ 1099511627776 := by rw [hs.2 i hlt]; omega
                have lLc := hL.lt
                have hmx := mix_fresh _ _ (m.getD i []) (m.getD k []) 58 #[.pointer (some ⟨Ba, 0, none⟩), .pointer (some ⟨Bk, 0, none⟩), .pointer (some ⟨B, 0, none⟩), .pointer (some ⟨Ba + 1, 0, none⟩)] (fun j => elim ((m.getD i []).getD j 0) y x ((m.getD k []).getD j 0) d) wc.drew (enters_of Tryz.func58 (by kernel_rfl) rfl) r4.drew p4.drew hlen hlN
                  (fun j hj W' uu vv hb hu hv => det2_any uu vv Ba Bk B (Ba + 1) g R R k b1 o1 q1 R _ _ y x d W' hu hv (vX.drew.up hb) (hL.drew.up hb) (keepc hb (cellD hA)) (keepc hb (cellD hJ)) hkR hkR (by omega) (by omega) (keepc hb (cellD p0)) s1 c1 n1 e1 (keepc hb (cellD p1)) (keepc hb (cellD p2)) (p3.drew.up hb) (hsm i j) (hsm k j) hsy hsx hsd hd0)
                have HMX := Lib.hid hmx
                clear hmx
                go_upto_region 20 with fail
                have fr := hO.free i
                refine wp_region_T (by kernel_rfl) [13] (S := fun w' => w'.cell? ⟨Ba, 0, none⟩ = some (.slice (some ⟨g, 0, none⟩) R R) ∧ w'.cell? ⟨Bk, 0, none⟩ = some (.int .i64 (k : Int)) ∧ w'.cell? ⟨g, i, none⟩ = some (.slice (some ⟨b2, o2, none⟩) R q2) ∧ w'.cell? ⟨g, k, none⟩ = some (.slice (some ⟨b1, o1, none⟩) R q1)) ⟨hA, hJ, r0, p0⟩ (fun hHeld => ?_)
                (refine tK 0 rfl ?_; (try simp only [lay, List.getElem_toArray, List.getElem_cons_succ, List.getElem_cons_zero]))
                (refine tK 1 rfl ?_; (try simp only [lay, List.getElem_toArray, List.getElem_cons_succ, List.getElem_cons_zero]))
                (refine tK 2 rfl ?_; (try simp only [lay, List.getElem_toArray, List.getElem_cons_succ, List.getElem_cons_zero]))
                (refine tK 3 rfl ?_; (try simp only [lay, List.getElem_toArray, List.getElem_cons_succ, List.getElem_cons_zero]))
                (refine tK 4 rfl ?_; (try simp only [lay, List.getElem_toArray, List.getElem_cons_succ, List.getElem_cons_zero]))
                (refine tK 5 rfl ?_; (try simp only [lay, List.getElem_toArray, List.getElem_cons_succ, List.getElem_cons_zero]))
                (refine tK 6 rfl ?_; (try simp only [lay, List.getElem_toArray, List.getElem_cons_succ, List.getElem_cons_zero]))
                (refine tK 7 rfl ?_; (try simp only [lay, List.getElem_toArray, List.getElem_cons_succ, List.getElem_cons_zero]))
                (refine tK 8 rfl ?_; (try simp only [lay, List.getElem_toArray, List.getElem_cons_succ, List.getElem_cons_zero]))
                (refine tK 9 rfl ?_; (try simp only [lay, List.getElem_toArray, List.getElem_cons_succ, List.getElem_cons_zero]))
                (refine tK 10 rfl ?_; (try simp only [lay, List.getElem_toArray, List.getElem_cons_succ, List.getElem_cons_zero]))
                (refine wpAnyT_one (i := 11) (by as_aux_lemma => kernel_rfl) rfl (fun K hK => ?_); (try simp only [lay, List.getElem_toArray, List.getElem_cons_succ, List.getElem_cons_zero]); go_simp)
                refine HMX.out.mono ?_
                rintro e w8 ⟨vl, rfl, hl8, hb8, n31, c31, rfl⟩
                have hl9 : Rw w8 (.slice (some ⟨wc.drew.heap.size, 0, none⟩) n31 c31) (elimR (m.getD i []) (m.getD k []) y x d) := hl8
                clear hl8 HMX p1 p2 p3 p4 r4 vX
                replace hA := keepc hb8 (cellD hA)
                replace hJ := keepc hb8 (cellD hJ)
                replace p0 := keepc hb8 (cellD p0)
                replace r0 := keepc hb8 (cellD r0)
                replace hL := hL.drew.up hb8
                replace v0 := v0.drew.up hb8
                replace hO := hO.drew.up hb8
                replace hbl := Bl.up (Bl.drew hbl) hb8
                replace hAv := Av.up (w := wc.drew) hAv hglc hb8
                replace fr := hO.free i
                have hOp := hO.put (i := i) (by rw [hs.1]; exact hlt) ((But.refl g w8).set i (.slice (some ⟨wc.drew.heap.size, 0, none⟩) n31 c31)) (PutAt.set hO.block rfl _) (hl9.set hO.sl i _)
                have hAvp := Av.put (i := i) hAv (PutAt.set hO.block rfl (.slice (some ⟨wc.drew.heap.size, 0, none⟩) n31 c31)) (fun a n c e => by injection e with e1; injection e1 with e1; rw [← e1]; show wc.heap.size ≠ Ba + 1; omega)
                have hbp := (But.refl g w8).set i (.slice (some ⟨wc.drew.heap.size, 0, none⟩) n31 c31)
                have hLp := hL.but hbp gL hO.sl.noW
                have hvp := v0.but hbp gv hO.sl.noW
                have hblp := But.below hbl (Nat.le_of_lt hg1) hbp
                have hAp := hbp.cell hA gA
                have hJp := hbp.cell hJ gK
                clear hb8 hO hAv hl9 hL v0 hbl hbp
                go_wp2_with fail
                refine hK.out _ _ (fun _ => ⟨hA, hJ, r0, p0⟩) ?_
                have hHeld8 : w8.cell? ⟨Ba, 0, none⟩ = some (.slice (some ⟨g, 0, none⟩) R R) ∧ w8.cell? ⟨Bk, 0, none⟩ = some (.int .i64 (k : Int)) ∧ w8.cell? ⟨g, i, none⟩ = some (.slice (some ⟨b2, o2, none⟩) R q2) ∧ w8.cell? ⟨g, k, none⟩ = some (.slice (some ⟨b1, o1, none⟩) R q1) := ⟨hA, hJ, r0, p0⟩
                clear hK hHeld
                (try simp only [lay, List.getElem_toArray, List.getElem_cons_succ, List.getElem_cons_zero])
                (refine tK 12 rfl ?_; (try simp only [lay, List.getElem_toArray, List.getElem_cons_succ, List.getElem_cons_zero]))
                (refine wpAnyT_one (i := 13) (by as_aux_lemma => kernel_rfl) rfl (fun K hK => ?_); (try simp only [lay, List.getElem_toArray, List.getElem_cons_succ, List.getElem_cons_zero]); go_simp)
                go_wp2_with fail
                refine hK.out _ _ (fun h => absurd h (by decide)) ?_
                clear hK hHeld8 hA hJ r0 p0 fr
                (try simp only [lay, List.getElem_toArray, List.getElem_cons_succ, List.getElem_cons_zero])
                refine wpAnyT_done (by kernel_rfl) ?_ _
                go_wp2_with fail
                go_roundw
                case rel => exact ⟨i + 1, _, by go_num, by omega, by omega, hel, hAvp, hOp, hAp, hJp, hLp, hvp, hblp⟩
                case measure => simp [intOf]; omega
            · have hin : i = R := by omega
              subst hin
              have hnx := pl.next hQ
              obtain ⟨sl, al, nl, cl, u0, u1, u2, u3, -⟩ := hL.cells
              generalize hpv : (m.getD k []).getD k 0 = pv at p3 hnx
              clear hpv
              have hst := fun (s : Bool) (a : Option Addr) (n c : Nat) => hO.st hL.va hAv (fun h => gL h.symm) s a n c
              have lL2 := hL.lt
              have lA2 := World.block_lt_of_cell? wr ⟨Ba, 0, none⟩ hA
              have hb1 : Ba + 1 ≠ b1 := fun h => hAv k ⟨b1, o1, none⟩ _ _ p0 h.symm
              go_upto_region 21 with fail
              go_region_held3 (fun w' => w'.cell? ⟨Ba, 0, none⟩ = some (.slice (some ⟨g, 0, none⟩) i i) ∧ w'.cell? ⟨Bk, 0, none⟩ = some (.int .i64 (k : Int)) ∧ w'.cell? ⟨g, k, none⟩ = some (.slice (some ⟨b1, o1, none⟩) i q1) ∧ w'.cell? ⟨b1, o1 + k * 2, none⟩ = some (.bool s1) ∧ w'.cell? ⟨b1, o1 + k * 2 + 1, none⟩ = some (.slice c1 n1 e1))
                ((repeat' (first | with_reducible assumption | (with_reducible refine And.intro ?_ ?_) | (with_reducible refine cellD ?_) | (with_reducible refine cellN ?_ _) | (with_reducible refine cellS ?_ (by omega)) | (with_reducible refine keepc (by with_reducible assumption) ?_))))
                (fail)
              go_wp2_with fail
              go_roundw
              case rel => exact ⟨k + 1, m, pv, ng1, by omega, by go_num, rfl, hnx, Av.but (w := wr) hAv ((set_heap _ (fun h => gL h.symm) _).trans (set_heap _ (fun h => gL h.symm) _)), (hst _ _ _ _).drew, cellD (cellS (cellS hA (by omega)) (by omega)), (Vx.put hL.va p3).drew, (Vx.other v0 hL.va (by omega)).drew, (Bl.st hbl (by omega)).drew⟩
              case measure => simp [intOf]; omega
    · have hin : k = R := by omega
      subst hin
      obtain ⟨s2, a2, n2, c2, q0, q1, q2, q3, iq⟩ := hL.cells
      obtain ⟨s3, a3, n3, c3, r0, r1, r2, r3, ir⟩ := v0.cells
      have lv := v0.lt
      cases ng with
      | true =>
        go_wp2_with fail
        refine (neg_any _ d _ iq (Nat.le_trans hsd (by decide))).mono ?_
        rintro e w5 ⟨v5, rfl, hv5, hb5⟩
        obtain ⟨s5, a5, n5, c5, rfl⟩ := hv5.shape
        have hL5 := hL.up hb5
        have v05 := v0.up hb5
        have hbl5 := Bl.up hbl hb5
        have lL := hL.lt
        obtain ⟨s2, a2, n2, c2, q0, q1, q2, q3, -⟩ := hL5.cells
        have hL6 := Vx.put hL5.va hv5
        have v06 := v05.other hL5.va (s := s5) (a := a5) (n := n5) (c := c5) (by omega)
        have hbl6 := Bl.st (s := s5) (a := a5) (n := n5) (c := c5) hbl5 (show w.heap.size ≤ Ba + 1 by omega)
        obtain ⟨s7, a7, n7, c7, y0, y1, y2, y3, -⟩ := v06.cells
        have hv6 := hv5.st hL5.va (s := s5) (a := a5) (n := n5) (c := c5)
        clear r0 r1 r2 r3
        go_wp2_with fail
        refine ret_vx_e (B := w.heap.size) (z := -d) rfl rfl rfl rfl (Vx.put v06.va hv6) (fun v hv => ⟨v, -d, rfl, hv, .inr ⟨m, d, true, hP, by simp⟩, Bl.st hbl6 (Nat.le_refl _)⟩)
      | false =>
        go_wp2_with fail
        refine ret_vx_e (B := w.heap.size) (z := d) rfl rfl rfl rfl (Vx.put v0.va iq) (fun v hv => ⟨v, d, rfl, hv, .inr ⟨m, d, false, hP, by simp⟩, Bl.st hbl (Nat.le_refl _)⟩)
end Go.Proofs.YtdbpkoddfcdhdaaGreat

namespace Go.Proofs.YtdbpkoddfcdhdaaGreat
open Go.RowKit
attribute [local go_sem ↓] Go.wp_at_zero Go.wp_at_succ

theorem Mx.first {w : World} {v : Value} {m : List (List Int)} (h : Mx w v m) (hR : 0 < m.length) :
    ∃ b off ca c k, v = .slice (some ⟨b, off, none⟩) m.length ca ∧ w.cell? ⟨b, off, none⟩ = some (.slice c (m.getD 0 []).length k) := by
  obtain ⟨a, ca, rfl, hca, hra⟩ := h
  obtain ⟨b, off, rfl, hb, hc⟩ := hra.at (i := 0) hR
  obtain ⟨c, k, c0, c1⟩ := hc 0 hR
  exact ⟨b, off, ca, c, k, rfl, c0⟩

set_option maxHeartbeats 4000000 in
theorem Det_bad (v : Value) (m : List (List Int)) (w : World) (h : Mx w v m) (hN : m.length ≤ 1099511627776) (hr : refM m ≠ 0) :
    Calls Tryz.prog 21 #[v] w fun e w' => ∃ v', e = .returned (.tuple #[v', .int .i64 (refM m)]) ∧ It w' v' 0 ∧ Below w.heap.size w w' := by
  have hC := fun W (hW : Below w.heap.size w W) => refused_any v m W (h.up hW) hN
  rcases refM_cases m with h0 | h0 | h0
  · exact absurd h0 hr
  all_goals
    rw [h0] at hC ⊢
    clear hr h0
    have HC := Lib.hid hC
    clear hC h
    have v0 := Vx.new0 (w := w) (T := 56) rfl
    go_enter Tryz.func21, Tryz.ntmps21
    go_wp2_with fail
    refine (HC.out _ (below_new _ _)).mono ?_
    rintro e w1 ⟨rfl, hb1⟩
    replace v0 := v0.up hb1
    have hbw := (below_new w (.cells #[.bool false, .slice none 0 0] 56)).trans (hb1.mono (by simp))
    clear hb1
    have v1 := v0
    obtain ⟨s3, a3, n3, c3, r0, r1, r2, r3, ir⟩ := v1.cells
    clear v1
    go_wp2_with fail
    refine ret_vx_e (B := w.heap.size) (z := 0) rfl rfl rfl rfl (Vx.put v0.va (it_zero _)) (fun v hv => ⟨v, rfl, hv, Bl.st hbw (Nat.le_refl _)⟩)

set_option maxRecDepth 100000 in
set_option maxHeartbeats 4000000 in
theorem Det_sq (v : Value) (m : List (List Int)) (w : World) (h : Mx w v m) (hN : m.length ≤ 1099511627776) (hr : refM m = 0) (h1 : 0 < m.length) (h2 : (m.getD 0 []).length ≠ m.length) :
    Calls Tryz.prog 21 #[v] w fun e w' => ∃ v', e = .returned (.tuple #[v', .int .i64 1]) ∧ It w' v' 0 ∧ Below w.heap.size w w' := by
  have hC := fun W (hW : Below w.heap.size w W) => refused_any v m W (h.up hW) hN
  rw [hr] at hC
  obtain ⟨b0, off0, ca, c, k, rfl, p0⟩ := Mx.first h h1
  have HC := Lib.hid hC
  clear hC h hr
  generalize (m.getD 0 []).length = N at *
  generalize m.length = R at *
  have hgt : (0 : Int) < (R : Int) := by omega
  have hne : ((N : Int) != (R : Int)) = true := by simp; omega
  have v0 := Vx.new0 (w := w) (T := 56) rfl
  go_enter Tryz.func21, Tryz.ntmps21
  go_wp2_with fail
  refine (HC.out _ (below_new _ _)).mono ?_
  rintro e w1 ⟨rfl, hb1⟩
  replace v0 := v0.up hb1
  replace p0 := keepc hb1 (cellN p0 _)
  have hbw := (below_new w (.cells #[.bool false, .slice none 0 0] 56)).trans (hb1.mono (by simp))
  clear hb1
  have v1 := v0
  obtain ⟨s3, a3, n3, c3, r0, r1, r2, r3, ir⟩ := v1.cells
  clear v1
  go_wp2_with fail
  refine ret_vx_e (B := w.heap.size) (z := 0) rfl rfl rfl rfl (Vx.put v0.va (it_zero _)) (fun v hv => ⟨v, rfl, hv, Bl.st hbw (Nat.le_refl _)⟩)

set_option maxRecDepth 100000 in
set_option maxHeartbeats 4000000 in
theorem Det_nil (v : Value) (w : World) (h : Mx w v []) :
    Calls Tryz.prog 21 #[v] w fun e w' => ∃ v', e = .returned (.tuple #[v', .int .i64 0]) ∧ It w' v' 1 ∧ Below w.heap.size w w' := by
  have hRf := fun W (hW : Below w.heap.size w W) => refused_any v [] W (h.up hW) (by decide)
  rw [refM_nil] at hRf
  have hcp := fun W (hW : Below w.heap.size w W) => copied_any v [] W (h.up hW) (by decide) (fun i hi => by simp at hi)
  have HRF := Lib.hid hRf
  have HCP := Lib.hid hcp
  obtain ⟨a, ca, rfl, hca, hra⟩ := h
  clear hRf hcp hca hra
  simp only [List.length_nil, Int.ofNat_zero] at HRF HCP ⊢
  have v0 := Vx.new0 (w := w) (T := 56) rfl
  go_enter Tryz.func21, Tryz.ntmps21
  go_wp2_with fail
  refine (HRF.out _ (below_new _ _)).mono ?_
  rintro e w1 ⟨rfl, hb1⟩
  replace v0 := v0.up hb1
  have lv1 := v0.lt
  have hbw := (below_new w (.cells #[.bool false, .slice none 0 0] 56)).trans (hb1.mono (by simp))
  clear hb1
  go_wp2_with fail
  refine (HCP.out _ hbw).mono ?_
  rintro e w2 ⟨g, rfl, hg, hO, hb2⟩
  replace v0 := v0.up hb2
  have lv0 := v0.lt
  replace hbw := Bl.up hbw hb2
  have hg1 : w.heap.size < g := by omega
  clear hb2
  go_wp2_with fail
  refine (latof_any 1 _ (by decide) (by decide)).mono ?_
  rintro e w3 ⟨v1, rfl, hv1, hb3⟩
  obtain ⟨s1, a1, n1, c1, rfl⟩ := hv1.shape
  replace v0 := v0.up hb3
  replace hbw := Bl.up hbw hb3
  clear hb3
  go_upto_region 7 with fail
  obtain ⟨W4, hW4⟩ : ∃ W4, W4 = (w3.alloc (.cells #[.slice (some ⟨g, 0, none⟩) 0 0] 27)).alloc (.cells #[.bool s1, .slice a1 n1 c1] 56) := ⟨_, rfl⟩
  rw [← hW4]
  have hbw4 : Below w.heap.size w W4 := by rw [hW4]; exact Bl.alloc (Bl.alloc hbw _) _
  have v04 : Vx W4 w.heap.size 0 := by rw [hW4]; exact (v0.alloc _).alloc _
  have hA4 : W4.cell? ⟨w3.heap.size, 0, none⟩ = some (.slice (some ⟨g, 0, none⟩) 0 0) := by rw [hW4]; exact cellN (by rw [World.cell?_alloc_at _ _ _ _ rfl]; rfl) _
  have hL4 : Vx W4 (w3.heap.size + 1) 1 := by rw [hW4]; exact Vx.new (by simp) (hv1.alloc _)
  have hl4 := hL4.lt
  clear hW4 hv1 v0 hbw
  generalize w3.heap.size = Ba at *
  go_wp2_with fail
  go_loopw [7, 39] (fun s7 s wr => s = .int .i64 0 ∧ s7 = .bool false ∧ wr.cell? ⟨Ba, 0, none⟩ = some (.slice (some ⟨g, 0, none⟩) 0 0) ∧ Vx wr (Ba + 1) 1 ∧ Vx wr w.heap.size 0 ∧ Below w.heap.size w wr)
    (fun _ s _ => 0)
  case atStart => exact ⟨rfl, rfl, hA4, hL4, v04, hbw4⟩
  case round =>
    clear hA4 hL4 v04 hbw4
    obtain ⟨rfl, rfl, hA, hL, v0, hbl⟩ := hrel
    obtain ⟨s2, a2, n2, c2, q0, q1, q2, q3, iq⟩ := hL.cells
    obtain ⟨s3, a3, n3, c3, r0, r1, r2, r3, ir⟩ := v0.cells
    have lv := v0.lt
    go_wp2_with fail
    refine ret_vx_e (B := w.heap.size) (z := 1) rfl rfl rfl rfl (Vx.put v0.va iq) (fun v hv => ⟨v, rfl, hv, Bl.st hbl (Nat.le_refl _)⟩)

end Go.Proofs.YtdbpkoddfcdhdaaGreat
