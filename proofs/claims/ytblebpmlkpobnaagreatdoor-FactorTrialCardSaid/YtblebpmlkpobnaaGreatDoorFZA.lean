/-
  The reference of factor: Sorted.
-/
import Derived.Laws.IdiomCopy
import Derived.Test.YtblebpmlkpobnaaGreatDoorFG1
import Derived.Test.YtblebpmlkpobnaaGreatDoorFH1
import Derived.Test.YtblebpmlkpobnaaGreatDoorFJ1
import Derived.Test.YtblebpmlkpobnaaGreatDoorFL1
import Derived.Test.YtblebpmlkpobnaaGreatDoorFS
set_option linter.unusedSimpArgs false
set_option linter.unusedVariables false
set_option maxRecDepth 100000
set_option maxHeartbeats 4000000
namespace Go.Proofs.YtblebpmlkpobnaaGreatDoor
open Go.RowKit
theorem setCells_heap (g : Nat) {T : Nat} : ∀ (cs : List Value) (o : Nat) (w : World) (cur : Array Value), w.heap[g]? = some (.cells cur T (0, 0)) -> o + cs.length <= cur.size ->
  ∃ c2, (w.setCells g o cs).heap[g]? = some (.cells c2 T (0, 0)) /\ c2.size = cur.size /\ (∀ (j : Nat) (u : Value), cs[j]? = some u -> c2[o + j]? = some u) /\ (∀ j, j < o \/ o + cs.length <= j -> c2[j]? = cur[j]?)
 | [], o, w, cur, hg, _ => ⟨cur, hg, rfl, (fun j u e => by simp at e), fun _ _ => rfl⟩
 | v :: r, o, w, cur, hg, hl => by
   rw [List.length_cons] at hl;have h1 : (w.setCell ⟨g, o, none⟩ v).heap[g]? = some (.cells (cur.setIfInBounds o v) T (0, 0)) := by simp [World.setCell, Array.getElem?_modify, hg]
   obtain ⟨c2, e1, e2, e3, e4⟩ := setCells_heap g r (o + 1) (w.setCell ⟨g, o, none⟩ v) _ h1 (by rw [Array.size_setIfInBounds]; omega);rw [Array.size_setIfInBounds] at e2;refine ⟨c2, e1, e2, fun j u e => ?_, fun j hj => ?_⟩
   ·cases j with
    | zero =>
      have : c2[o]? = _ := e4 o (.inl (by omega));rw [Nat.add_zero, this, Array.getElem?_setIfInBounds_self_of_lt (by omega)];simpa using e
    | succ j =>
      rw [show o + (j + 1) = o + 1 + j by omega];exact e3 j u (by simpa using e)
   ·rw [List.length_cons] at hj;rw [e4 j (by omega), Array.getElem?_setIfInBounds_ne (by omega)]
theorem setCells_but (g : Nat) : ∀ (cs : List Value) (o : Nat) (w : World), ButS (fun k => k = g) w (w.setCells g o cs)
 | [], _, w => ButS.refl _ w
 | v :: r, o, w => (ButS.set w g o v).trans (setCells_but g r (o + 1) _)
variable {α : Type} {E : Elt α}
theorem So.setE {w : World} {base g n cap : Nat} {l : List α} (h : So E w base (.slice (some ⟨g, 0, none⟩) n cap) l) {i : Nat} (hi : i < l.length) {cs : List Value} {x : α} (hx : E.ok w cs x) :
  So E (w.setCells g (i * E.k) cs) base (.slice (some ⟨g, 0, none⟩) n cap) (l.set i x) := by
 have hb := setCells_but g cs (i * E.k) w;have hnw : ∀ g', g' = g -> NoW w g' := fun g' e => by rw [e]; exact h.nw g rfl
 have hcl := E.len hx;have hno := h.nw g rfl;obtain ⟨xs, ⟨k1, k2⟩, h2, h3⟩ := h;rcases k2 with ⟨e, -⟩ | ⟨g', cap', cur, e, k3, k4, k5, k6, k7, k8⟩
 ·injection e with e1; cases e1
 injection e with e1 e2 e3;injection e1 with e1;injection e1 with e1;subst e1 e2 e3;have hik : (i + 1) * E.k <= l.length * E.k := Nat.mul_le_mul_right _ hi;have hlk : l.length * E.k <= cap * E.k := Nat.mul_le_mul_right _ k5;rw [Nat.add_mul, Nat.one_mul] at hik;obtain ⟨c2, d1, d2, d3, d4⟩ := setCells_heap g cs (i * E.k) w cur k4 (by omega);refine ⟨c2.toList.take (l.length * E.k), ⟨?_, .inr ⟨g, cap, c2, by rw [List.length_set], k3, d1, by rw [List.length_set]; exact k5, k6, d2.trans k7, by rw [List.length_set]⟩⟩, fun j hj => ?_, fun g' hg' => ?_⟩
 ·have hlc : c2.toList.length = cap * E.k := by rw [Array.length_toList, d2, k7]
  rw [List.length_set, List.length_take, hlc, Nat.min_eq_left hlk]
 ·rw [List.length_set] at hj;by_cases e : j = i
  ·subst e;refine ⟨cs, ?_, fun m u hm => ?_⟩
   ·rw [List.getElem_set_self]; exact E.fr hb hnw hx
   ·have hm' := (List.getElem?_eq_some_iff.1 hm).1;rw [List.getElem?_take_of_lt (by omega), Array.getElem?_toList];exact d3 m u hm
  ·obtain ⟨cs', c1, c2'⟩ := h2 j hj;refine ⟨cs', ?_, fun m u hm => ?_⟩
   ·rw [List.getElem_set_ne (fun e' => e e'.symm)]; exact E.fr hb hnw c1
   ·have hm' := (List.getElem?_eq_some_iff.1 hm).1;rw [E.len c1] at hm';have hjk : (j + 1) * E.k <= l.length * E.k := Nat.mul_le_mul_right _ hj;rw [Nat.add_mul, Nat.one_mul] at hjk
    have hside : j * E.k + m < i * E.k \/ i * E.k + cs.length <= j * E.k + m := by
     rcases Nat.lt_or_gt_of_ne e with h' | h'
     ·have : (j + 1) * E.k <= i * E.k := Nat.mul_le_mul_right _ h';rw [Nat.add_mul, Nat.one_mul] at this;exact .inl (by omega)
     ·have : (i + 1) * E.k <= j * E.k := Nat.mul_le_mul_right _ h';rw [Nat.add_mul, Nat.one_mul] at this;exact .inr (by omega)
    have hold := c2' m u hm;rw [<- k8, List.getElem?_take_of_lt (by omega), Array.getElem?_toList] at hold;rw [List.getElem?_take_of_lt (by omega), Array.getElem?_toList, d4 _ hside];exact hold
 ·have e : g' = g := by simp [Value.ownBlock] at hg'; exact hg'.symm
  subst e;refine noW_alc (Alc.of d1 fun u hu => ?_);obtain ⟨m, hm, rfl⟩ := List.getElem_of_mem hu;have hm2 : c2[m]? = some c2.toList[m] := by rw [<- Array.getElem?_toList, List.getElem?_eq_getElem hm]
  by_cases hin : i * E.k <= m /\ m < i * E.k + cs.length
  ·obtain ⟨j, rfl⟩ : ∃ j, m = i * E.k + j := ⟨m - i * E.k, by omega⟩;have hj : j < cs.length := by omega
   have := d3 j cs[j] (List.getElem?_eq_getElem hj);rw [hm2] at this;injection this with this;rw [this];exact (E.one hx _ (List.getElem_mem hj)).1
  ·have := d4 m (by omega);rw [hm2] at this;exact (alc_noW hno).mem k4 _ (List.mem_of_getElem? (by rw [Array.getElem?_toList]; exact this.symm))
def okT (_ : World) (cs : List Value) (y : Tri) : Prop := cs = [.int .u8 (y.1 : Int), .int .u8 (y.2.1 : Int), .int .u8 (y.2.2 : Int)] /\ y.1 < 256 /\ y.2.1 < 256 /\ y.2.2 < 256
theorem infoT : (Tryz.prog.info? 72).map (fun i => (i.zero, i.size, i.bytes)) = some (some (.agg #[.int .u8 0, .int .u8 0, .int .u8 0]), 3, 3) := by kernel_rfl
def e3 : Elt Tri where
 T := 72
 k := 3
 b := 3
 z := .agg #[.int .u8 0, .int .u8 0, .int .u8 0]
 ok := okT
 hk := by decide
 hb := by decide
 info := infoT
 zc := rfl
 zn := by decide
 zo := by decide
 len := by rintro w cs x ⟨rfl, -⟩; rfl
 one := by
  rintro w cs x ⟨rfl, -⟩ u hu;simp only [List.mem_cons, List.not_mem_nil, or_false] at hu;rcases hu with rfl | rfl | rfl <;> exact ⟨rfl, rfl⟩
 fr := fun _ _ _ _ h => h
theorem Sc.tri {w : World} {b off : Nat} {l : List Tri} (h : Sc e3 w b off l) {i : Nat} (hi : i < l.length) :
  w.cell? ⟨b, off + i * 3, none⟩ = some (.int .u8 ((l.getD i (0, 0, 0)).1 : Int)) /\ w.cell? ⟨b, off + i * 3 + 1, none⟩ = some (.int .u8 ((l.getD i (0, 0, 0)).2.1 : Int)) /\ w.cell? ⟨b, off + i * 3 + 2, none⟩ = some (.int .u8 ((l.getD i (0, 0, 0)).2.2 : Int)) /\
   (l.getD i (0, 0, 0)).1 < 256 /\ (l.getD i (0, 0, 0)).2.1 < 256 /\ (l.getD i (0, 0, 0)).2.2 < 256 := by
 obtain ⟨cs, ⟨rfl, h1⟩, h2⟩ := h i hi;rw [List.getD_eq_getElem?_getD, List.getElem?_eq_getElem hi, Option.getD_some];exact ⟨h2 0 _ rfl, h2 1 _ rfl, h2 2 _ rfl, h1⟩
def Dx (w : World) (v : Value) (l : List Tri) (b : Nat) : Prop := ∃ a c, v = .agg #[.slice a l.length c, .int .u16 (b : Int)] /\ b < 65536 /\ Sr e3 w (.slice a l.length c) l /\ l.length <= 9223372036854775807
theorem Dx.up {w w' : World} {v : Value} {l : List Tri} {b : Nat} (h : Dx w v l b) (hb : Below w.heap.size w w') : Dx w' v l b := by
 obtain ⟨a, c, rfl, h1, h2, h3⟩ := h;exact ⟨a, c, rfl, h1, h2.up hb, h3⟩
theorem usedN_stop (l out : List Tri) (h : ¬ out.length < 7) : usedN l out = out := by
 cases l with
 | nil => rfl
 | cons y l => unfold usedN; rw [if_neg h]
theorem usedN_drop {l out : List Tri} {i : Nat} (hi : i < l.length) (h : out.length < 7) : usedN (l.drop i) out = usedN (l.drop (i + 1)) (if out.all (fun o => decide (o.1 % 11 ≠ (l.getD i (0, 0, 0)).1 % 11)) then out ++ [l.getD i (0, 0, 0)] else out) := by
 rw [List.drop_eq_getElem_cons hi];conv => lhs; unfold usedN
 rw [if_pos h, List.getD_eq_getElem?_getD, List.getElem?_eq_getElem hi, Option.getD_some]
theorem usedN_len (l : List Tri) : (usedN l []).length <= 7 := (usedN_nodup l [] List.nodup_nil (by decide)).2
theorem usedN_nd (l : List Tri) : ((usedN l []).map fun y => y.1 % 11).Nodup := (usedN_nodup l [] List.nodup_nil (by decide)).1
def kyP (m : List (Int × Int)) (a : Nat) : Int := (m.getD a (0, 0)).1
def SoTo (m : List (Int × Int)) (i : Nat) : Prop := ∀ a b, a < b -> b < i -> kyP m a <= kyP m b
def InsI (m : List (Int × Int)) (i k : Nat) : Prop := (∀ a b, a < b -> b <= i -> a ≠ k -> b ≠ k -> kyP m a <= kyP m b) /\ ∀ b, k < b -> b <= i -> kyP m k <= kyP m b
def swP (m : List (Int × Int)) (k : Nat) : List (Int × Int) := (m.set k (m.getD (k - 1) (0, 0))).set (k - 1) (m.getD k (0, 0))
theorem SoTo.ins {m : List (Int × Int)} {i : Nat} (h : SoTo m i) : InsI m i i := ⟨fun a b hab hb _ hn => h a b hab (by omega), fun b h1 h2 => by omega⟩
theorem InsI.done {m : List (Int × Int)} {i k : Nat} (h : InsI m i k) (hk : k <= i) (he : k = 0 \/ kyP m (k - 1) <= kyP m k) : SoTo m (i + 1) := by
 intro a b hab hb;by_cases e1 : a = k
 ·subst e1; exact h.2 b hab (by omega)
 ·by_cases e2 : b = k
  ·subst e2;rcases he with he | he
   ·omega
   ·by_cases e3 : a = b - 1
    ·subst e3; exact he
    ·exact Int.le_trans (h.1 a (b - 1) (by omega) (by omega) e1 (by omega)) he
  ·exact h.1 a b hab (by omega) e1 e2
theorem swP_len (m : List (Int × Int)) (k : Nat) : (swP m k).length = m.length := by unfold swP; rw [List.length_set, List.length_set]
theorem getD_set {α : Type} (m : List α) (i j : Nat) (x d : α) (hi : i < m.length) : (m.set i x).getD j d = if j = i then x else m.getD j d := by
 by_cases e : j = i
 ·subst e; rw [if_pos rfl, List.getD_eq_getElem?_getD, List.getElem?_set_self hi, Option.getD_some]
 ·rw [if_neg e, List.getD_eq_getElem?_getD, List.getElem?_set_ne (Ne.symm e), List.getD_eq_getElem?_getD]
theorem swP_perm {m : List (Int × Int)} {k : Nat} (hk : k < m.length) : (swP m k).Perm m := by
 have h := @List.set_set_perm _ m k (k - 1) hk (by omega);unfold swP;rw [List.getD_eq_getElem?_getD, List.getD_eq_getElem?_getD, List.getElem?_eq_getElem hk, List.getElem?_eq_getElem (by omega : k - 1 < m.length), Option.getD_some, Option.getD_some];exact h
theorem kyP_sw {m : List (Int × Int)} {k : Nat} (h0 : 0 < k) (hk : k < m.length) (a : Nat) : kyP (swP m k) a = if a = k - 1 then kyP m k else if a = k then kyP m (k - 1) else kyP m a := by
 unfold kyP swP;rw [getD_set _ _ _ _ _ (by rw [List.length_set]; omega), getD_set _ _ _ _ _ hk];split
 ·rfl
 ·split <;> rfl
theorem InsI.step {m : List (Int × Int)} {i k : Nat} (h : InsI m i k) (h0 : 0 < k) (hk : k <= i) (hi : i < m.length) (hgt : kyP m k < kyP m (k - 1)) : InsI (swP m k) i (k - 1) := by
 have hkm : k < m.length := by omega
 refine ⟨fun a b hab hb n1 n2 => ?_, fun b h1 h2 => ?_⟩
 ·rw [kyP_sw h0 hkm, kyP_sw h0 hkm, if_neg n1, if_neg n2];by_cases e1 : a = k
  ·rw [if_pos e1, if_neg (by omega)];exact h.1 (k - 1) b (by omega) hb (by omega) (by omega)
  ·rw [if_neg e1];by_cases e2 : b = k
   ·rw [if_pos e2]; exact h.1 a (k - 1) (by omega) (by omega) e1 (by omega)
   ·rw [if_neg e2]; exact h.1 a b hab hb e1 e2
 ·rw [kyP_sw h0 hkm, kyP_sw h0 hkm, if_pos rfl, if_neg (by omega)];by_cases e2 : b = k
  ·rw [if_pos e2]; omega
  ·rw [if_neg e2]; exact h.2 b (by omega) h2
theorem SoTo.srt {l m : List (Int × Int)} (h : SoTo m m.length) (hp : m.Perm l) : SrtZ l m := by
 refine ⟨hp, ?_⟩;rw [List.pairwise_map, List.pairwise_iff_getElem];intro a b ha hb hab;have := h a b hab hb;unfold kyP at this;rw [List.getD_eq_getElem?_getD, List.getD_eq_getElem?_getD, List.getElem?_eq_getElem ha, List.getElem?_eq_getElem hb, Option.getD_some, Option.getD_some] at this;exact this
theorem BuT.putR {T : TypeId} {w : World} {B : Nat} {vP vR vR' : Value} {N : Int} {P R R' : List (Int × Int)} {b : Int} (h : BuT T w B vP vR N P R b) (hR : So eP w 0 vR' R') (hn : ∀ g, vR'.ownBlock = some g -> ¬ bset B vP vR g) :
  BuT T (w.setCell ⟨B, 3, none⟩ vR') B vP vR' N P R' b := by
 have hlt := h.lt;obtain ⟨s, a, n, c, h1, h2⟩ := h.hb;have nB : NoW w B := h.nw B (.inl rfl);have hb2 := ButS.set w B 3 vR';have hn2 : vR'.ownBlock ≠ some B := fun e => hn B e (.inl rfl);have nw2 : ∀ g, g = B -> NoW w g := fun g hg => by rw [hg]; exact nB
 refine ⟨⟨s, a, n, c, ?_, h2.fr hb2 nw2⟩, h.hP.fr hb2 nw2 (fun g hg e => h.d2 (by rw [<- e]; exact hg)), hR.fr hb2 nw2 (fun g hg e => hn2 (by rw [<- e]; exact hg)), fun g hgv e => hn g e (.inr (.inl hgv)), h.d2, hn2⟩;simp [World.setCell, Array.getElem?_modify, h1]
section
variable {T : TypeId} {w : World} {B : Nat} {vP vR : Value} {N : Int} {P R : List (Int × Int)} {b : Int}
theorem BuT.new (T : TypeId) {s : Bool} {a : Option Addr} {n c : Nat} (hN : It w (.agg #[.bool s, .slice a n c]) N) (hP : So eP w 0 vP P) (hR : So eP w 0 vR R) (hd : ∀ g, vP.ownBlock = some g -> vR.ownBlock ≠ some g) :
  BuT T (w.alloc (.cells #[.bool s, .slice a n c, vP, vR, .int .i64 b] T)) w.heap.size vP vR N P R b :=
 ⟨⟨s, a, n, c, heap_alloc_new w _, hN.alloc _⟩, hP.alloc _, hR.alloc _, hd, fun e => Nat.lt_irrefl _ (hP.lt _ e).2, fun e => Nat.lt_irrefl _ (hR.lt _ e).2⟩
theorem BuT.putP {vP' : Value} {P' : List (Int × Int)} (h : BuT T w B vP vR N P R b) (hP : So eP w 0 vP' P') (hn : ∀ g, vP'.ownBlock = some g -> g ≠ B /\ vR.ownBlock ≠ some g) :
  BuT T (w.setCell ⟨B, 2, none⟩ vP') B vP' vR N P' R b := by
 obtain ⟨s, a, n, c, h1, h2⟩ := h.hb;have nB : NoW w B := h.nw B (.inl rfl);have hb2 := ButS.set w B 2 vP';have nw2 : ∀ g, g = B -> NoW w g := fun g hg => by rw [hg]; exact nB
 refine ⟨⟨s, a, n, c, ?_, h2.fr hb2 nw2⟩, hP.fr hb2 nw2 (fun g hg e => (hn g hg).1 e), h.hR.fr hb2 nw2 (fun g hg e => h.d3 (by rw [<- e]; exact hg)), fun g hgv => (hn g hgv).2, fun e => (hn B e).1 rfl, h.d3⟩;simp [World.setCell, Array.getElem?_modify, h1]
theorem BuT.setN {s : Bool} {a : Option Addr} {n c : Nat} {M : Int} (h : BuT T w B vP vR N P R b) (hM : It w (.agg #[.bool s, .slice a n c]) M) :
  BuT T ((w.setCell ⟨B, 0, none⟩ (.bool s)).setCell ⟨B, 1, none⟩ (.slice a n c)) B vP vR M P R b /\ ButS (fun k => k = B) w ((w.setCell ⟨B, 0, none⟩ (.bool s)).setCell ⟨B, 1, none⟩ (.slice a n c)) := by
 obtain ⟨s', a', n', c', h1, -⟩ := h.hb;have hb2 := (ButS.set w B 0 (.bool s)).trans (ButS.set _ B 1 (.slice a n c));have nw2 : ∀ g, g = B -> NoW w g := fun g hg => by rw [hg]; exact h.nw B (.inl rfl)
 refine ⟨⟨⟨s, a, n, c, ?_, hM.fr hb2 nw2⟩, h.hP.fr hb2 nw2 (fun g hg e => h.d2 (by rw [<- e]; exact hg)), h.hR.fr hb2 nw2 (fun g hg e => h.d3 (by rw [<- e]; exact hg)), h.d1, h.d2, h.d3⟩, hb2⟩;simp [World.setCell, Array.getElem?_modify, h1]
theorem BuT.setB {b' : Int} (h : BuT T w B vP vR N P R b) : BuT T (w.setCell ⟨B, 4, none⟩ (.int .i64 b')) B vP vR N P R b' := by
 obtain ⟨s, a, n, c, h1, h2⟩ := h.hb;have hb2 := ButS.set w B 4 (.int .i64 b');have nw2 : ∀ g, g = B -> NoW w g := fun g hg => by rw [hg]; exact h.nw B (.inl rfl)
 refine ⟨⟨s, a, n, c, ?_, h2.fr hb2 nw2⟩, h.hP.fr hb2 nw2 (fun g hg e => h.d2 (by rw [<- e]; exact hg)), h.hR.fr hb2 nw2 (fun g hg e => h.d3 (by rw [<- e]; exact hg)), h.d1, h.d2, h.d3⟩;simp [World.setCell, Array.getElem?_modify, h1]
theorem BuT.fx (h : BuT T w B vP vR N P R b) : ∃ s a n c, w.heap[B]? = some (.cells #[.bool s, .slice a n c, vP, vR, .int .i64 b] T (0, 0)) /\ Fx w (.agg #[.bool s, .slice a n c, vP, vR, .int .i64 b]) ⟨N, P, R, b⟩ := by
 obtain ⟨s, a, n, c, h1, h2⟩ := h.hb;exact ⟨s, a, n, c, h1, s, a, n, c, vP, vR, rfl, h2, h.hP.sr, h.hR.sr⟩
theorem BuT.cellsA (h : BuT T w B vP vR N P R b) : ∃ s a n c, w.cell? ⟨B, 0, none⟩ = some (.bool s) /\ w.cell? ⟨B, 1, none⟩ = some (.slice a n c) /\ w.cell? ⟨B, 2, none⟩ = some vP /\ w.cell? ⟨B, 3, none⟩ = some vR /\ w.cell? ⟨B, 4, none⟩ = some (.int .i64 b) /\
  w.frozen? ⟨B, 0, none⟩ = false /\ w.frozen? ⟨B, 1, none⟩ = false /\ w.frozen? ⟨B, 2, none⟩ = false /\ w.frozen? ⟨B, 3, none⟩ = false /\ w.frozen? ⟨B, 4, none⟩ = false /\ It w (.agg #[.bool s, .slice a n c]) N := by
 obtain ⟨s, a, n, c, h1, h2⟩ := h.hb;exact ⟨s, a, n, c, by simp [World.cell?, h1], by simp [World.cell?, h1], by simp [World.cell?, h1], by simp [World.cell?, h1], by simp [World.cell?, h1], by simp [World.frozen?, h1], by simp [World.frozen?, h1], by simp [World.frozen?, h1], by simp [World.frozen?, h1], by simp [World.frozen?, h1], h2⟩
theorem sc_ints {w : World} {base g n cap : Nat} {l : List Int} (h : So eI w base (.slice (some ⟨g, 0, none⟩) n cap) l) {i : Nat} (hi : i < l.length) :
  ∃ s a m c, w.cell? ⟨g, i * 2, none⟩ = some (.bool s) /\ w.cell? ⟨g, i * 2 + 1, none⟩ = some (.slice a m c) /\ It w (.agg #[.bool s, .slice a m c]) (l.getD i 0) /\
   w.frozen? ⟨g, i * 2, none⟩ = false /\ w.frozen? ⟨g, i * 2 + 1, none⟩ = false := by
 obtain ⟨s, a, m, c, p0, p1, hx⟩ := h.sc.int hi;rw [Nat.zero_add] at p0 p1;obtain ⟨xs, ⟨k1, k2⟩, -⟩ := h;rcases k2 with ⟨e, -⟩ | ⟨g', cap', cur, e, k3, k4, k5, k6, k7, k8⟩
 ·injection e with e1; cases e1
 injection e with e1 e2 e3;injection e1 with e1;injection e1 with e1;subst e1;exact ⟨s, a, m, c, p0, p1, hx, by simp [World.frozen?, k4], by simp [World.frozen?, k4]⟩
end
attribute [local go_sem ↓] Go.wp_at_zero Go.wp_at_succ
theorem sc_cells {w : World} {base g n cap : Nat} {l : List (Int × Int)} (h : So eP w base (.slice (some ⟨g, 0, none⟩) n cap) l) {i : Nat} (hi : i < l.length) :
  ∃ s a m c, w.cell? ⟨g, i * 3, none⟩ = some (.bool s) /\ w.cell? ⟨g, i * 3 + 1, none⟩ = some (.slice a m c) /\ w.cell? ⟨g, i * 3 + 2, none⟩ = some (.int .i64 (l.getD i (0, 0)).2) /\ It w (.agg #[.bool s, .slice a m c]) (l.getD i (0, 0)).1 /\
   w.frozen? ⟨g, i * 3, none⟩ = false /\ w.frozen? ⟨g, i * 3 + 1, none⟩ = false /\ w.frozen? ⟨g, i * 3 + 2, none⟩ = false := by
 obtain ⟨s, a, m, c, p0, p1, p2, hx⟩ := h.sc.pow hi;rw [Nat.zero_add] at p0 p1 p2;obtain ⟨xs, ⟨k1, k2⟩, -⟩ := h;rcases k2 with ⟨e, -⟩ | ⟨g', cap', cur, e, k3, k4, k5, k6, k7, k8⟩
 ·injection e with e1; cases e1
 injection e with e1 e2 e3;injection e1 with e1;injection e1 with e1;subst e1;exact ⟨s, a, m, c, p0, p1, p2, hx, by simp [World.frozen?, k4], by simp [World.frozen?, k4], by simp [World.frozen?, k4]⟩
theorem So.set3 {w : World} {base g n cap : Nat} {l : List (Int × Int)} (h : So eP w base (.slice (some ⟨g, 0, none⟩) n cap) l) {i : Nat} (hi : i < l.length) {s : Bool} {a : Option Addr} {m c : Nat} {x : Int × Int} (hx : It w (.agg #[.bool s, .slice a m c]) x.1) :
  So eP (((w.setCell ⟨g, i * 3, none⟩ (.bool s)).setCell ⟨g, i * 3 + 1, none⟩ (.slice a m c)).setCell ⟨g, i * 3 + 2, none⟩ (.int .i64 x.2)) base (.slice (some ⟨g, 0, none⟩) n cap) (l.set i x) :=
 h.setE hi (cs := [.bool s, .slice a m c, .int .i64 x.2]) ⟨s, a, m, c, rfl, hx⟩
theorem So.set2 {w : World} {base g n cap : Nat} {l : List Int} (h : So eI w base (.slice (some ⟨g, 0, none⟩) n cap) l) {i : Nat} (hi : i < l.length) {s : Bool} {a : Option Addr} {m c : Nat} {x : Int} (hx : It w (.agg #[.bool s, .slice a m c]) x) :
  So eI ((w.setCell ⟨g, i * 2, none⟩ (.bool s)).setCell ⟨g, i * 2 + 1, none⟩ (.slice a m c)) base (.slice (some ⟨g, 0, none⟩) n cap) (l.set i x) /\ ButS (fun k => k = g) w ((w.setCell ⟨g, i * 2, none⟩ (.bool s)).setCell ⟨g, i * 2 + 1, none⟩ (.slice a m c)) :=
 ⟨h.setE hi (cs := [.bool s, .slice a m c]) ⟨s, a, m, c, rfl, hx⟩, (ButS.set w g _ _).trans (ButS.set _ g _ _)⟩
theorem set3_but (w : World) (g i : Nat) (x y z : Value) : ButS (fun k => k = g) w (((w.setCell ⟨g, i * 3, none⟩ x).setCell ⟨g, i * 3 + 1, none⟩ y).setCell ⟨g, i * 3 + 2, none⟩ z) :=
 ((ButS.set w g _ x).trans (ButS.set _ g _ y)).trans (ButS.set _ g _ z)
theorem rsorted_any (va : Value) (l : List (Int × Int)) (w : World) (ha : Sr eP w va l) (hL : szL l) (hN : l.length <= 1000000000) :
  Calls Tryz.prog 32 #[va] w fun e w' => ∃ v m, e = .returned v /\ So eP w' w.heap.size v m /\ SrtZ l m /\ Below w.heap.size w w' := by
 obtain ⟨a, ca, rfl, hra⟩ := id ha;clear hra;go_enter Tryz.func32, Tryz.ntmps32
 have hb0 := below_new w (.cells #[] 41);have hS0 := So.lit0 eP w (base := w.heap.size) (Nat.le_refl _);have hA0 := ha.alloc (.cells #[] 41);have hln : ([] : List (Int × Int)).length + l.length <= 1099511627776 := by simp; omega
 clear ha;go_wp2_with (at_builtin; go_must (refine wpl_apSr (E := eP) rfl (.tmp 7) (.tmp 8) _ rfl Tryz.underlying30 w.heap.size _ _ [] l rfl hS0 hb0.size rfl hA0 hln ?_); intro v1 w1 hS1 hb1 hg1 hne1)
 rw [List.nil_append] at hS1;have hBl := ButS.below hb0 hb1 hb0.size (fun g hg => (hS0.lt g hg).1)
 have hform : ∃ g cap, v1 = .slice (some ⟨g, 0, none⟩) l.length cap /\ w.heap.size <= g := by
  rcases hS1.form with ⟨e, -⟩ | ⟨g, cap, e, h2, -⟩
  ·exact absurd e (hne1 (fun e => by injection e with e; cases e))
  ·exact ⟨g, cap, e, h2⟩
 obtain ⟨g, cap, rfl, hg⟩ := hform;clear hb0 hS0 hA0 hb1 hg1 hne1 hln;obtain ⟨N, hNl⟩ : ∃ N, l.length = N := ⟨_, rfl⟩;rw [hNl] at hS1 hN |-;have HNL := Lib.hid hNl;have HS1 := Lib.hid hS1;have HBL := Lib.hid hBl;have HL := Lib.hid hL;clear hNl hS1 hBl hL;go_wp2_with fail
 go_loopw [4, 5, 6] (fun s4 s5 s6 wr => ∃ (i : Nat) (m : List (Int × Int)), s4 = .int .i64 (i : Int) /\ 1 <= i /\ (i <= N \/ i = 1) /\ m.length = N /\ m.Perm l /\ SoTo m i /\ So eP wr w.heap.size (.slice (some ⟨g, 0, none⟩) N cap) m /\ Below w.heap.size w wr)
  (fun s4 _ _ _ => N - (intOf s4).toNat)
 case atStart => exact ⟨1, l, rfl, Nat.le_refl _, .inr rfl, HNL.out, List.Perm.refl _, fun a b _ _ => by omega, HS1.out, HBL.out⟩
 case round =>
  obtain ⟨i, m, rfl, hi1, hi2, hlm, hpm, hso, hS, hBl⟩ := hrel;by_cases hlt : i < N
  ·have i1 : (i : Int) < (N : Int) := by omega
   have HSO := Lib.hid hso;have HPM := Lib.hid hpm;have HLM := Lib.hid hlm;have HSI := Lib.hid hS;have HBI := Lib.hid hBl;clear hso hpm hlm hS hBl;go_wp2_with fail
   go_loopw [5, 6] (fun s5 s6 wq => ∃ (k : Nat) (q : List (Int × Int)), s5 = .int .i64 (k : Int) /\ k <= i /\ q.length = N /\ q.Perm l /\ InsI q i k /\ So eP wq w.heap.size (.slice (some ⟨g, 0, none⟩) N cap) q /\ Below w.heap.size w wq)
    (fun s5 _ _ => (intOf s5).toNat)
   case atStart => exact ⟨i, m, rfl, Nat.le_refl _, HLM.out, HPM.out, HSO.out.ins, HSI.out, HBI.out⟩
   case round =>
    obtain ⟨k, q, rfl, hk, hlq, hpq, hin, hS, hBl⟩ := hrel;clear HSO HPM HLM HSI HBI;have HIN := Lib.hid hin;have HPQ := Lib.hid hpq;clear hin hpq;by_cases hk0 : 0 < k
    ·obtain ⟨j, rfl⟩ : ∃ j, k = j + 1 := ⟨k - 1, by omega⟩;obtain ⟨s1, a1, n1, c1, p0, p1, p2, hx, f0, f1, f2⟩ := sc_cells hS (i := j) (by omega);obtain ⟨s2, a2, n2, c2, q0, q1, q2, hy, g0, g1, g2⟩ := sc_cells hS (i := j + 1) (by omega);have hszx : sz (q.getD j (0, 0)).1 <= 1099511627776 := HL.out.2 _ (HPQ.out.mem_iff.1 (by rw [List.getD_eq_getElem?_getD, List.getElem?_eq_getElem (by omega)]; exact List.getElem_mem _));have hszy : sz (q.getD (j + 1) (0, 0)).1 <= 1099511627776 := HL.out.2 _ (HPQ.out.mem_iff.1 (by rw [List.getD_eq_getElem?_getD, List.getElem?_eq_getElem (by omega)]; exact List.getElem_mem _));obtain ⟨x, hx0⟩ : ∃ x, q.getD j (0, 0) = x := ⟨_, rfl⟩;obtain ⟨y, hy0⟩ : ∃ y, q.getD (j + 1) (0, 0) = y := ⟨_, rfl⟩;rw [hx0] at p2 hx hszx;rw [hy0] at q2 hy hszy;have HX := Lib.hid hx0;have HY := Lib.hid hy0;have HS := Lib.hid hS;have HB := Lib.hid hBl;have HLQ := Lib.hid hlq;clear hx0 hy0 hS hBl hlq;have j0 : (j : Int) + 1 > 0 := by omega
     have j2 : (j : Int) < (N : Int) := by omega
     have j3 : (j : Int) + 1 < (N : Int) := by omega
     have j4 : (0 : Int) <= (j : Int) := by omega
     have j5 : (0 : Int) <= (j : Int) + 1 := by omega
     have w1 : IntKind.i64.wrap (j : Int) = (j : Int) := by rw [IntKind.wrap_i64]; omega
     go_upto_region 6 with fail;refine wp_region_T (by kernel_rfl) [] (S := fun w' => w'.cell? ⟨g, j * 3, none⟩ = some (.bool s1) /\ w'.cell? ⟨g, j * 3 + 1, none⟩ = some (.slice a1 n1 c1) /\ w'.cell? ⟨g, (j + 1) * 3, none⟩ = some (.bool s2) /\ w'.cell? ⟨g, (j + 1) * 3 + 1, none⟩ = some (.slice a2 n2 c2)) ⟨p0, p1, q0, q1⟩ (fun hHeld => ?_);(refine kL 0 rfl ?_; refine kL 1 rfl ?_; refine kL 2 rfl ?_; refine kL 3 rfl ?_; refine kL 4 rfl ?_; refine kL 5 rfl ?_; refine kL 6 rfl ?_; refine kL 7 rfl ?_; refine kL 8 rfl ?_; refine kL 9 rfl ?_; refine kL 10 rfl ?_; refine kL 11 rfl ?_; refine kL 12 rfl ?_; refine kL 13 rfl ?_)
     (refine oL 14 rfl fun K hK => tL ?_; go_simp);refine (rcmp_any _ _ x.1 y.1 _ hx.drew hy.drew (Nat.le_trans hszx (by decide)) (Nat.le_trans hszy (by decide))).mono ?_;rintro e w2 ⟨rfl, hb2⟩;have HS2 := Lib.hid ((HS.out.drew).up hb2);have HB2 := Lib.hid (Bl.up (Bl.drew HB.out) hb2);(go_wp2_with fail; clear hHeld; refine nxL hK ⟨keepc hb2 (cellD p0), keepc hb2 (cellD p1), keepc hb2 (cellD q0), keepc hb2 (cellD q1)⟩ fun hHeld => tL ?_; clear hK);(refine kL 15 rfl ?_; refine kL 16 rfl ?_)
     refine dT ?_;clear hHeld p0 p1 p2 q0 q1 q2 f0 f1 f2 g0 g1 g2 hb2 hx hy HS HB;obtain ⟨s1, a1, n1, c1, p0, p1, p2, hx, f0, f1, f2⟩ := sc_cells HS2.out (i := j) (by rw [HLQ.out]; omega);obtain ⟨s2, a2, n2, c2, q0, q1, q2, hy, g0, g1, g2⟩ := sc_cells HS2.out (i := j + 1) (by rw [HLQ.out]; omega);rw [HX.out] at p2 hx;rw [HY.out] at q2 hy;by_cases hgt : y.1 < x.1
     ·have hc : cmpI x.1 y.1 > 0 := by unfold cmpI; split <;> (try split) <;> omega
      have HGT := Lib.hid hgt;have HX1 := Lib.hid hx;have HY1 := Lib.hid hy;generalize cmpI x.1 y.1 = cc at *;clear hgt hx hy;have hD := heap_alloc_new w2 (.cells #[.bool s2, .slice a2 n2 c2, .int .i64 y.2] 41);have hbn := below_new w2 (.cells #[.bool s2, .slice a2 n2 c2, .int .i64 y.2] 41);go_upto_region 9 with fail;clear q0 q1 q2 g0 g1 g2 p0 p1 p2 f0 f1 f2;have HS3 := Lib.hid (HS2.out.up hbn);have HY3 := Lib.hid (HY1.out.alloc (.cells #[.bool s2, .slice a2 n2 c2, .int .i64 y.2] 41));have HX3 := Lib.hid (HX1.out.alloc (.cells #[.bool s2, .slice a2 n2 c2, .int .i64 y.2] 41));have HB3 := Lib.hid (Bl.up HB2.out hbn);have hg2 : g < w2.heap.size := (HS2.out.lt g rfl).2;clear hbn HS2 HB2 HX1 HY1;generalize hw3 : w2.alloc (.cells #[.bool s2, .slice a2 n2 c2, .int .i64 y.2] 41) = w3 at *;clear hw3;obtain ⟨s3, a3, n3, c3, p0, p1, p2, hx, f0, f1, f2⟩ := sc_cells HS3.out (i := j) (by rw [HLQ.out]; omega);obtain ⟨s4, a4, n4, c4, q0, q1, q2, hy, g0, g1, g2⟩ := sc_cells HS3.out (i := j + 1) (by rw [HLQ.out]; omega);rw [HX.out] at p2 hx;rw [HY.out] at q2 hy;have b0 : w3.cell? ⟨w2.heap.size, 0, none⟩ = some (.bool s2) := by simp [World.cell?, hD]
      have b1 : w3.cell? ⟨w2.heap.size, 1, none⟩ = some (.slice a2 n2 c2) := by simp [World.cell?, hD]
      have b2 : w3.cell? ⟨w2.heap.size, 2, none⟩ = some (.int .i64 y.2) := by simp [World.cell?, hD]
      have hne : w2.heap.size ≠ g := by omega
      generalize w2.heap.size = Bx at *;have hlt3 : Bx < w3.heap.size := (Array.getElem?_eq_some_iff.1 hD).1;clear hD hg2;have HX4 := Lib.hid hx;clear hx hy;go_upto_region 10 with fail;have hS4 := HS3.out.set3 (i := j + 1) (by rw [HLQ.out]; omega) HX4.out;have hb4 := set3_but w3 g (j + 1) (.bool s3) (.slice a3 n3 c3) (.int .i64 x.2);have hn4 : ∀ g', g' = g -> NoW w3 g' := fun g' e => by rw [e]; exact HS3.out.nw g rfl
      have hY4 := HY3.out.fr hb4 hn4;have hB4 := ButS.below HB3.out hb4 HB3.out.size (fun g' e => by rw [e]; exact hg);replace b0 := cell_fr hb4 hlt3 hne b0;replace b1 := cell_fr hb4 hlt3 hne b1;replace b2 := cell_fr hb4 hlt3 hne b2;have HS4 := Lib.hid hS4;have HY4 := Lib.hid hY4;have HB4 := Lib.hid hB4;clear p0 p1 p2 f0 f1 f2 q0 q1 q2 g0 g1 g2 hS4 hb4 hn4 hY4 hB4 HS3 HY3 HB3 HX4 HX3;generalize ((w3.setCell ⟨g, (j + 1) * 3, none⟩ (.bool s3)).setCell ⟨g, (j + 1) * 3 + 1, none⟩ (.slice a3 n3 c3)).setCell ⟨g, (j + 1) * 3 + 2, none⟩ (.int .i64 x.2) = w4 at *;obtain ⟨s5, a5, n5, c5, p0, p1, p2, hx, f0, f1, f2⟩ := sc_cells HS4.out (i := j) (by rw [List.length_set, HLQ.out]; omega);clear hx;go_wp2_with fail;have hS5 := HS4.out.set3 (i := j) (by rw [List.length_set, HLQ.out]; omega) HY4.out;have hb5 := set3_but w4 g j (.bool s2) (.slice a2 n2 c2) (.int .i64 y.2);have hB5 := ButS.below HB4.out hb5 HB4.out.size (fun g' e => by rw [e]; exact hg);have e5 : (q.set (j + 1) x).set j y = swP q (j + 1) := by unfold swP; rw [show j + 1 - 1 = j by omega, HX.out, HY.out]
      rw [e5] at hS5;have hjq : j + 1 < q.length := by rw [HLQ.out]; omega
      refine ⟨⟨j, swP q (j + 1), by go_num, by omega, by rw [swP_len]; exact HLQ.out, (swP_perm hjq).trans HPQ.out, ?_, hS5, hB5⟩, by simp [intOf]⟩;refine HIN.out.step (Nat.succ_pos j) hk (by rw [HLQ.out]; exact hlt) ?_;unfold kyP;have h1 := HX.out;have h2 := HY.out;rw [h2, show j + 1 - 1 = j by omega, h1];exact HGT.out
     ·have hc : ¬ cmpI x.1 y.1 > 0 := by unfold cmpI; split <;> (try split) <;> omega
      have HGT := Lib.hid hgt;generalize cmpI x.1 y.1 = cc at *;clear hgt hx hy p0 p1 p2 f0 f1 f2 q0 q1 q2 g0 g1 g2;go_wp2_with fail;refine ⟨⟨i + 1, q, by go_num, by omega, .inl (by omega), HLQ.out, HPQ.out, HIN.out.done hk (.inr ?_), HS2.out, HB2.out⟩, by simp [intOf]; omega⟩;have h1 := HX.out;have h2 := HY.out;have h3 := HGT.out;unfold kyP;rw [h2, show j + 1 - 1 = j by omega, h1];omega
    ·obtain rfl : k = 0 := by omega
     have HSS := Lib.hid hS;have HBB := Lib.hid hBl;clear hS hBl;go_upto_region 6 with fail;refine wp_region_T (by kernel_rfl) [] (S := fun w' => True) trivial (fun hHeld => ?_);(refine kL 0 rfl ?_; refine kL 1 rfl ?_; refine kL 2 rfl ?_)
     (refine uL 3 rfl ?_; refine uL 4 rfl ?_; refine uL 5 rfl ?_; refine uL 6 rfl ?_; refine uL 7 rfl ?_; refine uL 8 rfl ?_; refine uL 9 rfl ?_; refine uL 10 rfl ?_; refine uL 11 rfl ?_; refine uL 12 rfl ?_; refine uL 13 rfl ?_; refine uL 14 rfl ?_; refine uL 15 rfl ?_)
     refine kL 16 rfl ?_;refine dT ?_;clear hHeld;go_wp2_with fail;refine ⟨⟨i + 1, q, by go_num, by omega, .inl (by omega), hlq, HPQ.out, HIN.out.done (Nat.zero_le _) (.inl rfl), HSS.out.drew, Bl.drew HBB.out⟩, by simp [intOf]; omega⟩
  ·have HS := Lib.hid hS;have HBl := Lib.hid hBl;have HZ := Lib.hid (SoTo.srt (by rw [hlm]; exact fun a b h1 h2 => hso a b h1 (by omega)) hpm);clear hS hBl hso hpm;go_wp2_with fail;go_ret
   exact ⟨_, m, rfl, HS.out, HZ.out, HBl.out⟩
end Go.Proofs.YtblebpmlkpobnaaGreatDoor
