/-
  What comes into a law of Factor: descriptions of factorizations.
-/
import Derived.Deep.Slices
import Derived.OpenShut
import Derived.Test.YtblebpmlkpobnaaGreatDoorFY
import Derived.Test.YtblebpmlkpobnaaGreatDoorFZA
set_option linter.unusedSimpArgs false
set_option linter.unusedVariables false
set_option maxRecDepth 100000
namespace Go.Proofs.YtblebpmlkpobnaaGreatDoor
open Go.ChangeShapes Go.WideShapes Go.ChangeAt Go.RowKit Go.Deep
theorem tU8_wf {z : Int} (h : (Lit.int .u8 z).wf = true) : 0 <= z /\ z <= 255 := by
 simpa [Lit.wf, IntKind.min, IntKind.max, IntKind.signed, IntKind.bits] using h
theorem tU16_wf {z : Int} (h : (Lit.int .u16 z).wf = true) : 0 <= z /\ z <= 65535 := by
 simpa [Lit.wf, IntKind.min, IntKind.max, IntKind.signed, IntKind.bits] using h
theorem cells_tri : Tryz.prog.cellsOf 72 = 3 := by kernel_rfl
theorem cells_tu8 : Tryz.prog.cellsOf 5 = 1 := by kernel_rfl
theorem spot_of {w : World} {a : Addr} {v : Value} (h : w.cell? a = some v) : ∃ b off, a = ⟨b, off, none⟩ := by
 obtain ⟨b, off, sp⟩ := a
 cases sp with
 | none => exact ⟨b, off, rfl⟩
 | some s =>
   exfalso
   unfold World.cell? at h;split at h
   ·simp at h
   ·cases h
variable {H : Type} {enc : TypeId × Value -> H} {w : World}
theorem open_tris {fuel : Nat} {x : DataW H × List MemPlace} {cs : List Value} (h : DataW.trod enc Tryz.prog w 0 (fun _ => true) true fuel 22 cs = some x) :
  ∃ (a : Option Addr) (cap : Nat) (l : List Tri), cs = [.slice a l.length cap] /\ Sr e3 w (.slice a l.length cap) l /\ l.length <= 9223372036854775807 := by
 rcases open_slice Tryz.underlying22 h with ⟨rfl, -⟩ | ⟨a, len, cap, m, n, D, Pl, rfl, hb, hl, hm, hmm, -, hx⟩
 ·exact ⟨none, 0, [], rfl, Sr.nil _ _, by decide⟩
 ·have hlm : len <= m := by rw [hmm]; split <;> omega
  rw [cells_tri] at hx
  have each : ∀ i, i < len -> ∃ y : Tri, y.1 < 256 /\ y.2.1 < 256 /\ y.2.2 < 256 /\ w.cell? (a.add (i * 3)) = some (.int .u8 (y.1 : Int)) /\ w.cell? (a.add (i * 3 + 1)) = some (.int .u8 (y.2.1 : Int)) /\ w.cell? (a.add (i * 3 + 2)) = some (.int .u8 (y.2.2 : Int)) := by
   intro i hi;obtain ⟨cs', h1, h2⟩ := hx i (by omega);obtain ⟨_, hlen, hcell⟩ := World.cells?_some h1;obtain ⟨xs, k, -, -, -, hxl, hf⟩ := DataW.trod_array Tryz.underlying72 h2;rw [cells_tu8] at hf;match xs, hxl, cs', hlen with
   | [y0, y1, y2], _, [v0, v1, v2], _ =>
     have g0 := hf 0 (by decide);have g1 := hf 1 (by decide);have g2 := hf 2 (by decide);simp only [Nat.mul_one, Nat.zero_mul, List.drop_zero, List.drop_succ_cons, List.take_succ_cons, List.take_zero, List.getElem?_cons_zero, List.getElem?_cons_succ] at g0 g1 g2;obtain ⟨z0, e0, -, w0⟩ := DataW.trod_int Tryz.underlying5 g0;obtain ⟨z1, e1, -, w1⟩ := DataW.trod_int Tryz.underlying5 g1;obtain ⟨z2, e2, -, w2⟩ := DataW.trod_int Tryz.underlying5 g2;injection e0 with e0;injection e1 with e1;injection e2 with e2;subst e0 e1 e2;have q0 := tU8_wf w0;have q1 := tU8_wf w1;have q2 := tU8_wf w2;obtain ⟨X0, rfl⟩ : ∃ X : Nat, z0 = X := ⟨z0.toNat, by omega⟩;obtain ⟨X1, rfl⟩ : ∃ X : Nat, z1 = X := ⟨z1.toNat, by omega⟩;obtain ⟨X2, rfl⟩ : ∃ X : Nat, z2 = X := ⟨z2.toNat, by omega⟩;have c0 := hcell 0 (by omega);have c1 := hcell 1 (by omega);have c2 := hcell 2 (by omega);rw [add_add] at c0 c1 c2;exact ⟨(X0, X1, X2), by show X0 < 256; omega, by show X1 < 256; omega, by show X2 < 256; omega, c0, c1, c2⟩
  obtain ⟨q, hq⟩ := choose_lt each;have hL : ((List.range len).map q).length = len := by simp
  refine ⟨some a, cap, (List.range len).map q, by rw [hL], ⟨some a, cap, rfl, by rw [hL]; exact hl, ?_⟩, by rw [hL]; unfold maxLen at hm; omega⟩;rcases Nat.eq_zero_or_pos len with h0 | h0
  ·left; rw [h0]; rfl
  ·right
   have hc0 := (hq 0 h0).2.2.2.1
   obtain ⟨b, off, rfl⟩ : ∃ b off, a = ⟨b, off, none⟩ := by
    rw [Nat.zero_mul] at hc0;have e : a.add 0 = a := by unfold Addr.add; simp
    rw [e] at hc0;exact spot_of hc0
   refine ⟨b, off, rfl, ?_, fun i hi => ?_⟩
   ·have e : (⟨b, off, none⟩ : Addr).add (0 * 3) = ⟨b, off, none⟩ := by unfold Addr.add; simp
    rw [e] at hc0;exact World.block_lt_of_cell? w _ hc0
   ·rw [hL] at hi;obtain ⟨q1, q2, q3, d0, d1, d2⟩ := hq i hi
    have ea : ∀ j, (⟨b, off, none⟩ : Addr).add j = ⟨b, off + j, none⟩ := fun j => by
     unfold Addr.add;split
     ·rename_i h; subst h; rfl
     ·rfl
    rw [ea] at d0 d1 d2;have eq : ((List.range len).map q)[i]'(by rw [hL]; exact hi) = q i := by simp
    rw [eq];refine ⟨[.int .u8 ((q i).1 : Int), .int .u8 ((q i).2.1 : Int), .int .u8 ((q i).2.2 : Int)], ⟨rfl, q1, q2, q3⟩, fun j u e => ?_⟩;match j, e with
    | 0, e => injection e with e; subst e; exact d0
    | 1, e => injection e with e; subst e; rw [<- Nat.add_assoc] at d1; exact d1
    | 2, e => injection e with e; subst e; rw [<- Nat.add_assoc] at d2; exact d2
    | j + 3, e => simp at e
theorem open_dx {v : Value} {d : DataW H} {p : List MemPlace} {r : Reach} {b0 : Nat} (hv : Value.okWide Tryz.prog w r b0 25 v) (h : DataW.Trod enc Tryz.prog w 0 (fun _ => true) true 25 v d p) :
  ∃ l b, Dx w v l b := by
 obtain ⟨v0, v1, y0, y1, n, rfl, -, -, h0, h1⟩ := Joins.open_agg2 Tryz.underlying25 (by kernel_rfl) (by kernel_rfl) hv h;obtain ⟨a, cap, l, e, hs, hl⟩ := open_tris h0;injection e with e;obtain ⟨z, e1, -, wz⟩ := DataW.trod_int Tryz.underlying23 h1;injection e1 with e1;subst e e1;have q := tU16_wf wz;obtain ⟨X, rfl⟩ : ∃ X : Nat, z = X := ⟨z.toNat, by omega⟩;exact ⟨l, X, a, cap, rfl, by omega, hs, hl⟩
end Go.Proofs.YtblebpmlkpobnaaGreatDoor
