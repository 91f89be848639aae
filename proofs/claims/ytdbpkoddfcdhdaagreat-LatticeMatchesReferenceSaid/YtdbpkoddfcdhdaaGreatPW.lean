/-
  What comes into a law: arrays of numbers, descriptions of matrices.
-/
import Derived.Lib.SmallJoins
import Derived.Test.YtdbpkoddfcdhdaaGreatPQ
set_option linter.unusedSimpArgs false
set_option linter.unusedVariables false

namespace Go.Proofs.YtdbpkoddfcdhdaaGreat
open Go.ChangeShapes Go.WideShapes Go.ChangeAt Go.RowKit

section
variable {H : Type} {enc : TypeId × Value → H} {P : Program} {w : World} {base : Nat} {spare : Nat → Bool} {held : Bool}

theorem mapM_each {α β : Type} {f : α → Option β} : ∀ {L : List α} {xs : List β}, L.mapM f = some xs → ∀ i ∈ L, ∃ y, f i = some y
  | [], _, _, i, hi => absurd hi (by simp)
  | a :: L, xs, h, i, hi => by
    rw [List.mapM_cons] at h
    simp only [bind, Option.bind_eq_some_iff, pure, Option.some.injEq] at h
    obtain ⟨y, hy, ys, hys, rfl⟩ := h
    rcases List.mem_cons.1 hi with e | e
    · rw [e]; exact ⟨y, hy⟩
    · exact mapM_each hys i e

/-- An array of numbers, by value. -/
theorem open_nums {r : Reach} {b0 n : Nat} {t e : TypeId} {k : IntKind} {v : Value} {d : DataW H} {p : List MemPlace} (ht : P.underlying t = some (.array n e)) (he : P.underlying e = some (.int k)) (ce : P.cellsOf e = 1) (ct : P.cellsOf t = n)
    (hv : Value.okWide P w r b0 t v) (h : DataW.Trod enc P w base spare held t v d p) : ∃ zs : List Int, zs.length = n ∧ v = .agg (zs.map (Value.int k)).toArray ∧ ∀ z ∈ zs, (Lit.int k z).wf = true := by
  simp only [Value.okWide, ht] at hv
  obtain ⟨cs, rfl, hsz, -⟩ := hv
  rw [ct] at hsz
  obtain ⟨fuel, hf⟩ := h
  have hall : ∀ i, i < n → ∃ z, cs.toList[i]? = some (.int k z) ∧ (Lit.int k z).wf = true := by
    intro i hi
    cases fuel with
    | zero => simp [DataW.trod] at hf
    | succ m =>
      rw [DataW.trod_step] at hf
      unfold DataW.trodStep at hf
      simp only [ht, Value.cells] at hf
      rw [if_pos (by rw [ct]; simpa using hsz)] at hf
      simp only [Option.map_eq_some_iff] at hf
      obtain ⟨xs, hx, -⟩ := hf
      obtain ⟨y, hy⟩ := mapM_each hx i (List.mem_range.2 hi)
      rw [ce, Nat.mul_one] at hy
      have hl : i < cs.toList.length := by simpa [hsz] using hi
      rw [List.drop_eq_getElem_cons hl] at hy
      simp only [List.take_succ_cons, List.take_zero] at hy
      obtain ⟨z, hz, -, hw⟩ := DataW.trod_int he hy
      injection hz with hz
      exact ⟨z, by rw [List.getElem?_eq_getElem hl, hz], hw⟩
  refine ⟨cs.toList.map fun x => match x with | .int _ z => z | _ => 0, by simp [hsz], ?_, ?_⟩
  · congr 1
    apply Array.toList_inj.1
    simp only [List.map_map]
    refine List.ext_getElem? fun i => ?_
    rcases Nat.lt_or_ge i n with hi | hi
    · obtain ⟨z, hz, -⟩ := hall i hi
      rw [hz, List.getElem?_map, hz]; rfl
    · rw [List.getElem?_eq_none (by simpa [hsz] using hi), List.getElem?_eq_none (by simpa [hsz] using hi)]
  · intro z hz
    obtain ⟨x, hx, rfl⟩ := List.mem_map.1 hz
    obtain ⟨i, hi, e⟩ := List.mem_iff_getElem.1 hx
    obtain ⟨z, hz, hw⟩ := hall i (by simpa [hsz] using hi)
    rw [List.getElem?_eq_getElem hi, e] at hz
    injection hz with hz
    rw [hz]; exact hw
end

theorem cells_u8 : Tryz.prog.cellsOf 5 = 1 := by kernel_rfl
theorem cells_i8 : Tryz.prog.cellsOf 45 = 1 := by kernel_rfl
theorem u8_wf {z : Int} (h : (Lit.int .u8 z).wf = true) : 0 ≤ z ∧ z ≤ 255 := by simpa [Lit.wf, IntKind.min, IntKind.max, IntKind.signed, IntKind.bits] using h
theorem i8_wf {z : Int} (h : (Lit.int .i8 z).wf = true) : -128 ≤ z ∧ z ≤ 127 := by simpa [Lit.wf, IntKind.min, IntKind.max, IntKind.signed, IntKind.bits] using h
theorem i16_wf {z : Int} (h : (Lit.int .i16 z).wf = true) : -32768 ≤ z ∧ z ≤ 32767 := by simpa [Lit.wf, IntKind.min, IntKind.max, IntKind.signed, IntKind.bits] using h

set_option maxRecDepth 100000 in
/-- A description of a matrix. -/
theorem open_raw {H : Type} {enc : TypeId × Value → H} {w : World} {v : Value} {d : DataW H} {p : List MemPlace} {r : Reach} {b0 : Nat} (hv : Value.okWide Tryz.prog w r b0 24 v) (h : DataW.Trod enc Tryz.prog w 0 (fun _ => true) true 24 v d p) :
    ∃ (x y : Nat) (a : Option Addr) (cap : Nat) (V : List Int), v = .agg #[.int .u8 (x : Int), .int .u8 (y : Int), .slice a V.length cap] ∧ x ≤ 255 ∧ y ≤ 255 ∧ Cl w a V.length (fun i => .int .i8 (V.getD i 0)) ∧ (∀ i, -128 ≤ V.getD i 0 ∧ V.getD i 0 ≤ 127) ∧ V.length ≤ 9223372036854775807 := by
  obtain ⟨v0, v1, v2, y0, y1, y2, n, rfl, -, -, h0, h1, h2⟩ := Joins.open_agg3 Tryz.underlying24 (by kernel_rfl) (by kernel_rfl) hv h
  obtain ⟨x, e0, -, wx⟩ := DataW.trod_int Tryz.underlying5 h0
  obtain ⟨y, e1, -, wy⟩ := DataW.trod_int Tryz.underlying5 h1
  injection e0 with e0
  injection e1 with e1
  subst e0 e1
  have wx' := u8_wf wx
  have wy' := u8_wf wy
  obtain ⟨X, rfl⟩ : ∃ X : Nat, x = X := ⟨x.toNat, by omega⟩
  obtain ⟨Y, rfl⟩ : ∃ Y : Nat, y = Y := ⟨y.toNat, by omega⟩
  rcases open_ints Tryz.underlying22 Tryz.underlying45 cells_i8 h2 with ⟨hcs, -⟩ | ⟨a, len, cap, zs, hcs, -, hl, hm, hz, -, hcell, hwz⟩
  · injection hcs with hcs
    subst hcs
    exact ⟨X, Y, none, 0, [], rfl, by omega, by omega, .inl rfl, fun i => by simp, by decide⟩
  · injection hcs with hcs
    subst hcs
    have hzl : len ≤ zs.length := by rw [hz]; split <;> omega
    have hwf : ∀ i, i < zs.length → -128 ≤ zs.getD i 0 ∧ zs.getD i 0 ≤ 127 := fun i hi => by
      have := hwz (zs.getD i 0) (by rw [List.getD_eq_getElem?_getD, List.getElem?_eq_getElem hi]; exact List.getElem_mem hi)
      exact i8_wf this
    have hln : (zs.take len).length = len := by rw [List.length_take]; omega
    refine ⟨X, Y, some a, cap, zs.take len, by rw [hln], by omega, by omega, ?_, fun i => ?_, by rw [hln]; unfold maxLen at hm; omega⟩
    · rw [hln]
      refine (cl_ints hzl hcell).congr fun i hi => ?_
      rw [show (zs.take len).getD i 0 = zs.getD i 0 by simp only [List.getD_eq_getElem?_getD]; rw [List.getElem?_take_of_lt hi]]
    · rcases Nat.lt_or_ge i len with hi | hi
      · rw [show (zs.take len).getD i 0 = zs.getD i 0 by simp only [List.getD_eq_getElem?_getD]; rw [List.getElem?_take_of_lt hi]]
        exact hwf i (by omega)
      · rw [show (zs.take len).getD i 0 = 0 by simp [List.getD_eq_getElem?_getD, List.getElem?_eq_none (show (zs.take len).length ≤ i by rw [hln]; exact hi)]]
        omega
end Go.Proofs.YtdbpkoddfcdhdaaGreat
