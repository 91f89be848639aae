/-
  The law FactorTrial holds: for all inputs it returns true, and its arguments read afterwards as before; its card (the table of math/bits is tied to the program's text).
-/
import Derived.LaidMore
import Derived.Lay
import Derived.SevenTiedAt
import Derived.MakeChecks
import Derived.Test.YtblebpmlkpobnaaGreatDoorTie
import Derived.Test.YtblebpmlkpobnaaGreatDoorCards
import Derived.Test.YtblebpmlkpobnaaGreatDoorFTC
import Derived.Test.YtblebpmlkpobnaaGreatDoorFYT
set_option linter.unusedSimpArgs false
set_option linter.unusedVariables false
set_option maxRecDepth 100000
namespace Go.Proofs.YtblebpmlkpobnaaGreatDoor
open Go.ChangeShapes Go.WideShapes Go.ChangeAt Go.RowKit
theorem tab_laid {W : World} (h : laidMetH Tryz.prog Rows.factorTrialRow.laid W) : TabAt 0 Lib.deBruijn64tab W := by
 intro r hr;have hr64 : r < 64 := hr;rw [MakeChecks.laidMetH_plain _ _ _ (by kernel_rfl)] at h;obtain ⟨ps, ⟨g, t, cs, fuel, p, q, hg, ht, hv, hd, _, _⟩, _, _⟩ := h;obtain rfl := Option.some.inj ((show Tryz.prog.globalNamed "math/bits.deBruijn64tab" = some 0 by kernel_rfl).symm.trans hg)
 obtain rfl := Option.some.inj ((show (Tryz.prog.globals[0]?).map (·.type) = some 160 by kernel_rfl).symm.trans ht);obtain ⟨xs, m, _, ex, _, hl, hel⟩ := DataW.trod_array Tryz.underlying160 hd;have c5 : Tryz.prog.cellsOf 5 = 1 := by kernel_rfl
 have hE := hel r hr;rw [c5, Nat.mul_one, List.getElem?_eq_getElem (by omega)] at hE;obtain ⟨z, e1, e2, _⟩ := DataW.trod_int Tryz.underlying5 hE;have hlen : Lib.deBruijn64tab.length = 64 := by kernel_rfl
 have e3 : (xs.map (·.1)) = Lib.deBruijn64tab.map fun (n : Nat) => .lit (.int .u8 (n : Int)) := (DataW.agg.inj (Prod.mk.inj ex).1).symm;have e4 : (xs.map (·.1))[r]? = (Lib.deBruijn64tab.map fun (n : Nat) => (DataW.lit (.int .u8 (n : Int)) : DataW Unit))[r]? := by rw [e3]
 rw [List.getElem?_map, List.getElem?_map, List.getElem?_eq_getElem (by omega : r < xs.length), List.getElem?_eq_getElem (by omega : r < Lib.deBruijn64tab.length), e2] at e4
 have hz : z = ((Lib.deBruijn64tab.getD r 0 : Nat) : Int) := by
  simp only [Option.map_some, Option.some.injEq, DataW.lit.injEq, Lit.int.injEq, true_and] at e4;rw [e4, List.getD, List.getElem?_eq_getElem (by omega : r < Lib.deBruijn64tab.length)]; rfl
 rw [World.var?_cell (show Tryz.prog.globalNamed "math/bits.deBruijn64tab" = some 0 by kernel_rfl) hv r, ← hz]
 have : cs.toList[r]? = some (.int .u8 z) := by
  have h0 : ((cs.toList.drop r).take 1)[0]? = some (.int .u8 z) := by rw [e1]; rfl
  simpa using h0
 simpa using this
theorem ftrial_lifted (os : Os) (started : os.Started) (H : Type) (enc : TypeId × Value -> H) :
  ReturnsInHanded {} Tryz.checked os 3 .any (fun w args => (Rows.factorTrialSpec.pre enc Tryz.prog Tryz.f3 Rows.factorTrialRow.domain false w args /\ laidMetH Tryz.prog Rows.factorTrialRow.laid w) /\ sizedMet enc Tryz.prog Tryz.f3 (OpenSpec.ofChange Rows.factorTrialSpec) false w args) (Rows.factorTrialSpec.post enc Tryz.prog Tryz.f3 false true false false) := by
 refine returnsInHanded_of_change_and (C := Tryz.checked) (X := fun w _ => laidMetH Tryz.prog Rows.factorTrialRow.laid w) (fun _ _ _ hh h => h.of_heap hh) Aown started (by kernel_rfl) Tryz.func3
  (ChangeSpec.witness_shaped (enc := enc) (C := Tryz.checked) (os := os) (X := fun w _ => laidMetH Tryz.prog Rows.factorTrialRow.laid w) false (World.laidAll Tryz.prog os Rows.factorTrialRow.laid) #[.agg #[.slice none 0 0, .int .u16 0], .int .u16 0] 8 (World.laidAll_os _ _ _)
   (World.shaped_of_ZipB (by kernel_rfl) (by kernel_rfl)) (by kernel_rfl) (by kernel_rfl) (by kernel_rfl)
   (by rw [MakeChecks.laidMetH_plain _ _ _ (by kernel_rfl)]; exact laidMet_laidAll _ (by kernel_rfl) (by kernel_rfl))) ?_
 intro W base args ds gs before hval0 hW hcnd _ hLd _;have hval : ∀ (j : Nat) t v, Tryz.f3.params[j]? = some t -> args[j]? = some v -> Value.okWide Tryz.prog W .any base t v := hval0;have hW' := hW;obtain ⟨p, q, hA0, hV, rfl, hfz, hnd⟩ := hW;have hA : DataW.TrodAll enc Tryz.prog W 0 (fun _ => true) true Tryz.f3.params.toList args.toList ds p := hA0;rw [Tryz.params3] at hA hval;obtain ⟨v0, v1, d0, d1, p0, p1, rfl, rfl, rfl, h0, h1⟩ := trodAll_two hA;obtain ⟨rfl, rfl⟩ := trodVars_none hV
 have fin : ∀ {W' : World}, Below W.heap.size W W' -> Rows.factorTrialSpec.post enc Tryz.prog Tryz.f3 false true false false W #[v0, v1] (.bool true) W' := fun hb =>
  law_post (tb := 4) AlaidOut (fun t ht => by rw [Tryz.params3] at ht; simp at ht; rcases ht with rfl | rfl <;> exact ⟨by kernel_rfl, of_decide_eq_true (by kernel_rfl)⟩) rfl Tryz.underlying4 rfl ⟨rfl, rfl, rfl⟩ hW' hb
 obtain ⟨L0, b0, D0⟩ := open_dx (hval 0 25 v0 rfl rfl) h0;obtain ⟨k1, rfl, rfl, rfl, wk1⟩ := open_int Tryz.underlying23 (hval 1 23 v1 rfl rfl) h1;have q1 := tU16_wf wk1;obtain ⟨K1, rfl⟩ : ∃ K : Nat, k1 = K := ⟨k1.toNat, by omega⟩;refine (?_ : Calls Tryz.prog 3 #[v0, .int .u16 (K1 : Int)] W _);have hk := ftrial_any v0 L0 b0 K1 W D0 (by omega) (tab_laid hLd);refine hk.mono fun e W' ⟨he, hb⟩ => ?_;subst he;exact ⟨_, rfl, fin hb⟩
theorem ftrial_row : Rows.FactorTrialSaid :=
 OpenClaim.holds_of_wide 3 Tryz.f3 rfl rfl rfl rfl rfl rfl rfl ⟨rfl, rfl, rfl, rfl, rfl⟩ rfl rfl rfl rfl rfl (by kernel_rfl) Tryz.func3 (by kernel_rfl)
  (of_decide_eq_true (by kernel_rfl)) (by unfold Func.isWrapper; first | (rw [if_pos (by decide +kernel)]; kernel_rfl) | (rw [if_neg (by decide +kernel)]; exact ⟨rfl, rfl⟩))
  (fun os started H enc _ => ftrial_lifted os started H enc)
theorem ftrial_holds : Rows.FactorTrialCardSaid :=
 Claim7.holds_tied_plain_at .later [] [.data] true (true, "fadb073bf0d9d0ebc7922958e8fd3b9efecd10b60c8db2b4c8c92cd99b55e22f") false ftrial_row (fun _ h => by cases h) (by kernel_rfl) (fun _ h => by cases h) factorTrial_row_tie rfl ⟨rfl, rfl⟩ (by kernel_rfl) rfl
  (fun f fn hf hfn => by
   obtain rfl : f = 3 := Option.some.inj ((show Tryz.prog.funcNamed "algorist/algoristlaw05.FactorTrial" = some 3 by kernel_rfl).symm.trans hf) |>.symm
   obtain rfl : fn = Tryz.f3 := (Option.some.inj (Tryz.func3.symm.trans hfn)).symm
   exact ⟨by kernel_rfl, fun j t ht => by
    rw [Tryz.params3] at ht;have hm : t ∈ [25, 23] := by simpa using Array.mem_of_getElem? ht
    have hall : ([25, 23].all fun u => !Tryz.prog.wantsStandIn u) = true := by kernel_rfl
    exact (show Tryz.prog.wantsStandIn t = false by simpa using List.all_eq_true.1 hall t hm)⟩)
  (by kernel_rfl)
end Go.Proofs.YtblebpmlkpobnaaGreatDoor
