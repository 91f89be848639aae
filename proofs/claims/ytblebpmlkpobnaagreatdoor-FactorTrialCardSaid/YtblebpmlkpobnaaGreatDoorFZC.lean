/-
  The reference of factor: Made.
-/
import Derived.Test.YtblebpmlkpobnaaGreatDoorFF
import Derived.Test.YtblebpmlkpobnaaGreatDoorFZB
import Derived.Test.YtblebpmlkpobnaaGreatDoorFZA
import Derived.Test.YtblebpmlkpobnaaGreatDoorFP1
set_option linter.unusedSimpArgs false
set_option linter.unusedVariables false
set_option maxRecDepth 100000
set_option maxHeartbeats 8000000
namespace Go.Proofs.YtblebpmlkpobnaaGreatDoor
section
variable {P : Program} {ops : Array Oper} {Q : Exit -> Act -> World -> Prop} {md : Region.Mode} {S S2 : World -> Prop} {st : List Nat}
def wpAnyU (P : Program) (md : Region.Mode) (ops : Array Oper) (Q : Exit -> Act -> World -> Prop) (S S2 : World -> Prop) (st : List Nat) : Nat -> Array Bool -> Act -> World -> Prop
 | 0, listed, a, w => Region.ready md ops listed = [] /\ Q .normal a w
 | fuel + 1, listed, a, w =>
   (Region.ready md ops listed = [] -> Q .normal a w) /\
   ∀ i ∈ Region.ready md ops listed, wpOp P ops Q i (fun a' w' => (S2 w' /\ (clean st (listed.setIfInBounds i true) = true -> S w')) /\ wpAnyU P md ops Q S S2 st fuel (listed.setIfInBounds i true) a' w') a w
theorem wpAny_of_U : ∀ (fuel : Nat) (listed : Array Bool) (a : Act) (w : World), wpAnyU P md ops Q S S2 st fuel listed a w -> wpAny P md ops Q fuel listed a w
 | 0, _, _, _, h => h
 | fuel + 1, _, _, _, h => ⟨h.1, fun i hi => wpOp_mono (fun a' w' h' => wpAny_of_U fuel _ a' w' h'.2) (h.2 i hi)⟩
theorem wpAnyU_first {i : Nat} {oi : Oper} {v : Value} (hi : ops[i]? = some oi) (hsel : ∀ (j : Nat) (o : Oper) cs b, ops[j]? = some o -> o.op ≠ .select cs b)
  (hQ : ∀ c a w, Q (.panic c) (a.put oi.dst v) w -> Q (.panic c) a w) (hst : (st.all fun j => needs md ops ops.size j i) = true) :
  ∀ (fuel : Nat) (listed : Array Bool) (a : Act) (w : World), Closed md ops listed ->
   (∀ j oj, ops[j]? = some oj -> j ≠ i -> listed.getD j true = false -> (∀ e ∈ oj.after, Region.binds md e = true -> e.on ≠ i) -> oi.apart ops oj = true) ->
   i ∈ Region.ready md ops listed -> YieldsIf P ops S oi v a -> S2 w -> S w ->
   wpAnyU P md ops Q S S2 st fuel (listed.setIfInBounds i true) (a.put oi.dst v) w -> wpAnyU P md ops Q S S2 st (fuel + 1) listed a w := by
 intro fuel;induction fuel with
 | zero =>
   intro listed a w hcl _ hr hy hS2 hS H;refine ⟨fun h => (by rw [h] at hr; cases hr), fun j hj => ?_⟩;by_cases hji : j = i
   ·subst hji; exact hy.wpOp hi hS ⟨⟨hS2, fun _ => hS⟩, H⟩
   ·have := ready_mono hj hji;rw [H.1] at this
    cases this
 | succ fuel ih =>
   intro listed a w hcl hfree hr hy hS2 hS H;refine ⟨fun h => (by rw [h] at hr; cases hr), fun j hj => ?_⟩;by_cases hji : j = i
   ·subst hji; exact hy.wpOp hi hS ⟨⟨hS2, fun _ => hS⟩, H⟩
   ·have h1 := H.2 j (ready_mono hj hji);have hjst := not_st hcl hst (mem_ready.1 hr).1 hj;have hist := not_st hcl hst (mem_ready.1 hr).1 hr;have hcln : clean st ((listed.setIfInBounds i true).setIfInBounds j true) = true := clean_set (clean_set (clean_of hcl hst (mem_ready.1 hr).1) hist) hjst;obtain ⟨hjun, oj, hoj, hall⟩ := mem_ready.1 hj
    have hnot : ∀ e ∈ oj.after, Region.binds md e = true -> e.on ≠ i := fun e he hb heq => by
     have h1 := hall e he hb;have h0 := (mem_ready.1 hr).1;rw [heq] at h1;rcases Nat.lt_or_ge i listed.size with h' | h'
     ·simp [h'] at h0 h1; rw [h0] at h1; cases h1
     ·simp [Array.getElem?_eq_none h'] at h1
    have h2 := wpOp_putIf hoj (hfree j oj hoj hji hjun hnot) (fun cs b => hsel i oi cs b hi) (fun cs b => hsel j oj cs b hoj) hQ hy h1
    have hfree' : ∀ k ok, ops[k]? = some ok -> k ≠ i -> (listed.setIfInBounds j true).getD k true = false ->
      (∀ e ∈ ok.after, Region.binds md e = true -> e.on ≠ i) -> oi.apart ops ok = true := fun k ok hk hki hun hno => by
     refine hfree k ok hk hki ?_ hno;by_cases hjk : j = k
     ·subst hjk; exact hjun
     ·rw [getD_set_ne true hjk] at hun; exact hun
    refine wpOp_mono (fun a' w' h3 => ⟨⟨h3.2.1.1, fun _ => h3.2.1.2 hcln⟩, ih (listed.setIfInBounds j true) a' w' (hcl.set hj) hfree' (ready_mono hr (Ne.symm hji)) h3.1 h3.2.1.1 (h3.2.1.2 hcln) ?_⟩) h2;rw [Array.setIfInBounds_comm _ _ hji];exact h3.2.2
theorem wpAnyU_firstP {i : Nat} {oi : Oper} {v : Value} (hi : ops[i]? = some oi) (hsel : ∀ (j : Nat) (o : Oper) cs b, ops[j]? = some o -> o.op ≠ .select cs b)
  (hQ : ∀ c a w, Q (.panic c) (a.put oi.dst v) w -> Q (.panic c) a w) (hist : st.contains i = false) :
  ∀ (fuel : Nat) (listed : Array Bool) (a : Act) (w : World),
   (∀ j oj, ops[j]? = some oj -> j ≠ i -> listed.getD j true = false -> (∀ e ∈ oj.after, Region.binds md e = true -> e.on ≠ i) -> oi.apart ops oj = true) ->
   i ∈ Region.ready md ops listed -> YieldsIf P ops S2 oi v a -> S2 w -> (clean st listed = true -> S w) ->
   wpAnyU P md ops Q S S2 st fuel (listed.setIfInBounds i true) (a.put oi.dst v) w -> wpAnyU P md ops Q S S2 st (fuel + 1) listed a w := by
 intro fuel;induction fuel with
 | zero =>
   intro listed a w _ hr hy hS2 hS H;refine ⟨fun h => (by rw [h] at hr; cases hr), fun j hj => ?_⟩;by_cases hji : j = i
   ·subst hji; exact hy.wpOp hi hS2 ⟨⟨hS2, fun h => hS (clean_mono h)⟩, H⟩
   ·have := ready_mono hj hji;rw [H.1] at this
    cases this
 | succ fuel ih =>
   intro listed a w hfree hr hy hS2 hS H;refine ⟨fun h => (by rw [h] at hr; cases hr), fun j hj => ?_⟩;by_cases hji : j = i
   ·subst hji; exact hy.wpOp hi hS2 ⟨⟨hS2, fun h => hS (clean_mono h)⟩, H⟩
   ·have h1 := H.2 j (ready_mono hj hji);obtain ⟨hjun, oj, hoj, hall⟩ := mem_ready.1 hj
    have hnot : ∀ e ∈ oj.after, Region.binds md e = true -> e.on ≠ i := fun e he hb heq => by
     have h1 := hall e he hb;have h0 := (mem_ready.1 hr).1;rw [heq] at h1;rcases Nat.lt_or_ge i listed.size with h' | h'
     ·simp [h'] at h0 h1; rw [h0] at h1; cases h1
     ·simp [Array.getElem?_eq_none h'] at h1
    have h2 := wpOp_putIf hoj (hfree j oj hoj hji hjun hnot) (fun cs b => hsel i oi cs b hi) (fun cs b => hsel j oj cs b hoj) hQ hy h1
    have hfree' : ∀ k ok, ops[k]? = some ok -> k ≠ i -> (listed.setIfInBounds j true).getD k true = false ->
      (∀ e ∈ ok.after, Region.binds md e = true -> e.on ≠ i) -> oi.apart ops ok = true := fun k ok hk hki hun hno => by
     refine hfree k ok hk hki ?_ hno;by_cases hjk : j = k
     ·subst hjk; exact hjun
     ·rw [getD_set_ne true hjk] at hun; exact hun
    have hS' : ∀ w', (clean st ((listed.setIfInBounds i true).setIfInBounds j true) = true -> S w') -> clean st (listed.setIfInBounds j true) = true -> S w' := fun w' h hcl => h (by
     rw [<- Array.setIfInBounds_comm _ _ hji]; exact clean_set hcl hist)
    refine wpOp_mono (fun a' w' h3 => ⟨⟨h3.2.1.1, hS' w' h3.2.1.2⟩, ih (listed.setIfInBounds j true) a' w' hfree' (ready_mono hr (Ne.symm hji)) h3.1 h3.2.1.1 (hS' w' h3.2.1.2) ?_⟩) h2;rw [Array.setIfInBounds_comm _ _ hji];exact h3.2.2
theorem wpAnyU_take {i : Nat} {oi : Oper} {v : Value} {fuel : Nat} {listed : Array Bool} {a : Act} {w : World} (hi : ops[i]? = some oi)
  (hs : Region.noSelect ops = true) (hf : Region.free md ops listed i = true) (hr : (Region.ready md ops listed).contains i = true)
  (hc : closedB md ops listed = true) (hst : (st.all fun j => needs md ops ops.size j i) = true)
  (hQ : ∀ c a w, Q (.panic c) (a.put oi.dst v) w -> Q (.panic c) a w) (hy : YieldsIf P ops S oi v a) (hS2 : S2 w) (hS : S w)
  (h : wpAnyU P md ops Q S S2 st fuel (listed.setIfInBounds i true) (a.put oi.dst v) w) : wpAnyU P md ops Q S S2 st (fuel + 1) listed a w :=
 wpAnyU_first hi (Region.noSelect_spec hs) hQ hst fuel listed a w (closed_of hc) (Region.free_spec hi hf) (by simpa using hr) hy hS2 hS h
theorem wpAnyU_takeP {i : Nat} {oi : Oper} {v : Value} {fuel : Nat} {listed : Array Bool} {a : Act} {w : World} (hi : ops[i]? = some oi)
  (hs : Region.noSelect ops = true) (hf : Region.free md ops listed i = true) (hr : (Region.ready md ops listed).contains i = true)
  (hist : st.contains i = false)
  (hQ : ∀ c a w, Q (.panic c) (a.put oi.dst v) w -> Q (.panic c) a w) (hy : YieldsIf P ops S2 oi v a) (hS2 : S2 w) (hS : clean st listed = true -> S w)
  (h : wpAnyU P md ops Q S S2 st fuel (listed.setIfInBounds i true) (a.put oi.dst v) w) : wpAnyU P md ops Q S S2 st (fuel + 1) listed a w :=
 wpAnyU_firstP hi (Region.noSelect_spec hs) hQ hist fuel listed a w (Region.free_spec hi hf) (by simpa using hr) hy hS2 hS h
theorem wpAnyU_one {i : Nat} {o : Oper} {fuel : Nat} {listed : Array Bool} {a : Act} {w : World} (hr : Region.ready md ops listed = [i]) (ho : ops[i]? = some o)
  (h : ∀ K' : Act -> World -> Prop, Shut (∀ a w, S2 w -> (clean st (listed.setIfInBounds i true) = true -> S w) -> wpAnyU P md ops Q S S2 st fuel (listed.setIfInBounds i true) a w -> K' a w) -> if Region.wanted o (yielded ops a.tmps) = true then Oper.wp P o a w K' Q else K' (a.put o.dst undef) w) :
  wpAnyU P md ops Q S S2 st (fuel + 1) listed a w :=
 ⟨fun h0 => (by rw [hr] at h0; cases h0), fun j hj => by
  rw [hr] at hj;rcases List.mem_cons.1 hj with rfl | hj
  ·exact wpOp_step ho (fun K' hK => h K' (fun a w hS2 hS hW => hK a w ⟨⟨hS2, hS⟩, hW⟩))
  ·cases hj⟩
theorem wpAnyU_done {listed : Array Bool} {a : Act} {w : World} (hr : Region.ready md ops listed = []) (h : Q .normal a w) :
  ∀ fuel, wpAnyU P md ops Q S S2 st fuel listed a w
 | 0 => ⟨hr, h⟩
 | _ + 1 => ⟨fun _ => h, by rw [hr]; simp⟩
theorem wp_region_U {id : Nat} {a : Act} {w : World} (hm : P.follows .mixedOrders = true) (st : List Nat) (hS2 : S2 w.drew) (hS : S w.drew)
  (h : S2 w.drew -> S w.drew -> wpAnyU P .any ops Q S S2 st ops.size (Array.replicate ops.size false) a w.drew) : (Code.region id ops true).wp P Q a w :=
 wp_region_any hm (wpAny_of_U (S := S) (S2 := S2) (st := st) _ _ _ _ (h hS2 hS))
end
section
variable {P : Program} {ops : Array Oper} {Q : Exit -> Act -> World -> Prop} {md : Region.Mode} {S S2 : World -> Prop} {st : List Nat}
theorem upL (i : Nat) {oi : Oper} {v : Value} {fuel : Nat} {listed : Array Bool} {a : Act} {w : World} {G : Prop} (hi : ops[i]? = some oi) (h : G)
  (hB : okP md ops st listed i = true := by as_aux_lemma => kernel_rfl)
  (hQ : ∀ c a w, Q (.panic c) (a.put oi.dst v) w -> Q (.panic c) a w := by exact fun _ _ _ h => h)
  (hy : YieldsIf P ops S2 oi v a := by exact Or.inl ⟨by rfl, by (intro w hSw; (try dsimp only at hSw); go_simp; all_goals (with_reducible rfl))⟩)
  (hS2 : S2 w := by assumption) (hS : clean st listed = true -> S w := by first | (intro _; assumption) | (intro h; exact absurd h (by decide)))
  (e : wpAnyU P md ops Q S S2 st fuel (listed.setIfInBounds i true) (a.put oi.dst v) w = G := by (try simp only [lay, List.getElem_toArray, List.getElem_cons_succ, List.getElem_cons_zero]); exact rfl) : wpAnyU P md ops Q S S2 st (fuel + 1) listed a w := by
 unfold okP at hB;simp only [Bool.and_eq_true, Bool.not_eq_true'] at hB;exact wpAnyU_takeP hi hB.1.1.1 hB.1.1.2 hB.1.2 hB.2 hQ hy hS2 hS (e ▸ h)
theorem ukL (i : Nat) {oi : Oper} {v : Value} {fuel : Nat} {listed : Array Bool} {a : Act} {w : World} {G : Prop} (hi : ops[i]? = some oi) (h : G)
  (hB : okK md ops st listed i = true := by as_aux_lemma => kernel_rfl)
  (hQ : ∀ c a w, Q (.panic c) (a.put oi.dst v) w -> Q (.panic c) a w := by exact fun _ _ _ h => h)
  (hy : YieldsIf P ops S oi v a := by exact Or.inl ⟨by rfl, by (intro w hSw; (try dsimp only at hSw); go_simp; all_goals (with_reducible rfl))⟩)
  (hS2 : S2 w := by assumption) (hS : S w := by assumption)
  (e : wpAnyU P md ops Q S S2 st fuel (listed.setIfInBounds i true) (a.put oi.dst v) w = G := by (try simp only [lay, List.getElem_toArray, List.getElem_cons_succ, List.getElem_cons_zero]); exact rfl) : wpAnyU P md ops Q S S2 st (fuel + 1) listed a w := by
 unfold okK at hB;simp only [Bool.and_eq_true] at hB;exact wpAnyU_take hi hB.1.1.1.1 hB.1.1.1.2 hB.1.1.2 hB.1.2 hB.2 hQ hy hS2 hS (e ▸ h)
theorem uoL (i : Nat) {o : Oper} {fuel : Nat} {listed : Array Bool} {a : Act} {w : World} (ho : ops[i]? = some o)
  (h : ∀ K' : Act -> World -> Prop, Shut (∀ a w, S2 w -> (clean st (listed.setIfInBounds i true) = true -> S w) -> wpAnyU P md ops Q S S2 st fuel (listed.setIfInBounds i true) a w -> K' a w) -> if Region.wanted o (yielded ops a.tmps) = true then Oper.wp P o a w K' Q else K' (a.put o.dst undef) w)
  (hr : Region.ready md ops listed = [i] := by as_aux_lemma => kernel_rfl) : wpAnyU P md ops Q S S2 st (fuel + 1) listed a w := wpAnyU_one hr ho h
end
open Go.RowKit
attribute [local go_sem ↓] Go.wp_at_zero Go.wp_at_succ
theorem So.ofCells {α : Type} {E : Elt α} {w : World} {base g : Nat} {cur : Array Value} {l : List α} (hg : w.heap[g]? = some (.cells cur E.T (0, 0))) (hbg : base <= g) (hcap : l.length <= maxLen) (hs : cur.size = l.length * E.k)
  (hel : ∀ i (hi : i < l.length), ∃ cs, E.ok w cs l[i] /\ ∀ j u, cs[j]? = some u -> cur.toList[i * E.k + j]? = some u) (hno : ∀ u ∈ cur.toList, noW u = true) : So E w base (.slice (some ⟨g, 0, none⟩) l.length l.length) l := by
 refine ⟨cur.toList, ⟨by rw [Array.length_toList]; exact hs, .inr ⟨g, l.length, cur, rfl, hbg, hg, Nat.le_refl _, hcap, hs, ?_⟩⟩, hel, fun g' hg' => ?_⟩
 ·rw [<- hs, <- Array.length_toList, List.take_length]
 ·have : g' = g := by simp [Value.ownBlock] at hg'; exact hg'.symm
  subst this;exact noW_alc (Alc.of hg hno)
theorem So.ints4 {w : World} {base g : Nat} {s0 s1 s2 s3 : Bool} {a0 a1 a2 a3 : Option Addr} {n0 n1 n2 n3 c0 c1 c2 c3 : Nat} {x0 x1 x2 x3 : Int} (hg : w.heap[g]? = some (.cells #[.bool s0, .slice a0 n0 c0, .bool s1, .slice a1 n1 c1, .bool s2, .slice a2 n2 c2, .bool s3, .slice a3 n3 c3] 29 (0, 0))) (hb : base <= g)
  (h0 : It w (.agg #[.bool s0, .slice a0 n0 c0]) x0) (h1 : It w (.agg #[.bool s1, .slice a1 n1 c1]) x1) (h2 : It w (.agg #[.bool s2, .slice a2 n2 c2]) x2) (h3 : It w (.agg #[.bool s3, .slice a3 n3 c3]) x3) :
  So eI w base (.slice (some ⟨g, 0, none⟩) 4 4) [x0, x1, x2, x3] := by
 refine So.ofCells (E := eI) (l := [x0, x1, x2, x3]) hg hb (show 4 <= maxLen by decide) rfl (fun i hi => ?_) (fun u hu => ?_)
 ·have hi : i < 4 := hi;match i, hi with
  | 0, _ => exact ⟨_, ⟨s0, a0, n0, c0, rfl, h0⟩, fun j u e => by match j, e with | 0, e => exact e | 1, e => exact e | j + 2, e => simp at e⟩
  | 1, _ => exact ⟨_, ⟨s1, a1, n1, c1, rfl, h1⟩, fun j u e => by match j, e with | 0, e => exact e | 1, e => exact e | j + 2, e => simp at e⟩
  | 2, _ => exact ⟨_, ⟨s2, a2, n2, c2, rfl, h2⟩, fun j u e => by match j, e with | 0, e => exact e | 1, e => exact e | j + 2, e => simp at e⟩
  | 3, _ => exact ⟨_, ⟨s3, a3, n3, c3, rfl, h3⟩, fun j u e => by match j, e with | 0, e => exact e | 1, e => exact e | j + 2, e => simp at e⟩
 ·simp at hu
  rcases hu with rfl | rfl | rfl | rfl | rfl | rfl | rfl | rfl <;> rfl
theorem rmade_any (va : Value) (L : List Tri) (b : Nat) (w : World) (h : Dx w va L b) :
  Calls Tryz.prog 6 #[va] w fun e w' => ∃ v f, e = .returned v /\ Fx w' v (zF f) /\ MadeTo (usedN L []) b f /\ Below w.heap.size w w' := by
 obtain ⟨a, c, rfl, hb16, ha, hLm⟩ := h;go_enter Tryz.func6, Tryz.ntmps6
 have hb0 := below_new w (.cells #[.slice a L.length c, .int .u16 (b : Int)] 25);have hD0 := heap_alloc_new w (.cells #[.slice a L.length c, .int .u16 (b : Int)] 25);go_upto_region 1 with fail;have hb1 := Bl.alloc hb0 (.cells #[.bool false, .slice none 0 0, .slice none 0 0, .slice none 0 0, .int .i64 0] 32);have hD1 := heap_alloc_new (w.alloc (.cells #[.slice a L.length c, .int .u16 (b : Int)] 25)) (.cells #[.bool false, .slice none 0 0, .slice none 0 0, .slice none 0 0, .int .i64 0] 32);have hDr := ((below_new (w.alloc (.cells #[.slice a L.length c, .int .u16 (b : Int)] 25)) (.cells #[.bool false, .slice none 0 0, .slice none 0 0, .slice none 0 0, .int .i64 0] 32)).block _ (Array.getElem?_eq_some_iff.1 hD0).1).trans hD0;have ha1 := (ha.alloc (.cells #[.slice a L.length c, .int .u16 (b : Int)] 25)).alloc (.cells #[.bool false, .slice none 0 0, .slice none 0 0, .slice none 0 0, .int .i64 0] 32);rw [World.size_alloc] at hD1;clear hb0 hD0 ha;generalize (w.alloc (.cells #[.slice a L.length c, .int .u16 (b : Int)] 25)).alloc (.cells #[.bool false, .slice none 0 0, .slice none 0 0, .slice none 0 0, .int .i64 0] 32) = W at *;have r0 : W.cell? ⟨w.heap.size, 0, none⟩ = some (.slice a L.length c) := by simp [World.cell?, hDr]
 have r1 : W.cell? ⟨w.heap.size, 1, none⟩ = some (.int .u16 (b : Int)) := by simp [World.cell?, hDr]
 have hW2 : w.heap.size + 1 < W.heap.size := (Array.getElem?_eq_some_iff.1 hD1).1;have HBW := Lib.hid hb1;have HD1 := Lib.hid hD1;clear hDr hD1 hb1;go_wp2_with fail;refine (rused_any _ L b W ⟨a, c, rfl, hb16, ha1, hLm⟩).mono ?_;rintro e w1 ⟨vU, rfl, hU, hbl1⟩;have hlU := usedN_len L;have hnU := usedN_nd L;obtain ⟨U, hUe⟩ : ∃ U, usedN L [] = U := ⟨_, rfl⟩;rw [hUe] at hlU hnU hU;have HUE := Lib.hid hUe;clear hUe;clear ha1 hLm;go_wp2_with fail;refine (rone_any w1).mono ?_;rintro e w2 ⟨v, rfl, hv, hb2⟩;obtain ⟨s, a1, n1, c1, rfl⟩ := hv.shape;have hU2 := hU.up hb2;have hbl2 := Bl.up hbl1 hb2;have hF := BuT.new (b := 0) 32 hv (So.nil eP w2 0) (So.nil eP w2 0) (fun g hg => by cases hg);have hB2 := below_new w2 (.cells #[.bool s, .slice a1 n1 c1, .slice none 0 0, .slice none 0 0, .int .i64 0] 32);have hgU : ∀ g, vU.ownBlock = some g -> W.heap.size <= g /\ g < w2.heap.size := hU2.lt;have hWB : W.heap.size <= w2.heap.size := hbl2.size;have HU := Lib.hid (hU2.up hB2);have HBL := Lib.hid (Bl.up hbl2 hB2);clear hU hU2 hb2 hbl1 hbl2 hv hB2;go_upto_region 2 with fail;generalize w2.alloc (.cells #[.bool s, .slice a1 n1 c1, .slice none 0 0, .slice none 0 0, .int .i64 0] 32) = w3 at *;generalize w2.heap.size = B4 at *;have HF := Lib.hid hF;have hB4 := hF.lt;clear hF;go_wp2_with fail;refine (rone_any w3).mono ?_;rintro e wo0 ⟨v0, rfl, hv0, hb0⟩;obtain ⟨s0, b0, n0, c0, rfl⟩ := hv0.shape;go_wp2_with fail;refine (rone_any wo0).mono ?_;rintro e wo1 ⟨v1, rfl, hv1, hb1⟩;obtain ⟨s1, b1, n1, c1, rfl⟩ := hv1.shape;go_wp2_with fail;refine (rone_any wo1).mono ?_;rintro e wo2 ⟨v2, rfl, hv2, hb2⟩;obtain ⟨s2, b2, n2, c2, rfl⟩ := hv2.shape;go_wp2_with fail;refine (rone_any wo2).mono ?_;rintro e wo3 ⟨v3, rfl, hv3, hb3⟩;obtain ⟨s3, b3, n3, c3, rfl⟩ := hv3.shape;replace hv0 := ((hv0.up hb1).up hb2).up hb3;replace hv1 := (hv1.up hb2).up hb3;replace hv2 := hv2.up hb3;have hbo := Bl.up (Bl.up (Bl.up hb0 hb1) hb2) hb3;have hF3 := HF.out.up hbo;have hU3 := HU.out.up hbo;have hL3 := Bl.up HBL.out hbo;have hG := So.ints4 (base := B4 + 1) (heap_alloc_new wo3 (.cells #[.bool s0, .slice b0 n0 c0, .bool s1, .slice b1 n1 c1, .bool s2, .slice b2 n2 c2, .bool s3, .slice b3 n3 c3] 29)) (Nat.lt_of_lt_of_le hB4 hbo.size) (hv0.alloc (.cells #[.bool s0, .slice b0 n0 c0, .bool s1, .slice b1 n1 c1, .bool s2, .slice b2 n2 c2, .bool s3, .slice b3 n3 c3] 29)) (hv1.alloc (.cells #[.bool s0, .slice b0 n0 c0, .bool s1, .slice b1 n1 c1, .bool s2, .slice b2 n2 c2, .bool s3, .slice b3 n3 c3] 29)) (hv2.alloc (.cells #[.bool s0, .slice b0 n0 c0, .bool s1, .slice b1 n1 c1, .bool s2, .slice b2 n2 c2, .bool s3, .slice b3 n3 c3] 29)) (hv3.alloc (.cells #[.bool s0, .slice b0 n0 c0, .bool s1, .slice b1 n1 c1, .bool s2, .slice b2 n2 c2, .bool s3, .slice b3 n3 c3] 29));have hBn := below_new wo3 (.cells #[.bool s0, .slice b0 n0 c0, .bool s1, .slice b1 n1 c1, .bool s2, .slice b2 n2 c2, .bool s3, .slice b3 n3 c3] 29);have hGB : B4 < wo3.heap.size := Nat.lt_of_lt_of_le hB4 hbo.size;have HF3 := Lib.hid (hF3.up hBn);have HU3 := Lib.hid (hU3.up hBn);have HL3 := Lib.hid (Bl.up hL3 hBn);have HG := Lib.hid hG;have hlt3 : wo3.heap.size < (wo3.alloc (.cells #[.bool s0, .slice b0 n0 c0, .bool s1, .slice b1 n1 c1, .bool s2, .slice b2 n2 c2, .bool s3, .slice b3 n3 c3] 29)).heap.size := by rw [World.size_alloc]; omega
 clear HF HU HBL hb0 hb1 hb2 hb3 hv0 hv1 hv2 hv3 hbo hF3 hU3 hL3 hG hBn;go_upto_region 3 with fail;generalize wo3.alloc (.cells #[.bool s0, .slice b0 n0 c0, .bool s1, .slice b1 n1 c1, .bool s2, .slice b2 n2 c2, .bool s3, .slice b3 n3 c3] 29) = w4 at *;generalize wo3.heap.size = G at *;obtain ⟨aU, cU, rfl, hcU⟩ := HU3.out.slice;clear hcU;go_wp2_with fail
 go_loopw [6, 7, 8, 9, 10] (fun s6 s7 s8 s9 s10 wr => ∃ (i : Nat) (vP : Value), s7 = .int .i64 (i : Int) /\ i <= U.length /\ s6 = .int .i64 (limN (U.take i) : Nat) /\ BuT 32 wr B4 vP (.slice none 0 0) (pk (kwnN (U.take i)) : Nat) (zP (kwnN (U.take i))) [] 0 /\ So eI wr (B4 + 1) (.slice (some ⟨G, 0, none⟩) 4 4) (grs (U.take i)) /\ ButS (fun g => g = B4 \/ g = G) w4 wr /\ ∀ g, vP.ownBlock = some g -> w4.heap.size <= g)
  (fun _ s7 _ _ _ _ => U.length - (intOf s7).toNat)
 case atStart => exact ⟨0, _, rfl, Nat.zero_le _, by rw [List.take_zero, limN_nil]; rfl, by rw [List.take_zero, kwnN_nil]; exact HF3.out, by rw [List.take_zero, grs_nil]; exact HG.out, ButS.refl _ _, fun g hg => by cases hg⟩
 case round =>
  obtain ⟨i, vP, rfl, hi, rfl, hF, hG, hbs, hfr⟩ := hrel;by_cases hlt : i < U.length
  ·have hS4 : ∀ g, (g = B4 \/ g = G) -> NoW w4 g := fun g hg => hg.elim (fun e => HF3.out.nw g (.inl e)) (fun e => HG.out.nw g (by rw [e]; rfl));have hUn : ∀ g, (Value.slice aU U.length cU).ownBlock = some g -> ¬ (g = B4 \/ g = G) := fun g hg => by have := hgU g hg; omega
   have hUr := HU3.out.fr hbs hS4 hUn;obtain ⟨ba, offa, rfl, hba, hla⟩ := hUr.sr.at hlt;obtain ⟨u0, u1, u2, ub0, ub1, ub2⟩ := hla.tri hlt;have htk : U.take (i + 1) = U.take i ++ [U.getD i (0, 0, 0)] := by rw [List.take_succ_eq_append_getElem hlt]; simp [List.getD_eq_getElem?_getD, hlt]
   have hlk : (U.take i).length <= 7 := by rw [List.length_take]; omega
   obtain ⟨y, hy0⟩ : ∃ y, U.getD i (0, 0, 0) = y := ⟨_, rfl⟩;rw [hy0] at u0 u1 u2 ub0 ub1 ub2 htk;have HTK := Lib.hid htk;generalize U.take i = l at *;have HF := Lib.hid hF;have HGr := Lib.hid hG;have HBS := Lib.hid hbs;have HFR := Lib.hid hfr;have HUN := Lib.hid hUn;have HS4 := Lib.hid hS4;clear hy0 htk hF hG hbs hfr hUn hS4 hUr hla;obtain ⟨pi, hpi⟩ : ∃ pi : Nat, pi = y.1 % 11 := ⟨_, rfl⟩;obtain ⟨km, hkm⟩ : ∃ km : Nat, km = y.2.1 % 3 := ⟨_, rfl⟩;obtain ⟨am, ham⟩ : ∃ am : Nat, am = y.2.2 % 4 := ⟨_, rfl⟩;have e1 : ((y.1 : Nat) : Int).tmod 11 = (pi : Int) := by rw [Int.tmod_eq_emod_of_nonneg (by omega)]; omega
   have e2 : ((y.2.1 : Nat) : Int).tmod 3 = (km : Int) := by rw [Int.tmod_eq_emod_of_nonneg (by omega)]; omega
   have e3 : ((y.2.2 : Nat) : Int).tmod 4 = (am : Int) := by rw [Int.tmod_eq_emod_of_nonneg (by omega)]; omega
   have hkN : kN y = 1 + km := by rw [hkm]; rfl
   have haN : aN y = am := by rw [ham]; rfl
   have hpN : prN y.1 = prs.getD pi 0 := by rw [hpi]; rfl
   have hpl := prN_le y.1;have hp2 := (prN_pri y.1).1;have hpb : pi < 11 := by omega
   have hkb : km < 3 := by omega
   have hab : am < 4 := by omega
   obtain ⟨kk, hkk⟩ : ∃ kk, kN y = kk := ⟨_, rfl⟩;have hkk3 : 1 <= kk /\ kk <= 3 := by omega
   have e4 : IntKind.i64.wrap (km : Int) = (km : Int) := by rw [IntKind.wrap_i64]; omega
   have e5 : IntKind.i64.wrap (am : Int) = (am : Int) := by rw [IntKind.wrap_i64]; omega
   have e6 : IntKind.i64.wrap (1 + (km : Int)) = (kk : Int) := by rw [IntKind.wrap_i64]; omega
   have i0 : (0 : Int) <= (i : Int) := by omega
   have i1 : (i : Int) < (U.length : Int) := by omega
   have j0 : (0 : Int) <= (pi : Int) := by omega
   have j1 : (pi : Int) < 11 := by omega
   clear hpi hkm ham;go_upto_region 6 with fail;refine wp_region_T (by kernel_rfl) [] (S := fun w' => w'.cell? ⟨ba, offa + i * 3, none⟩ = some (.int .u8 (y.1 : Int)) /\ w'.cell? ⟨ba, offa + i * 3 + 1, none⟩ = some (.int .u8 (y.2.1 : Int)) /\ w'.cell? ⟨ba, offa + i * 3 + 2, none⟩ = some (.int .u8 (y.2.2 : Int))) ⟨u0, u1, u2⟩ (fun hHeld => ?_);(refine kL 1 rfl ?_; refine kL 2 rfl ?_; refine kL 3 rfl ?_; refine kL 4 rfl ?_; refine kL 5 rfl ?_; refine kL 6 rfl ?_; refine kL 9 rfl ?_; refine kL 10 rfl ?_; refine kL 11 rfl ?_; refine kL 12 rfl ?_; refine kL 13 rfl ?_; refine kL 14 rfl ?_; refine kL 15 rfl ?_; refine kL 16 rfl ?_; refine kL 17 rfl ?_; refine kL 18 rfl ?_; refine kL 19 rfl ?_; refine kL 20 rfl ?_; refine kL 21 rfl ?_; refine kL 22 rfl ?_; refine kL 23 rfl ?_)
   (refine oL 0 rfl fun K hK => tL ?_; go_simp);refine (rprimes_any _).mono ?_;rintro e w5 ⟨Bp, rfl, hpc, hb5⟩;have q0 := hpc pi hpb;rw [<- hpN] at q0;have HF5 := Lib.hid (HF.out.drew.up hb5);have HG5 := Lib.hid (HGr.out.drew.up hb5);have HB5 := Lib.hid (HBS.out.dr.up hb5);clear HF HGr HBS hpc hpN;obtain ⟨pp, hpp⟩ : ∃ pp, prN y.1 = pp := ⟨_, rfl⟩;rw [hpp] at q0 hpl hp2;(go_wp2_with fail; clear hHeld; refine nxL hK ⟨keepc hb5 (cellD u0), keepc hb5 (cellD u1), keepc hb5 (cellD u2)⟩ fun hHeld => tL ?_; clear hK);replace u0 := keepc hb5 (cellD u0);replace u1 := keepc hb5 (cellD u1);replace u2 := keepc hb5 (cellD u2);clear hb5;refine kL 7 rfl ?_;(refine oL 8 rfl fun K hK => tL ?_; go_simp);(go_wp2_with fail; clear hHeld; refine nxL hK ⟨u0, u1, u2⟩ fun hHeld => tL ?_; clear hK);(refine kL 24 rfl ?_; refine kL 25 rfl ?_; refine kL 26 rfl ?_)
   refine dT ?_;clear hHeld q0 u0 u1 u2;have hl4 : w4.heap.size <= w5.heap.size := HB5.out.size
   have hPl : (zP (kwnN l)).length <= 7 := by
    rw [zP_len];unfold kwnN;rw [List.length_map];exact Nat.le_trans (List.length_filter_le _ _) hlk
   obtain ⟨aP, cP, rfl, hcP⟩ := HF5.out.hP.slice;by_cases hz : am = 0
   ·subst hz
    --[
    obtain ⟨st1, st2, st3, st4⟩ := md_step0 l haN;rw [hkk] at st1 st2;rw [hpp] at st1 st2;have ST1 := Lib.hid st1;have ST2 := Lib.hid st2;have ST3 := Lib.hid st3;have ST4 := Lib.hid st4;have hMd1 := Nat.le_trans ((kwn_md l hlk).sz (Nat.le_refl _)) (show 4096 <= 1099511627776 by decide)
    have hMd2 : ∀ i, i <= kk -> sz ((pp ^ i : Nat) : Int) <= 1099511627776 := fun i hi => by
     have := (ppN_md y (i := i) (by rw [hkk]; exact hi)).sz (Nat.le_refl _);rw [hpp] at this;exact Nat.le_trans this (by decide)
    have hZ : zP (kwnN (l ++ [y])) = zP (kwnN l) ++ [((pp : Int), (kk : Int))] := by rw [st1, zP_append]; rfl
    have HZ := Lib.hid hZ;clear st1 st2 st3 st4 hZ;generalize hPP : zP (kwnN l) = P at *;generalize hNN : pk (kwnN l) = N at *;clear hPP hNN;obtain ⟨sN, aN', nN, cN, d0, d1, d2, d3, d4, f0, f1, f2, f3, f4, hN⟩ := HF5.out.cellsA;have HN := Lib.hid hN;clear hN;go_upto_region 8 with fail;refine wp_region_T (by kernel_rfl) [7] (S := fun w' => w'.cell? ⟨B4, 2, none⟩ = some (.slice aP P.length cP)) d2 (fun hHeld => ?_);refine pL 0 rfl ?_;refine kL 1 rfl ?_;(refine pL 2 rfl ?_; refine pL 4 rfl ?_)
    (refine oL 3 rfl fun K hK => tL ?_; go_simp);refine (rof_any (pp : Int) _ (by omega) (by omega)).mono ?_;rintro e w6 ⟨v, rfl, hv, hb6⟩;obtain ⟨s6, a6, n6, c6, rfl⟩ := hv.shape;have hF6 := HF5.out.drew.up hb6;have hG6 := HG5.out.drew.up hb6;have hB6 := HB5.out.dr.up hb6;replace d2 := keepc hb6 (cellD d2);clear hb6 HF5 HG5 HB5 d0 d1 d3 d4 f0 f1 f2 f3 f4 HN;(go_wp2_with fail; clear hHeld; refine nxL hK d2 fun hHeld => tL ?_; clear hK);refine pL 5 rfl ?_;(refine oL 6 rfl fun K hK => tL ?_; go_simp);have hD7 := heap_alloc_new w6 (.cells #[.bool s6, .slice a6 n6 c6, .int .i64 (kk : Int)] 41);have hsc : Sc eP (w6.alloc (.cells #[.bool s6, .slice a6 n6 c6, .int .i64 (kk : Int)] 41)) w6.heap.size 0 [((pp : Int), (kk : Int))] := Sc.one hD7 ⟨s6, a6, n6, c6, rfl, hv.alloc _⟩;replace hF6 := hF6.alloc (.cells #[.bool s6, .slice a6 n6 c6, .int .i64 (kk : Int)] 41);replace hG6 := hG6.alloc (.cells #[.bool s6, .slice a6 n6 c6, .int .i64 (kk : Int)] 41);replace hB6 := hB6.al (.cells #[.bool s6, .slice a6 n6 c6, .int .i64 (kk : Int)] 41);have d2' := cellN d2 (.cells #[.bool s6, .slice a6 n6 c6, .int .i64 (kk : Int)] 41);have hlt4 : w4.heap.size <= (w6.alloc (.cells #[.bool s6, .slice a6 n6 c6, .int .i64 (kk : Int)] 41)).heap.size := hB6.size;(go_wp2_with fail; clear hHeld; refine nxL hK d2' fun hHeld => tL ?_; clear hK);refine wpAnyT_one (i := 7) (by as_aux_lemma => kernel_rfl) rfl (fun K hK => ?_);refine step_apS (E := eP) (by rfl) (.tmp 55) (.tmp 60) _ (by rfl) Tryz.underlying30 0 _ P [((pp : Int), (kk : Int))] (by rfl) hF6.hP (Nat.zero_le _) w6.heap.size 0 1 1 (by rfl) rfl hsc (by decide) (by omega) ?_;intro g8 cap8 w8 h8 hb8 hg8
    have hg8' : ∀ g, (Value.slice (some ⟨g8, 0, none⟩) (P.length + 1) cap8).ownBlock = some g -> (Value.slice aP P.length cP).ownBlock = some g \/ g = (w6.alloc (.cells #[.bool s6, .slice a6 n6 c6, .int .i64 (kk : Int)] 41)).heap.size := fun g hg => by
     have : g8 = g := by simpa [Value.ownBlock] using hg
     rw [<- this]; exact hg8
    obtain ⟨k1, k2, k3⟩ := hF6.setP hb8 h8 hg8';obtain ⟨y1, y2, y3, y4, -, -, z2, -, -, -, -, z7, -⟩ := hF6.cellsA;have d8 := cell_fr hb8 (cell_lt d2') hF6.d2 d2';have f8 := frozen_fr hb8 (cell_lt d2') hF6.d2 z7
    have hZn : ∀ k, bset B4 (.slice aP P.length cP) (.slice none 0 0) k -> k = B4 \/ w4.heap.size <= k := fun k hk => by
     rcases hk with hk | hk | hk
     ·exact .inl hk
     ·exact .inr (HFR.out k hk)
     ·cases hk
    have hGn : ¬ bset B4 (.slice aP P.length cP) (.slice none 0 0) G := fun hk => by rcases hZn G hk with h | h <;> omega
    have hG8 := hG6.fr k2 hF6.nw (fun g hg => by
     have : G = g := by simpa [Value.ownBlock] using hg
     rw [<- this]; exact hGn)
    have hB8 := hB6.step k2 (fun g hg => (hZn g hg).imp (fun h => .inl h) id)
    have hR8 : ∀ g, (Value.slice (some ⟨g8, 0, none⟩) (P.length + 1) cap8).ownBlock = some g -> w4.heap.size <= g := fun g hg => by
     rcases hg8' g hg with h | h
     ·exact HFR.out g h
     ·rw [h]; exact hlt4
    have HF8 := Lib.hid k1;have HG8 := Lib.hid hG8;have HB8 := Lib.hid hB8;have HR8 := Lib.hid hR8;clear hF6 hG6 hB6 hb8 h8 hg8 hg8' k1 k2 k3 z2 z7 hZn hGn hG8 hB8 hR8 hD7 hsc hv d2 d2' HFR hlt4 hl4;refine hK.out _ _ nzz ?_;clear hK hHeld;refine tL ?_;refine pL 8 rfl ?_;(refine oL 9 rfl fun K hK => tL ?_; go_simp);(go_wp2_with fail; refine xL hK (tL ?_); clear hK);refine dT ?_;clear d8 f8;generalize w8.setCell ⟨B4, 2, none⟩ (.slice (some ⟨g8, 0, none⟩) (P.length + 1) cap8) = w9 at *;generalize (Value.slice (some ⟨g8, 0, none⟩) (P.length + 1) cap8) = vP9 at *;obtain ⟨sN, aN', nN, cN, d0, d1, -, -, -, f0, f1, -, -, -, hN⟩ := HF8.out.cellsA;go_upto_region 9 with fail;refine wp_region_T (by kernel_rfl) [6] (S := fun w' => w'.cell? ⟨B4, 0, none⟩ = some (.bool sN) /\ w'.cell? ⟨B4, 1, none⟩ = some (.slice aN' nN cN)) ⟨d0, d1⟩ (fun hHeld => ?_);refine pL 0 rfl ?_;refine kL 1 rfl ?_;(refine pL 2 rfl ?_; refine pL 4 rfl ?_)
    (refine oL 3 rfl fun K hK => tL ?_; go_simp);refine (rof_any (pp : Int) _ (by omega) (by omega)).mono ?_;rintro e wA ⟨v, rfl, hv, hbA⟩;have hFA := HF8.out.drew.up hbA;have hGA := HG8.out.drew.up hbA;have hBA := HB8.out.dr.up hbA;have hNA := hN.drew.up hbA;replace d0 := keepc hbA (cellD d0);replace d1 := keepc hbA (cellD d1);clear hbA HF8 HG8 HB8 f0 f1 hN;(go_wp2_with fail; clear hHeld; refine nxL hK ⟨d0, d1⟩ fun hHeld => tL ?_; clear hK);(refine oL 5 rfl fun K hK => tL ?_; go_simp);refine (rpower_any v pp kk wA hv (by omega) hMd2 (by have := hMd2 1 (by omega); rwa [Nat.pow_one] at this)).mono ?_;rintro e wB ⟨v', rfl, hv', hbB⟩;replace hFA := hFA.up hbB;replace hGA := hGA.up hbB;replace hBA := hBA.up hbB;replace hNA := hNA.up hbB;replace d0 := keepc hbB d0;replace d1 := keepc hbB d1;clear hbB hv;(go_wp2_with fail; clear hHeld; refine nxL hK ⟨d0, d1⟩ fun hHeld => tL ?_; clear hK);(refine oL 6 rfl fun K hK => tL ?_; go_simp);refine (rmul_any _ _ (N : Int) ((pp ^ kk : Nat) : Int) wB hNA hv' hMd1 (hMd2 kk (Nat.le_refl _))).mono ?_;rintro e wC ⟨v'', rfl, hv'', hbC⟩;rw [show (N : Int) * ((pp ^ kk : Nat) : Int) = ((N * pp ^ kk : Nat) : Int) by simp] at hv'';obtain ⟨sC, aC, nC, cC, rfl⟩ := hv''.shape;replace hFA := hFA.up hbC;replace hGA := hGA.up hbC;replace hBA := hBA.up hbC;obtain ⟨z1, z2, z3, z4, d0', d1', -, -, -, f0, f1, -, -, -, -⟩ := hFA.cellsA;obtain ⟨kF, kB⟩ := hFA.setN hv'';have hGn : ¬ G = B4 := by omega
    have hGF := hGA.fr kB (fun g hg => by rw [hg]; exact hFA.nw B4 (.inl rfl)) (fun g hg => by
     have : G = g := by simpa [Value.ownBlock] using hg
     rw [<- this]; exact hGn)
    have hBF := hBA.trans (kB.mono (fun k _ hk => Or.inl hk));have KF := Lib.hid kF;have KG := Lib.hid hGF;have KB := Lib.hid hBF;clear hFA hGA hBA kF kB hGF hBF hbC hv'' hv' hNA d0 d1;go_wp2_with fail;refine hK.out _ _ nzz ?_;clear hK hHeld;refine tL ?_;refine pL 7 rfl ?_;(refine oL 8 rfl fun K hK => tL ?_; go_simp);(go_wp2_with fail; refine xL hK (tL ?_); clear hK);refine dT ?_;clear d0' d1' f0 f1;go_wp2_with fail;refine ⟨⟨i + 1, vP9, by go_num, by omega, by rw [HTK.out, ST4.out], ?_, ?_, KB.out, HR8.out⟩, by simp [intOf]; omega⟩
    ·rw [HTK.out, ST2.out, HZ.out]; exact KF.out
    ·rw [HTK.out, ST3.out]; exact KG.out
    --]
   ·have hz1 : ¬ (am : Int) = 0 := by omega
    have hz2 : ((am : Int) == 0) = false := beq_eq_false_iff_ne.2 hz1;obtain ⟨st1, st2, st3⟩ := md_step1 l (y := y) (by rw [haN]; exact hz);rw [hkk, hpp, haN] at st2;rw [hpp] at st3;have ST1 := Lib.hid st1;have ST2 := Lib.hid st2;have ST3 := Lib.hid st3;have hMd1 := Nat.le_trans ((grpN_md l hlk am).sz (Nat.le_refl _)) (show 4096 <= 1099511627776 by decide)
    have hMd2 : ∀ i, i <= kk -> sz ((pp ^ i : Nat) : Int) <= 1099511627776 := fun i hi => by
     have := (ppN_md y (i := i) (by rw [hkk]; exact hi)).sz (Nat.le_refl _);rw [hpp] at this;exact Nat.le_trans this (by decide)
    have hgl : am < (grs l).length := hab;obtain ⟨sN, aN', nN, cN, d0, d1, hN, f0, f1⟩ := sc_ints HG5.out hgl;rw [grs_getD l (by omega) hab] at hN;have HGL := Lib.hid hgl;clear st1 st2 st3 hgl;generalize grpN l am = N at *;generalize grs l = gs at *;have HN := Lib.hid hN;clear hN;have j2 : (0 : Int) <= (am : Int) := by omega
    have j3 : (am : Int) < 4 := by omega
    go_upto_region 10 with fail;refine wp_region_T (by kernel_rfl) [10] (S := fun w' => w'.cell? ⟨G, am * 2, none⟩ = some (.bool sN) /\ w'.cell? ⟨G, am * 2 + 1, none⟩ = some (.slice aN' nN cN)) ⟨d0, d1⟩ (fun hHeld => ?_);(refine pL 0 rfl ?_; refine pL 1 rfl ?_; refine pL 2 rfl ?_; refine pL 3 rfl ?_; refine pL 4 rfl ?_)
    refine kL 5 rfl ?_;(refine pL 6 rfl ?_; refine pL 8 rfl ?_)
    (refine oL 7 rfl fun K hK => tL ?_; go_simp);refine (rof_any (pp : Int) _ (by omega) (by omega)).mono ?_;rintro e wA ⟨v, rfl, hv, hbA⟩;have hFA := HF5.out.drew.up hbA;have hGA := HG5.out.drew.up hbA;have hBA := HB5.out.dr.up hbA;have hNA := HN.out.drew.up hbA;replace d0 := keepc hbA (cellD d0);replace d1 := keepc hbA (cellD d1);clear hbA HF5 HG5 HB5 f0 f1 HN;(go_wp2_with fail; clear hHeld; refine nxL hK ⟨d0, d1⟩ fun hHeld => tL ?_; clear hK);(refine oL 9 rfl fun K hK => tL ?_; go_simp);refine (rpower_any v pp kk wA hv (by omega) hMd2 (by have := hMd2 1 (by omega); rwa [Nat.pow_one] at this)).mono ?_;rintro e wB ⟨v', rfl, hv', hbB⟩;replace hFA := hFA.up hbB;replace hGA := hGA.up hbB;replace hBA := hBA.up hbB;replace hNA := hNA.up hbB;replace d0 := keepc hbB d0;replace d1 := keepc hbB d1;clear hbB hv;(go_wp2_with fail; clear hHeld; refine nxL hK ⟨d0, d1⟩ fun hHeld => tL ?_; clear hK);(refine oL 10 rfl fun K hK => tL ?_; go_simp);refine (rmul_any _ _ (N : Int) ((pp ^ kk : Nat) : Int) wB hNA hv' hMd1 (hMd2 kk (Nat.le_refl _))).mono ?_;rintro e wC ⟨v'', rfl, hv'', hbC⟩;rw [show (N : Int) * ((pp ^ kk : Nat) : Int) = ((N * pp ^ kk : Nat) : Int) by simp] at hv'';obtain ⟨sC, aC, nC, cC, rfl⟩ := hv''.shape;replace hFA := hFA.up hbC;replace hGA := hGA.up hbC;replace hBA := hBA.up hbC;obtain ⟨z1, z2, z3, z4, d0', d1', -, f0, f1⟩ := sc_ints hGA HGL.out;obtain ⟨kG, kB⟩ := hGA.set2 HGL.out hv''
    have hFF := hFA.fr kB (fun g hg => by rw [hg]; exact hGA.nw G rfl) (fun k hk e => by
     subst e;rcases hk with hk | hk | hk
     ·omega
     ·have := HFR.out k hk; omega
     ·cases hk)
    have hBF := hBA.trans (kB.mono (fun k _ hk => Or.inr hk));have KF := Lib.hid hFF;have KG := Lib.hid kG;have KB := Lib.hid hBF;clear hFA hGA hBA kG kB hFF hBF hbC hv'' hv' hNA d0 d1;go_wp2_with fail;refine hK.out _ _ nzz ?_;clear hK hHeld;refine tL ?_;refine pL 11 rfl ?_;(refine oL 12 rfl fun K hK => tL ?_; go_simp);(go_wp2_with fail; refine xL hK (tL ?_); clear hK);refine dT ?_;clear d0' d1' f0 f1;go_wp2_with fail;refine ⟨⟨i + 1, .slice aP (zP (kwnN l)).length cP, by go_num, by omega, ?_, ?_, ?_, KB.out, HFR.out⟩, by simp [intOf]; omega⟩
    ·rw [HTK.out, ST3.out, show min ((limN l : Nat) : Int) ((pp : Int) - 1) = ((min (limN l) (pp - 1) : Nat) : Int) by omega]
    ·rw [HTK.out, ST1.out]; exact KF.out
    ·rw [HTK.out, ST2.out]; exact KG.out
  ·obtain rfl : i = U.length := by omega
   rw [List.take_length] at hF hG |-;have HGr := Lib.hid hG;have HBS := Lib.hid hbs;have HFR := Lib.hid hfr;have hlw := hbs.size;obtain ⟨aP, cP, rfl, hcP⟩ := hF.hP.slice;have HF := Lib.hid hF;have HLIM := Lib.hid (limN_le U);clear hF hG hbs hfr
   have hPle7 : (zP (kwnN U)).length <= 7 := by
    rw [zP_len];unfold kwnN;rw [List.length_map];exact Nat.le_trans (List.length_filter_le _ _) hlU
   generalize hPLe : (zP (kwnN U)).length = PL at *;have HPLE := Lib.hid hPle7;clear hPle7;have HPL := Lib.hid hPLe;clear hPLe;have hSB : ∀ g, g = B4 -> NoW wr g := fun g e => HF.out.nw g (.inl e);go_wp2_with fail
   go_loopw [11, 12] (fun s11 s12 wq => ∃ (k : Nat) (vR : Value), s11 = .int .i64 (k : Int) /\ 1 <= k /\ k <= 4 /\ BuT 32 wq B4 (.slice aP PL cP) vR (pk (kwnN U ++ rstTo U k) : Nat) (zP (kwnN U)) (zP (rstTo U k)) 0 /\ ButS (fun g => g = B4) wr wq /\ ∀ g, vR.ownBlock = some g -> wr.heap.size <= g)
    (fun s11 _ _ => 4 - (intOf s11).toNat)
   case atStart => exact ⟨1, .slice none 0 0, rfl, Nat.le_refl _, by decide, by rw [rstTo_one, List.append_nil]; exact HF.out, ButS.refl _ _, fun g hg => by cases hg⟩
   case round =>
    obtain ⟨k, vR, rfl, hk1, hk4, hF2, hbq, hfrq⟩ := hrel;have hGB4 : ¬ G = B4 := by omega
    by_cases hlt : k < 4
    ·have HFQ := Lib.hid hF2;have HBQ := Lib.hid hbq;have HFRQ := Lib.hid hfrq
     have hGq := HGr.out.fr hbq hSB (fun g hg => by
      have : G = g := by simpa [Value.ownBlock] using hg
      rw [<- this]; exact hGB4)
     have hgl : k < (grs U).length := hlt;obtain ⟨sN, aN', nN, cN, d0, d1, hN, -, -⟩ := sc_ints hGq hgl;rw [grs_getD U hk1 hlt] at hN;have HN := Lib.hid hN;have hMg := Nat.le_trans ((grpN_md U hlU k).sz (Nat.le_refl _)) (show 4096 <= 1099511627776 by decide);clear hF2 hbq hfrq hGq hgl hN;have j2 : (0 : Int) <= (k : Int) := by omega
     have j3 : (k : Int) < 4 := by omega
     go_upto_region 15 with fail;refine wp_region_T (by kernel_rfl) [] (S := fun w' => w'.cell? ⟨G, k * 2, none⟩ = some (.bool sN) /\ w'.cell? ⟨G, k * 2 + 1, none⟩ = some (.slice aN' nN cN)) ⟨d0, d1⟩ (fun hHeld => ?_);(refine kL 0 rfl ?_; refine kL 1 rfl ?_; refine kL 2 rfl ?_; refine kL 3 rfl ?_)
     (refine oL 4 rfl fun K hK => tL ?_; go_simp);refine (rone_any _).mono ?_;rintro e wA ⟨v, rfl, hv, hbA⟩;have hFA := HFQ.out.drew.up hbA;have hBA := HBQ.out.dr.up hbA;have hNA := HN.out.drew.up hbA;replace d0 := keepc hbA (cellD d0);replace d1 := keepc hbA (cellD d1);clear hbA HFQ HBQ HN;(go_wp2_with fail; clear hHeld; refine nxL hK ⟨d0, d1⟩ fun hHeld => tL ?_; clear hK);(refine oL 5 rfl fun K hK => tL ?_; go_simp);refine (rcmp_any _ _ ((grpN U k : Nat) : Int) 1 wA hNA hv (Nat.le_trans hMg (by decide)) (by decide)).mono ?_;rintro e wB ⟨rfl, hbB⟩;replace hFA := hFA.up hbB;replace hBA := hBA.up hbB;replace hNA := hNA.up hbB;replace d0 := keepc hbB d0;replace d1 := keepc hbB d1;clear hbB hv;have hcm : (cmpI ((grpN U k : Nat) : Int) 1 > 0 ↔ 1 < grpN U k) := by unfold cmpI; split <;> (try split) <;> constructor <;> intro _ <;> omega
     generalize cmpI ((grpN U k : Nat) : Int) 1 = cc at *;have HCM := Lib.hid hcm;have HFA := Lib.hid hFA;have HBA := Lib.hid hBA;have HNA := Lib.hid hNA;clear hcm hFA hBA hNA;(go_wp2_with fail; clear hHeld; refine nxL hK ⟨d0, d1⟩ fun hHeld => tL ?_; clear hK);(refine kL 6 rfl ?_)
     refine dT ?_;clear hHeld;have hst := rstTo_step U hk1 hlt;by_cases hc : cc > 0
     ·rw [if_pos (HCM.out.1 hc)] at hst;obtain ⟨kk, hkk⟩ : ∃ kk, 1 + k % 2 = kk := ⟨_, rfl⟩;have e2 : ((k : Nat) : Int).tmod 2 = (k : Int) % 2 := Int.tmod_eq_emod_of_nonneg (by omega);have e6 : IntKind.i64.wrap (1 + (k : Int) % 2) = (kk : Int) := by rw [IntKind.wrap_i64]; omega
      have hkk2 : 1 <= kk /\ kk <= 2 := by omega
      have hMd2 : ∀ i, i <= kk -> sz ((grpN U k ^ i : Nat) : Int) <= 1099511627776 := fun i hi => Nat.le_trans ((grp_pow_md U hlU k (i := i) (by omega)).sz (Nat.le_refl _)) (by decide);have hMdN := Nat.le_trans ((pkt_md U hlU k).sz (Nat.le_refl _)) (show 4096 <= 1099511627776 by decide)
      have hRl : (zP (rstTo U k)).length <= 3 := by
       rw [zP_len];unfold rstTo;rw [List.length_map];exact Nat.le_trans (List.length_filter_le _ _) (Nat.le_trans (List.length_filter_le _ _) (by decide))
      rw [hkk] at hst;have hZ : zP (rstTo U (k + 1)) = zP (rstTo U k) ++ [(((grpN U k : Nat) : Int), (kk : Int))] := by rw [hst, zP_append]; rfl
      have hK : pk (kwnN U ++ rstTo U (k + 1)) = pk (kwnN U ++ rstTo U k) * grpN U k ^ kk := by rw [hst, <- List.append_assoc, pk_snoc]
      have HZ := Lib.hid hZ;have HKK := Lib.hid hK;obtain ⟨aR, cR, rfl, hcR⟩ := HFA.out.hR.slice;clear hZ hK hst hkk;generalize hRR : zP (rstTo U k) = R at *;generalize hNN : pk (kwnN U ++ rstTo U k) = N at *;generalize hPP : zP (kwnN U) = P at *;generalize grpN U k = gk at *;clear hRR hNN;have HPP := Lib.hid hPP;clear hPP;obtain ⟨sM, aM, nM, cM, m0, m1, m2, m3, m4, -, -, -, -, -, -⟩ := HFA.out.cellsA;go_upto_region 17 with fail;refine wp_region_T (by kernel_rfl) [9] (S := fun w' => w'.cell? ⟨B4, 3, none⟩ = some (.slice aR R.length cR) /\ w'.cell? ⟨G, k * 2, none⟩ = some (.bool sN) /\ w'.cell? ⟨G, k * 2 + 1, none⟩ = some (.slice aN' nN cN)) ⟨m3, d0, d1⟩ (fun hHeld => ?_);refine pL 0 rfl ?_;refine kL 1 rfl ?_;(refine pL 2 rfl ?_; refine pL 3 rfl ?_; refine pL 4 rfl ?_)
      refine kL 5 rfl ?_;(refine pL 6 rfl ?_; refine pL 7 rfl ?_)
      (refine oL 8 rfl fun K hK => tL ?_; go_simp);have hD7 : (wB.alloc (.cells #[.bool sN, .slice aN' nN cN, .int .i64 (kk : Int)] 41)).drew.heap[wB.heap.size]? = some (.cells #[.bool sN, .slice aN' nN cN, .int .i64 (kk : Int)] 41 (0, 0)) := heap_alloc_new wB (.cells #[.bool sN, .slice aN' nN cN, .int .i64 (kk : Int)] 41);have hsc : Sc eP (wB.alloc (.cells #[.bool sN, .slice aN' nN cN, .int .i64 (kk : Int)] 41)).drew wB.heap.size 0 [((gk : Int), (kk : Int))] := Sc.one hD7 ⟨sN, aN', nN, cN, rfl, (HNA.out.alloc _).drew⟩;have hF7 := (HFA.out.alloc (.cells #[.bool sN, .slice aN' nN cN, .int .i64 (kk : Int)] 41)).drew;have hB7 := (HBA.out.al (.cells #[.bool sN, .slice aN' nN cN, .int .i64 (kk : Int)] 41)).dr;have hN7 := (HNA.out.alloc (.cells #[.bool sN, .slice aN' nN cN, .int .i64 (kk : Int)] 41)).drew;have m3' := cellD (cellN m3 (.cells #[.bool sN, .slice aN' nN cN, .int .i64 (kk : Int)] 41));have d0' := cellD (cellN d0 (.cells #[.bool sN, .slice aN' nN cN, .int .i64 (kk : Int)] 41));have d1' := cellD (cellN d1 (.cells #[.bool sN, .slice aN' nN cN, .int .i64 (kk : Int)] 41));have hlt7 := hB7.size;(go_wp2_with fail; clear hHeld; refine nxL hK ⟨m3', d0', d1'⟩ fun hHeld => tL ?_; clear hK);refine wpAnyT_one (i := 9) (by as_aux_lemma => kernel_rfl) rfl (fun K hK => ?_);refine step_apS (E := eP) (by rfl) (.tmp 102) (.tmp 109) _ (by rfl) Tryz.underlying30 0 _ R [((gk : Int), (kk : Int))] (by rfl) hF7.hR (Nat.zero_le _) wB.heap.size 0 1 1 (by rfl) rfl hsc (by decide) (by omega) ?_;intro g8 cap8 w8 h8 hb8 hg8
      have hg8' : ∀ g, (Value.slice (some ⟨g8, 0, none⟩) (R.length + 1) cap8).ownBlock = some g -> (Value.slice aR R.length cR).ownBlock = some g \/ g = (wB.alloc (.cells #[.bool sN, .slice aN' nN cN, .int .i64 (kk : Int)] 41)).drew.heap.size := fun g hg => by
       have : g8 = g := by simpa [Value.ownBlock] using hg
       rw [<- this]; exact hg8
      obtain ⟨k1, k2, k3⟩ := hF7.setR hb8 h8 hg8';obtain ⟨y1, y2, y3, y4, -, -, -, z3, -, -, -, -, z8, -, -⟩ := hF7.cellsA;have d8 := cell_fr hb8 (cell_lt m3') hF7.d3 m3';have f8 := frozen_fr hb8 (cell_lt m3') hF7.d3 z8
      have hR8 : ∀ g, (Value.slice (some ⟨g8, 0, none⟩) (R.length + 1) cap8).ownBlock = some g -> _ <= g := fun g hg => by
       rcases hg8' g hg with h | h
       ·exact HFRQ.out g h
       ·rw [h]; exact hlt7
      have hBs : ButS (fun k => k = B4 \/ (Value.slice aR R.length cR).ownBlock = some k) (wB.alloc (.cells #[.bool sN, .slice aN' nN cN, .int .i64 (kk : Int)] 41)).drew (w8.setCell ⟨B4, 3, none⟩ (.slice (some ⟨g8, 0, none⟩) (R.length + 1) cap8)) := (hb8.mono (fun k _ hk => .inr hk)).step (ButS.set w8 B4 3 (.slice (some ⟨g8, 0, none⟩) (R.length + 1) cap8)) (fun i hi => .inl (.inl hi));have hB8 := hB7.step hBs (fun g hg => hg.imp id (fun h => HFRQ.out g h));have hSn : ∀ g, (g = B4 \/ (Value.slice aR R.length cR).ownBlock = some g) -> NoW (wB.alloc (.cells #[.bool sN, .slice aN' nN cN, .int .i64 (kk : Int)] 41)).drew g := fun g hg => hF7.nw g (hg.imp id .inr);have hN8 := hN7.fr hBs hSn
      have hnG : ¬ (G = B4 \/ (Value.slice aR R.length cR).ownBlock = some G) := fun h => by
       rcases h with h | h
       ·exact hGB4 h
       ·have := HFRQ.out G h; have := HGr.out.lt G rfl; omega
      have d0'' := cell_fr hBs (cell_lt d0') hnG d0';have d1'' := cell_fr hBs (cell_lt d1') hnG d1';have HF8 := Lib.hid k1;have HB8 := Lib.hid hB8;have HN8 := Lib.hid hN8;have HR8 := Lib.hid hR8;clear hF7 hB7 hN7 hb8 h8 hg8 hg8' k1 k2 k3 z3 z8 hB8 hR8 hBs hSn hN8 hnG hD7 hsc m0 m1 m2 m3 m3' m4 d0 d0' d1 d1' hlt7 HFRQ HFA HBA HNA;refine hK.out _ _ nzz ?_;clear hK hHeld;refine tL ?_;refine pL 10 rfl ?_;(refine oL 11 rfl fun K hK => tL ?_; go_simp);(go_wp2_with fail; refine xL hK (tL ?_); clear hK);refine dT ?_;clear d8 f8;generalize w8.setCell ⟨B4, 3, none⟩ (.slice (some ⟨g8, 0, none⟩) (R.length + 1) cap8) = w9 at *;generalize (Value.slice (some ⟨g8, 0, none⟩) (R.length + 1) cap8) = vR9 at *;obtain ⟨sM, aM, nM, cM, m0, m1, -, -, -, f0, f1, -, -, -, hN⟩ := HF8.out.cellsA;go_upto_region 18 with fail;refine wp_region_T (by kernel_rfl) [8] (S := fun w' => w'.cell? ⟨B4, 0, none⟩ = some (.bool sM) /\ w'.cell? ⟨B4, 1, none⟩ = some (.slice aM nM cM) /\ w'.cell? ⟨G, k * 2, none⟩ = some (.bool sN) /\ w'.cell? ⟨G, k * 2 + 1, none⟩ = some (.slice aN' nN cN)) ⟨m0, m1, d0'', d1''⟩ (fun hHeld => ?_);refine pL 0 rfl ?_;refine kL 1 rfl ?_;(refine pL 2 rfl ?_; refine pL 3 rfl ?_; refine pL 4 rfl ?_)
      refine kL 5 rfl ?_;refine pL 6 rfl ?_;(refine oL 7 rfl fun K hK => tL ?_; go_simp);refine (rpower_any _ gk kk _ HN8.out.drew (by omega) hMd2 (by have := hMd2 1 (by omega); rwa [Nat.pow_one] at this)).mono ?_;rintro e wC ⟨v', rfl, hv', hbB⟩;have hFA := HF8.out.drew.up hbB;have hBA := HB8.out.dr.up hbB;have hNA := hN.drew.up hbB;replace m0 := keepc hbB (cellD m0);replace m1 := keepc hbB (cellD m1);replace d0 := keepc hbB (cellD d0'');replace d1 := keepc hbB (cellD d1'');clear hbB hN HF8 HB8 HN8 f0 f1 d0'' d1'';(go_wp2_with fail; clear hHeld; refine nxL hK ⟨m0, m1, d0, d1⟩ fun hHeld => tL ?_; clear hK);(refine oL 8 rfl fun K hK => tL ?_; go_simp);refine (rmul_any _ _ (N : Int) ((gk ^ kk : Nat) : Int) wC hNA hv' hMdN (hMd2 kk (Nat.le_refl _))).mono ?_;rintro e wD ⟨v'', rfl, hv'', hbC⟩;rw [show (N : Int) * ((gk ^ kk : Nat) : Int) = ((N * gk ^ kk : Nat) : Int) by simp] at hv'';obtain ⟨sC, aC, nC, cC, rfl⟩ := hv''.shape;replace hFA := hFA.up hbC;replace hBA := hBA.up hbC;obtain ⟨z1, z2, z3, z4, d0', d1', -, -, -, f0, f1, -, -, -, -⟩ := hFA.cellsA;obtain ⟨kF, kB⟩ := hFA.setN hv'';have hBF := hBA.trans kB;have KF := Lib.hid kF;have KB := Lib.hid hBF;clear hFA hBA kF kB hBF hbC hv'' hv' hNA m0 m1 d0 d1;go_wp2_with fail;refine hK.out _ _ nzz ?_;clear hK hHeld;refine tL ?_;refine pL 9 rfl ?_;(refine oL 10 rfl fun K hK => tL ?_; go_simp);(go_wp2_with fail; refine xL hK (tL ?_); clear hK);refine dT ?_;clear d0' d1' f0 f1;go_wp2_with fail;refine ⟨⟨k + 1, vR9, by go_num, by omega, by omega, ?_, KB.out, HR8.out⟩, by simp [intOf]; omega⟩;rw [HKK.out, HZ.out, HPP.out];exact KF.out
     ·rw [if_neg (fun h => hc (HCM.out.2 h))] at hst;have HST := Lib.hid hst;clear hst;go_wp2_with fail;refine ⟨⟨k + 1, vR, by go_num, by omega, by omega, by rw [HST.out]; exact HFA.out, HBA.out, HFRQ.out⟩, by simp [intOf]; omega⟩
    ·obtain rfl : k = 4 := by omega
     rw [rstTo_four] at hF2;have q1 := keepc HL3.out r1;have hWG : w.heap.size + 1 < B4 /\ B4 < G := ⟨by omega, hGB⟩;have q2 := cell_fr HBS.out (cell_lt q1) (fun h => by omega) q1;have q3 := cell_fr hbq (cell_lt q2) (by omega) q2;have hD4 : w4.heap[w.heap.size + 1]? = some (.cells #[.bool false, .slice none 0 0, .slice none 0 0, .slice none 0 0, .int .i64 0] 32 (0, 0)) := (HL3.out.block _ (Array.getElem?_eq_some_iff.1 HD1.out).1).trans HD1.out;have hD5 := (HBS.out.block _ (Array.getElem?_eq_some_iff.1 hD4).1 (fun h => by omega)).trans hD4;have hD6 := (hbq.block _ (Array.getElem?_eq_some_iff.1 hD5).1 (by omega)).trans hD5;have hbW : Below W.heap.size W _ := ButS.below (ButS.below HL3.out HBS.out HL3.out.size (fun g hg => by have := HL3.out.size; omega)) hbq (by have := HL3.out.size; have := HBS.out.size; omega) (fun g hg => by omega);obtain ⟨aR, cR, rfl, hcR⟩ := hF2.hR.slice;obtain ⟨z1, z2, z3, z4, -, -, d2, d3, -, -⟩ := hF2.cellsA;obtain ⟨lm, hlm⟩ : ∃ lm, limN U = lm := ⟨_, rfl⟩;have hlm2 := HLIM.out;obtain ⟨bm, hbm⟩ : ∃ bm, b % (lm + 1) = bm := ⟨_, rfl⟩;have e1 : IntKind.i64.wrap ((lm : Int) + 1) = (lm : Int) + 1 := by rw [IntKind.wrap_i64]; omega
     have e2 : (b : Int).tmod ((lm : Int) + 1) = (bm : Int) := by
      rw [Int.tmod_eq_emod_of_nonneg (by omega), <- hbm];simp
     have e3 : ¬ ((lm : Int) + 1 = 0) := by omega
     have e4 : IntKind.i64.wrap (b : Int) = (b : Int) := by rw [IntKind.wrap_i64]; omega
     have HBM := Lib.hid hbm;have HLM := Lib.hid hlm;have HF9 := Lib.hid hF2;have HD6 := Lib.hid hD6;have HBW2 := Lib.hid hbW;rw [hlm];have hkwn : ∀ p ∈ kwnN U, sz ((p.1 : Nat) : Int) <= 1099511627776 := fun p hp => Nat.le_trans ((kwn_md U hlU).sz (kwn_le U hp)) (by decide)
     have hrst : ∀ p ∈ rstN U, sz ((p.1 : Nat) : Int) <= 1099511627776 := fun p hp => by
      obtain ⟨a, -, rfl⟩ := List.mem_map.1 hp;exact Nat.le_trans ((grpN_md U hlU a).sz (Nat.le_refl _)) (by decide)
     have hrstl : (zP (rstN U)).length <= 3 := by
      rw [zP_len];unfold rstN;rw [List.length_map];exact Nat.le_trans (List.length_filter_le _ _) (by decide)
     clear hF2 hD4 hD5 hD6 hbW hbm hlm hlm2 q1 q2 hbq HGr;go_upto_region 19 with fail
     have hszP : szL (zP (kwnN U)) := ⟨by rw [HPL.out]; have := HPLE.out; omega, fun x hx => by
      unfold zP at hx;obtain ⟨p, hp, rfl⟩ := List.mem_map.1 hx;exact hkwn p hp⟩
     have hszR : szL (zP (rstN U)) := ⟨by have := hrstl; omega, fun x hx => by
      unfold zP at hx;obtain ⟨p, hp, rfl⟩ := List.mem_map.1 hx;exact hrst p hp⟩
     have HSR := Lib.hid hszR;clear hszR hkwn hrst;refine wp_region_U (by kernel_rfl) [13] (S := fun w' => w'.cell? ⟨B4, 2, none⟩ = some (.slice aP PL cP) /\ w'.cell? ⟨B4, 3, none⟩ = some (.slice aR (zP (rstN U)).length cR)) (S2 := fun w' => w'.cell? ⟨w.heap.size, 1, none⟩ = some (.int .u16 (b : Int))) q3 ⟨d2, d3⟩ (fun hH2 hHeld => ?_);refine upL 0 rfl ?_;refine ukL 1 rfl ?_;refine upL 3 rfl ?_;refine ukL 4 rfl ?_;refine upL 6 rfl ?_;refine upL 7 rfl ?_;refine upL 8 rfl ?_;refine upL 9 rfl ?_;refine upL 10 rfl ?_;refine upL 11 rfl ?_;(refine uoL 2 rfl fun K hK => tL ?_; go_simp)
     refine (rsorted_any _ (zP (kwnN U)) _ HF9.out.hP.sr.drew hszP (by rw [HPL.out]; have := HPLE.out; omega)).mono ?_;rintro e wA ⟨v2, P', rfl, hS2, hZ2, hbA⟩;obtain ⟨av2, cv2, rfl, -⟩ := hS2.slice;obtain ⟨nP, hnP⟩ : ∃ n, P'.length = n := ⟨_, rfl⟩;rw [hnP] at hS2 |-;clear hnP;have hFA := HF9.out.drew.up hbA;replace d2 := keepc hbA (cellD d2);replace d3 := keepc hbA (cellD d3);replace q3 := keepc hbA (cellD q3);have hWA := Bl.up (Bl.drew HBW2.out) hbA;have hDA := (hbA.block _ (Array.getElem?_eq_some_iff.1 HD6.out).1).trans HD6.out;clear hszP HD6 HBW2 hH2 hHeld;go_wp2_with fail;refine hK.out _ _ q3 (fun _ => ⟨d2, d3⟩) ?_;have hHeld : (fun w' : World => w'.cell? ⟨B4, 2, none⟩ = some (.slice aP PL cP) /\ w'.cell? ⟨B4, 3, none⟩ = some (.slice aR (zP (rstN U)).length cR)) wA := ⟨d2, d3⟩;have hH2 : (fun w' : World => w'.cell? ⟨w.heap.size, 1, none⟩ = some (.int .u16 (b : Int))) wA := q3;clear hK;refine tL ?_;refine upL 12 rfl ?_;(refine uoL 5 rfl fun K hK => tL ?_; go_simp)
     refine (rsorted_any _ (zP (rstN U)) wA hFA.hR.sr HSR.out (by have := hrstl; omega)).mono ?_;rintro e wB ⟨v5, R', rfl, hS5, hZ5, hbB⟩;obtain ⟨av5, cv5, rfl, -⟩ := hS5.slice;obtain ⟨nR, hnR⟩ : ∃ n, R'.length = n := ⟨_, rfl⟩;rw [hnR] at hS5 |-;clear hnR;have hFB := hFA.up hbB;have hS2B := hS2.up hbB;have hWB2 := Bl.up hWA hbB;have hDB := (hbB.block _ (Array.getElem?_eq_some_iff.1 hDA).1).trans hDA;have hltA := HF9.out.lt;have hsA := hbA.size;have hsB := hbB.size;replace q3 := keepc hbB q3;replace d2 := keepc hbB d2;replace d3 := keepc hbB d3;have hRl := fun g hg => (HF9.out.hR.lt g hg).2
     have hn2 : ∀ g, (Value.slice av2 nP cv2).ownBlock = some g -> g ≠ B4 /\ (Value.slice aR (zP (rstN U)).length cR).ownBlock ≠ some g := fun g hg => by
      have h1 := (hS2.lt g hg).1;have h2 : ∀ W : World, W.drew.heap.size = W.heap.size := fun _ => rfl;rw [h2] at h1;exact ⟨by omega, fun e => by have := hRl g e; omega⟩
     have k1 := hFB.putP (hS2B.base (Nat.zero_le _)) hn2;have hb1 := ButS.set wB B4 2 (Value.slice av2 nP cv2);have hnB : ∀ g, g = B4 -> NoW wB g := fun g e => hFB.nw g (.inl e);have hS5' := hS5.fr hb1 hnB (fun g hg e => by have := (hS5.lt g hg).1; have := hFA.lt; omega)
     have hn5 : ∀ g, (Value.slice av5 nR cv5).ownBlock = some g -> ¬ bset B4 (Value.slice av2 nP cv2) (.slice aR (zP (rstN U)).length cR) g := fun g hg hb => by
      have h1 := (hS5.lt g hg).1;rcases hb with h | h | h
      ·have := hFA.lt; omega
      ·have := (hS2.lt g h).2; omega
      ·have := hRl g h;have h2 : ∀ W : World, W.drew.heap.size = W.heap.size := fun _ => rfl;rw [h2] at hsA;omega
     have k2 := k1.putR (hS5'.base (Nat.zero_le _)) hn5;have k3 := k2.setB (b' := (bm : Int));have hb3 : ButS (fun k => k = B4) wB (((wB.setCell ⟨B4, 2, none⟩ (Value.slice av2 nP cv2)).setCell ⟨B4, 3, none⟩ (Value.slice av5 nR cv5)).setCell ⟨B4, 4, none⟩ (.int .i64 (bm : Int))) := (hb1.trans (ButS.set _ B4 3 (Value.slice av5 nR cv5))).trans (ButS.set _ B4 4 _);have hD3 := (hb3.block _ (Array.getElem?_eq_some_iff.1 hDB).1 (by omega)).trans hDB;have hW3 : Below W.heap.size W _ := ButS.below hWB2 hb3 hWB2.size (fun g e => by omega);obtain ⟨z1, z2, z3, z4, -, -, -, -, -, -, -, f2, -, -, -⟩ := hFB.cellsA;obtain ⟨y1, y2, y3, y4, -, -, -, e3', -, -, -, -, f3, -, -⟩ := k1.cellsA;obtain ⟨x1, x2, x3, x4, -, -, -, -, e4', -, -, -, -, f4, -⟩ := k2.cellsA;have q4 := cell_fr (ButS.set wB B4 2 (Value.slice av2 nP cv2)) (cell_lt q3) (by omega) q3;have q5 := cell_fr (ButS.set (wB.setCell ⟨B4, 2, none⟩ (Value.slice av2 nP cv2)) B4 3 (Value.slice av5 nR cv5)) (cell_lt q4) (by omega) q4;have q6 := cell_fr (ButS.set ((wB.setCell ⟨B4, 2, none⟩ (Value.slice av2 nP cv2)).setCell ⟨B4, 3, none⟩ (Value.slice av5 nR cv5)) B4 4 (.int .i64 (bm : Int))) (cell_lt q5) (by omega) q5;obtain ⟨Pn, rfl, hsP⟩ := hZ2.nat;obtain ⟨Rn, rfl, hsR⟩ := hZ5.nat;have HSP := Lib.hid hsP;have HSR2 := Lib.hid hsR;have HK3 := Lib.hid k3;have HD3 := Lib.hid hD3;have HW3 := Lib.hid hW3;clear hH2 hHeld hFB hS2B hWB2 hDB hltA hsA hsB hRl hn2 k1 hb1 hnB hS5' hn5 k2 k3 hb3 hD3 hW3 hsP hsR hZ2 hZ5 hFA hWA hDA hS2 hS5 hbA hbB;go_wp2_with fail;refine hK.out _ _ q3 (fun _ => ⟨d2, d3⟩) ?_;have hHeld := d2;have hH2 : (fun w' : World => w'.cell? ⟨w.heap.size, 1, none⟩ = some (.int .u16 (b : Int))) wB := q3;clear hK;refine tL ?_;(refine uoL 13 rfl fun K hK => tL ?_; go_simp)
     go_wp2_with fail;refine hK.out _ _ q4 nzz ?_;clear hH2;have hH2 : (fun w' : World => w'.cell? ⟨w.heap.size, 1, none⟩ = some (.int .u16 (b : Int))) (wB.setCell ⟨B4, 2, none⟩ (Value.slice av2 nP cv2)) := q4;clear hK;refine tL ?_;refine upL 14 rfl ?_;(refine uoL 15 rfl fun K hK => tL ?_; go_simp)
     go_wp2_with fail;refine hK.out _ _ q5 nzz ?_;clear hH2;have hH2 : (fun w' : World => w'.cell? ⟨w.heap.size, 1, none⟩ = some (.int .u16 (b : Int))) ((wB.setCell ⟨B4, 2, none⟩ (Value.slice av2 nP cv2)).setCell ⟨B4, 3, none⟩ (Value.slice av5 nR cv5)) := q5;clear hK;refine tL ?_;refine upL 16 rfl ?_;(refine uoL 17 rfl fun K hK => tL ?_; go_simp)
     go_wp2_with fail;refine hK.out _ _ q6 nzz ?_;clear hK;refine tL ?_;refine wpAnyU_done (by kernel_rfl) ?_ _;clear hH2 hHeld q3 q4 q5 q6 d2 d3 f2 f3 f4 e3' e4';generalize ((wB.setCell ⟨B4, 2, none⟩ (Value.slice av2 nP cv2)).setCell ⟨B4, 3, none⟩ (Value.slice av5 nR cv5)).setCell ⟨B4, 4, none⟩ (.int .i64 (bm : Int)) = w9 at *;obtain ⟨sF, aF, nF, cF, hh, hfx⟩ := HK3.out.hb;obtain ⟨b0, b1, b2, b3, b4, -⟩ := heap5' hh;obtain ⟨d0, d1, d2, d3, d4, -⟩ := heap5' HD3.out;obtain ⟨-, -, -, -, -, f0, f1, f2, f3, f4⟩ := heap5' HD3.out;have HFX := Lib.hid hfx;clear hh hfx;go_wp2_with fail
     have hfin : ButS (fun k => k = w.heap.size + 1) w9 (((((w9.setCell ⟨w.heap.size + 1, 0, none⟩ (.bool sF)).setCell ⟨w.heap.size + 1, 1, none⟩ (.slice aF nF cF)).setCell ⟨w.heap.size + 1, 2, none⟩ (.slice av2 nP cv2)).setCell ⟨w.heap.size + 1, 3, none⟩ (.slice av5 nR cv5)).setCell ⟨w.heap.size + 1, 4, none⟩ (.int .i64 (bm : Int))) :=
      ((((ButS.set w9 _ 0 _).trans (ButS.set _ _ 1 _)).trans (ButS.set _ _ 2 _)).trans (ButS.set _ _ 3 _)).trans (ButS.set _ _ 4 _)
     have hnw : ∀ g, g = w.heap.size + 1 -> NoW w9 g := by
      rintro g rfl o x hx;simp only [World.cell?, HD3.out] at hx;rcases o with _ | _ | _ | _ | _ | o <;> simp at hx
     refine ret_fact (B := w.heap.size + 1) (T := 32) (fr := (0, 0)) (x0 := .bool sF) (x1 := .slice aF nF cF) (x2 := .slice av2 nP cv2) (x3 := .slice av5 nR cv5) (x4 := .int .i64 (bm : Int)) rfl rfl rfl (by simp [World.setCell, Array.getElem?_modify, HD3.out]) ?_;have hlW : w.heap.size <= W.heap.size := by omega
     have g1 := HFX.out.fr hfin hnw;have g2 := HK3.out.hP.sr.fr hfin hnw (fun hl => HK3.out.hP.sr.not_fact HD3.out hl);have g3 := HK3.out.hR.sr.fr hfin hnw (fun hl => HK3.out.hR.sr.not_fact HD3.out hl);refine ⟨_, ⟨pk (kwnN U ++ rstN U), Pn, Rn, bm⟩, rfl, ⟨sF, aF, nF, cF, _, _, rfl, g1, g2, g3⟩, ?_, ?_⟩
     ·rw [HUE.out];exact ⟨rfl, HSP.out, HSR2.out, by rw [HLM.out]; exact HBM.out.symm⟩
     ·exact ButS.below (Bl.up HBW.out HW3.out) hfin (by have := HW3.out.size; omega) (fun g e => by omega)
end Go.Proofs.YtblebpmlkpobnaaGreatDoor
