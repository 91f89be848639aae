/-
  factor.Divisors.
-/
import Derived.Test.YtblebpmlkpobnaaGreatFH1
import Derived.Test.YtblebpmlkpobnaaGreatFP1
import Derived.Test.YtblebpmlkpobnaaGreatFZC
import Derived.Test.YtblebpmlkpobnaaGreatFI1
import Derived.Test.YtblebpmlkpobnaaGreatFJ2
import Derived.Test.YtblebpmlkpobnaaGreatFV
set_option linter.unusedSimpArgs false
set_option linter.unusedVariables false
set_option maxRecDepth 100000
set_option maxHeartbeats 8000000
namespace Go.Proofs.YtblebpmlkpobnaaGreat
open Go.RowKit
attribute [local go_sem ↓] Go.wp_at_zero Go.wp_at_succ
theorem dvS_zero (out : List Nat) (p : Nat) : dvS out p 0 = out := by simp [dvS]
theorem dvS_succ (out : List Nat) (p k : Nat) : dvS out p (k + 1) = dvS out p k ++ out.map (· * p ^ (k + 1)) := by
 unfold dvS;rw [List.range_succ, List.flatMap_append];simp
theorem dvL_snoc {l : List (Nat × Nat)} {i : Nat} (hi : i < l.length) (out : List Nat) : dvL (l.take (i + 1)) out = dvS (dvL (l.take i) out) (l.getD i (0, 0)).1 (l.getD i (0, 0)).2 := by
 unfold dvL;rw [List.take_succ_eq_append_getElem hi, List.foldl_append, List.getD_eq_getElem?_getD, List.getElem?_eq_getElem hi];rfl
theorem cnt_snoc {l : List (Nat × Nat)} {i : Nat} (hi : i < l.length) : cntN (l.take (i + 1)) = cntN (l.take i) * ((l.getD i (0, 0)).2 + 1) := by
 rw [List.take_succ_eq_append_getElem hi, cnt_append, List.getD_eq_getElem?_getD, List.getElem?_eq_getElem hi];simp [cntN]
theorem cnt_take (l : List (Nat × Nat)) (i : Nat) : cntN (l.take i) <= cntN l := by
 conv => rhs; rw [<- List.take_append_drop i l]
 exact cnt_prefix _ _
structure DvI (l : List (Nat × Nat)) (N : Nat) : Prop where
 n1 : 1 <= N
 md : Md N
 co : Cob (ks l)
 pk : pk l = N
theorem DvI.of {f : Fn} (hf : RightN f) (hm : Md f.N) (hR : f.R = []) : DvI f.P f.N := by
 have h1 := hf.cob;have h2 := hf.prod;rw [hR, List.append_nil] at h1 h2;exact ⟨hf.n1, hm, h1, h2.symm⟩
section
variable {l : List (Nat × Nat)} {N : Nat} (h : DvI l N)
include h
theorem DvI.dv (i : Nat) : ∀ y ∈ dvL (l.take i) [1], 1 <= y /\ y ∣ N := by
 have hc : Cob (ks (l.take i)) := by
  have := h.co;unfold ks at this |-;exact ⟨fun p hp => this.1 p (List.Sublist.subset ((List.take_sublist i l).map _) hp), this.2.sublist ((List.take_sublist i l).map _)⟩
 obtain ⟨-, h2, -, -⟩ := dvL_facts (l.take i) [1] 1 hc (by simp) (fun y hy => by
  have : y = 1 := by simpa using hy
  subst this;exact ⟨Nat.le_refl _, Nat.dvd_refl _, fun p _ => Nat.coprime_one_right p⟩) (by simp) (by simp)
 intro y hy;obtain ⟨h3, h4⟩ := h2 y hy;refine ⟨h3, Nat.dvd_trans h4 ?_⟩;rw [Nat.one_mul, <- h.pk];conv => rhs; rw [<- List.take_append_drop i l, pk_append]
 exact Nat.dvd_mul_right _ _
theorem DvI.key {i : Nat} (hi : i < l.length) : 2 <= (l.getD i (0, 0)).1 /\ (l.getD i (0, 0)).1 ^ (l.getD i (0, 0)).2 ∣ N := by
 have hm : l.getD i (0, 0) ∈ l := by rw [List.getD_eq_getElem?_getD, List.getElem?_eq_getElem hi]; exact List.getElem_mem _
 refine ⟨h.co.1 _ (ks_mem hm), ?_⟩;rw [<- h.pk]
 have key : ∀ (m : List (Nat × Nat)) (x : Nat × Nat), x ∈ m -> x.1 ^ x.2 ∣ Proofs.YtblebpmlkpobnaaGreat.pk m := by
  intro m;induction m with
  | nil => intro x hx; simp at hx
  | cons y m ih =>
    intro x hx;rw [pk_cons];rcases List.mem_cons.1 hx with e | e
    ·rw [e]; exact Nat.dvd_mul_right _ _
    ·exact Nat.dvd_trans (ih x e) (Nat.dvd_mul_left _ _)
 exact key _ _ hm
theorem DvI.exp {i : Nat} (hi : i < l.length) : (l.getD i (0, 0)).2 <= 65536 := h.md.exp (h.key hi).1 (Nat.le_of_dvd h.n1 (h.key hi).2)
theorem DvI.szp {i j : Nat} (hi : i < l.length) (hj : j <= (l.getD i (0, 0)).2) (hk : 1 <= (l.getD i (0, 0)).2) : sz (((l.getD i (0, 0)).1 ^ (j + 1) : Nat) : Int) <= 1099511627776 := by
 obtain ⟨h1, h2⟩ := h.key hi;have h3 := Nat.le_of_dvd h.n1 h2;have h4 : (l.getD i (0, 0)).1 ^ j <= N := Nat.le_trans (Nat.pow_le_pow_right (by omega) hj) h3
 have h5 : (l.getD i (0, 0)).1 <= N := by
  have : (l.getD i (0, 0)).1 ^ 1 <= N := Nat.le_trans (Nat.pow_le_pow_right (by omega) hk) h3;rwa [Nat.pow_one] at this
 refine sz_prod (n := N * N) ?_ (h.md.prod h.md);rw [Nat.pow_succ];exact Nat.mul_le_mul h4 h5
theorem DvI.szy {i y : Nat} (hy : y ∈ dvL (l.take i) [1]) : sz (y : Int) <= 4096 := h.md.sz (Nat.le_of_dvd h.n1 (h.dv i y hy).2)
theorem DvI.szv {i j y : Nat} (hi : i < l.length) (hj : j <= (l.getD i (0, 0)).2) (hy : y ∈ dvL (l.take i) [1]) : sz ((y * (l.getD i (0, 0)).1 ^ j : Nat) : Int) <= 4096 := by
 refine h.szy (i := i + 1) ?_;rw [dvL_snoc hi];exact mem_dvS.2 ⟨j, hj, y, hy, rfl⟩
end
def knV (L : List Int) : Kn where
 R := fun i v Z w => i = 1 -> So eI w 0 v L /\ ∀ g, v.ownBlock = some g -> Z g
 V := fun w B => Vx w B 0
 up := fun h hb e => ⟨(h e).1.up hb, (h e).2⟩
 vup := fun h hb => h.up hb
 vlt := fun h => h.lt
theorem zI_perm {m : List Int} {l : List Nat} (h : m.Perm (zI l)) : ∃ u, m = zI u /\ u.Perm l := by
 refine ⟨m.map Int.toNat, ?_, ?_⟩
 ·unfold zI;rw [List.map_map];refine (List.map_id m).symm.trans (List.map_congr_left fun x hx => ?_);have := h.mem_iff.1 hx;unfold zI at this;obtain ⟨y, -, e⟩ := List.mem_map.1 this;rw [<- e]; rfl
 ·have := h.map Int.toNat;unfold zI at this;rw [List.map_map] at this;have e : (Int.toNat ∘ fun (x : Nat) => (x : Int)) = id := by funext x; rfl
  rw [e, List.map_id] at this;exact this
theorem zI_sorted {l : List Nat} (h : (zI l).Pairwise (· <= ·)) : l.Pairwise (· <= ·) := by
 unfold zI at h;exact (List.pairwise_map.1 h).imp (fun h => by omega)
theorem Vx.nw {w : World} {B : Nat} {z : Int} (h : Vx w B z) : NoW w B := by obtain ⟨_, _, _, _, _, _, h⟩ := h; exact h
theorem map_snoc {out : List Nat} {m : Nat} (hm : m < out.length) (c : Nat) : (out.map (· * c)).take (m + 1) = (out.map (· * c)).take m ++ [out.getD m 0 * c] := by
 rw [List.take_succ_eq_append_getElem (by rw [List.length_map]; exact hm), List.getD_eq_getElem?_getD, List.getElem?_eq_getElem hm];simp
theorem So.one {α : Type} {E : Elt α} {w : World} {base g : Nat} {cs : List Value} {x : α} (hg : w.heap[g]? = some (.cells cs.toArray E.T (0, 0))) (hb : base <= g) (hx : E.ok w cs x) : So E w base (.slice (some ⟨g, 0, none⟩) 1 1) [x] := by
 refine So.ofCells (E := E) (l := [x]) hg hb (show 1 <= maxLen by decide) (by simpa using E.len hx) (fun i hi => ?_) (fun u hu => (E.one hx u (by simpa using hu)).1);have hi : i < 1 := hi;obtain rfl : i = 0 := by omega
 exact ⟨cs, hx, fun j u e => by simpa using e⟩
theorem divisors_any (va : Value) (f : Fn) (w : World) (ha : Fx w va (zF f)) (hf : RightN f) (hm : Md f.N) (hR : f.R = []) :
  Calls Tryz.prog 33 #[va] w fun e w' => Below w.heap.size w w' /\
   ((4000 < cntN f.P /\ e = .returned (.tuple #[.slice none 0 0, .int .i64 2])) \/
     (cntN f.P <= 4000 /\ ∃ v m, e = .returned (.tuple #[v, .int .i64 0]) /\ Sr eI w' v (zI m) /\ m.Perm (dvL f.P [1]) /\ m.Pairwise (· <= ·))) := by
 obtain ⟨W, s, a, n, c, aP, cP, aR, cR, rfl, hW, bl, hs, hF⟩ := boxN w ha;have hDv := DvI.of hf hm hR;have HRR := Lib.hid hR;clear ha hR;go_enter Tryz.func33, Tryz.ntmps33
 go_upto_region 1 with fail;rw [<- hW];clear hW;obtain ⟨-, -, p2, p3, -, -, hP1, -⟩ := hF.cellsN;rw [HRR.out] at p3;replace p3 : W.cell? ⟨w.heap.size, 3, none⟩ = some (.slice aR 0 cR) := p3;obtain ⟨l, hl⟩ : ∃ l, f.P = l := ⟨_, rfl⟩;obtain ⟨N, hN⟩ : ∃ N, f.N = N := ⟨_, rfl⟩;rw [hl] at p2 hP1 hDv |-;rw [hN] at hDv;have HD := Lib.hid hDv;have HLE := Lib.hid hl;have HP := Lib.hid hP1;have HBL := Lib.hid bl;have hll : l.length <= 65536 := by have := hf.len hm; rw [hl] at this; omega
 clear hF hP1 hDv bl hf hm hl hN;go_wp2_with fail;refine (number_any 1 W (by decide) (by decide)).mono ?_;rintro e w1 ⟨v, rfl, hv, hb1⟩;obtain ⟨s1, a1, n1, c1, rfl⟩ := hv.shape;replace p2 := keepc hb1 p2;have hD1 := heap_alloc_new w1 (.cells #[.bool s1, .slice a1 n1 c1] 33);have hb2 := below_new w1 (.cells #[.bool s1, .slice a1 n1 c1] 33);have hO := So.one (E := eI) (base := W.heap.size) (cs := [.bool s1, .slice a1 n1 c1]) hD1 hb1.size ⟨s1, a1, n1, c1, rfl, hv.up hb2⟩;replace p2 := keepc hb2 p2;have HO := Lib.hid hO;have HB2 := Lib.hid (Bl.up hb1 hb2);clear hD1 hb2 hO hv hb1 p3;go_upto_region 4 with fail;generalize w1.alloc (.cells #[.bool s1, .slice a1 n1 c1] 33) = w3 at *;generalize w1.heap.size = G1 at *;go_wp2_with fail
 go_loopw [4, 6, 7, 8, 10, 20] (fun s4 s6 s7 s8 s10 s20 wr => ∃ i : Nat, s20 = .int .i64 (i : Int) /\ i <= l.length /\ So eI wr W.heap.size s4 (zI (dvL (l.take i) [1])) /\ cntN (l.take i) <= 4000 /\ Below W.heap.size W wr)
  (fun _ _ _ _ _ s20 _ => l.length - (intOf s20).toNat)
 case atStart => exact ⟨0, rfl, Nat.zero_le _, HO.out, (show (1 : Nat) <= 4000 by decide), HB2.out⟩
 case round =>
  obtain ⟨i, rfl, hi, hO, hc, hbr⟩ := hrel;obtain ⟨ao, co, rfl, hco⟩ := hO.slice;have hnl : (zI (dvL (l.take i) [1])).length = cntN (l.take i) := by rw [zI_len, dvL_len]; simp
  have HO := Lib.hid hO;have HR := Lib.hid hbr;by_cases hlt : i < l.length
  ·have hltz : i < (zP l).length := by rw [zP_len]; exact hlt
   obtain ⟨ba, offa, rfl, hba, hla⟩ := (HP.out.up hbr).at hltz;obtain ⟨sp, ap, np, kp, x0, x1, x2, hx⟩ := hla.pow hltz;rw [zP_getD] at x2 hx;have hcs := cnt_snoc hlt;have hds := dvL_snoc hlt [1];have hex := HD.out.exp hlt;have hky := HD.out.key hlt;have hsp := fun j => HD.out.szp (j := j) hlt;have hsv := fun j y => HD.out.szv (i := i) (j := j) (y := y) hlt;have hsy := fun y => HD.out.szy (i := i) (y := y);obtain ⟨q, hq⟩ : ∃ q, l.getD i (0, 0) = q := ⟨_, rfl⟩;rw [hq] at x2 hx hcs hds hex hky;simp only [hq] at hsp hsv;obtain ⟨p, k⟩ := q;dsimp only at x2 hx hcs hds hex hky hsp hsv;obtain ⟨out, hout⟩ : ∃ out, dvL (l.take i) [1] = out := ⟨_, rfl⟩;rw [hout] at hnl HO hds hsv hsy;obtain ⟨cn, hcn⟩ : ∃ cn, cntN (l.take i) = cn := ⟨_, rfl⟩;rw [hcn] at hnl hcs hc;have HDS := Lib.hid hds;have HCS := Lib.hid hcs;have HKY := Lib.hid hky;have HSP := Lib.hid hsp;have HSV := Lib.hid hsv;have HSY := Lib.hid hsy;have HX := Lib.hid hx;have HNL := Lib.hid hnl;have i0 : (0 : Int) <= (i : Int) := by omega
   have i1 : (i : Int) < (l.length : Int) := by omega
   rw [hout, hnl];clear hla hq hds hcs hky hsp hsv hsy hx hO hbr hout hcn hnl hltz;have hw1 : IntKind.i64.wrap ((k : Int) + 1) = (k : Int) + 1 := by rw [IntKind.wrap_i64]; omega
   have hmul : (cn : Int) * ((k : Int) + 1) = ((cn * (k + 1) : Nat) : Int) := by rw [Int.natCast_mul]; rfl
   have hmle : cn * (k + 1) <= 4000 * 65537 := Nat.mul_le_mul hc (by omega);obtain ⟨mm, hmm⟩ : ∃ mm, cn * (k + 1) = mm := ⟨_, rfl⟩;rw [hmm] at hmul hmle;have hw2 : IntKind.i64.wrap (mm : Int) = (mm : Int) := by rw [IntKind.wrap_i64]; omega
   by_cases hbig : 4000 < mm
   ·have j1 : (mm : Int) > 4000 := by omega
    go_wp2_with fail;refine bodyPost_ret (results_tmp2 rfl _ _ _) rfl ?_;refine ⟨Bl.alloc (Bl.up HBL.out HR.out) _, .inl ⟨?_, rfl⟩⟩;have h1 := cnt_take l (i + 1);have h2 := HCS.out;rw [HLE.out];omega
   ·have j1 : ¬ (mm : Int) > 4000 := by omega
    have hcs2 : cntN (l.take (i + 1)) <= 4000 := by have := HCS.out; omega
    have HC2 := Lib.hid hcs2;go_upto_region 9 with fail;have hD6 := heap_alloc_new wr (.cells #[.bool sp, .slice ap np kp, .int .i64 (k : Int)] 49);have hb6 := below_new wr (.cells #[.bool sp, .slice ap np kp, .int .i64 (k : Int)] 49);have HX6 := Lib.hid (HX.out.up hb6);have HO6 := Lib.hid (HO.out.up hb6);have HR6 := Lib.hid (Bl.up HR.out hb6);have hB6lt := (Array.getElem?_eq_some_iff.1 hD6).1;clear hb6 HX HO HR x0 x1 x2 hba j1 hw1 hmul hmle hw2 hcs2 hmm hbig;generalize wr.alloc (.cells #[.bool sp, .slice ap np kp, .int .i64 (k : Int)] 49) = w6 at *;generalize wr.heap.size = B6 at *;have b0 : w6.cell? ⟨B6, 0, none⟩ = some (.bool sp) := by simp [World.cell?, hD6]
    have b1 : w6.cell? ⟨B6, 1, none⟩ = some (.slice ap np kp) := by simp [World.cell?, hD6]
    have b2 : w6.cell? ⟨B6, 2, none⟩ = some (.int .i64 (k : Int)) := by simp [World.cell?, hD6]
    clear hD6;have hcnz : (zI out).length <= 1099511627776 := by rw [HNL.out]; omega
    refine wp_region_T (by kernel_rfl) [6] (S := fun w' => w'.cell? ⟨B6, 0, none⟩ = some (.bool sp) /\ w'.cell? ⟨B6, 1, none⟩ = some (.slice ap np kp)) ⟨b0, b1⟩ (fun hHeld => ?_);refine pL 0 rfl ?_;refine pL 2 rfl ?_;refine kL 3 rfl ?_;clear hHeld;have HNL6 := HO6.out.sr;rw [<- HNL.out]
    refine wpAnyT_all [(1, some 32), (4, some 8), (5, some 7)] 1 (fun bb xx wz => Fl (knV (zI out)) 4 w6 bb xx wz /\ (bb 5 = true -> bb 1 = true /\ xx 5 = xx 1)) rfl (by kernel_rfl) (by decide) (by kernel_rfl) (by kernel_rfl) (by kernel_rfl)
     (fun bb xx wz h => ⟨keepc h.1.bl b0, keepc h.1.bl b1⟩) (fun xx => ⟨Fl.start _ _ _ _, fun h => nomatch h⟩) ?_ ?_
    ·intro i' hi';have hi'' : i' = 1 \/ i' = 4 \/ i' = 5 := by simpa using hi'
     clear hi';rcases hi'' with rfl | rfl | rfl
     ·refine ⟨_, rfl, fun bb xx wz hJ hbf hw K hK => ?_⟩;clear hw;simp only [actA] at hK |-;go_simp;refine (cloneI_any _ (zI out) wz (HNL6.up hJ.1.bl) hcnz).mono ?_;rintro e w2 ⟨v, rfl, hv, hb⟩
      exact hK.out _ _ ⟨hJ.1.call (i := 1) (by decide) (Z := fun k => v.ownBlock = some k) (fun _ => ⟨hv.base (Nat.zero_le _), fun _ h => h⟩) (fun k hk => hv.lt k hk) hb, fun h5 => by
       rw [fset_ne _ _ (by decide)] at h5;have := (hJ.2 h5).1;rw [hbf] at this; cases this⟩
     ·refine ⟨_, rfl, fun bb xx wz hJ hbf hw K hK => ?_⟩;clear hw;simp only [actA] at hK |-;go_simp
      exact hK.out _ _ ⟨hJ.1.var (W' := wz.alloc (.cells #[.bool false, .slice none 0 0] 33)) (Vx.new0 (w := wz) rfl) (below_new _ _), fun h5 => by
       rw [fset_ne _ _ (by decide)] at h5;rw [fset_ne _ _ (by decide), fset_ne _ _ (by decide), fset_ne _ _ (by decide)];exact hJ.2 h5⟩
     ·refine ⟨_, rfl, fun bb xx wz hJ hbf hw K hK => ?_⟩;have h1 := hw 1 (by kernel_rfl);clear hw;simp only [actA] at hK |-;go_simp
      exact hK.out _ _ ⟨hJ.1.call (i := 5) (by decide) (Z := fun _ => False) nzz (fun k hk => hk.elim) (Below.refl _ _), fun _ => by
       rw [fset_ne _ _ (by decide), fset_same, fset_ne _ _ (by decide)];exact ⟨h1, rfl⟩⟩
    intro bz xx wz hbb hJ;obtain ⟨hJ, hJ5⟩ := hJ;obtain ⟨Z, hRR, hZ, hZn⟩ := hJ.pr 1 (by decide) (hbb 1 (by decide));obtain ⟨hSo, hSZ⟩ := hRR rfl;obtain ⟨B8, hx4, hB8, hV8⟩ := hJ.pj (hbb 4 (by decide));replace hZn := hZn (hbb 4 (by decide)) B8 hx4;have hx5 := (hJ5 (hbb 5 (by decide))).2;have hbz := hJ.bl;clear hbb hJ hRR hJ5;obtain ⟨aL, cL, hxL, hcL⟩ := hSo.slice;rw [hxL] at hSo hSZ hx5;rw [HNL.out] at hSo hSZ hx5 hcL hxL;simp only [actM, hx4, hx5, hxL, HNL.out];clear hx4 hxL hx5;have hHeld : (fun w' : World => w'.cell? ⟨B6, 0, none⟩ = some (.bool sp) /\ w'.cell? ⟨B6, 1, none⟩ = some (.slice ap np kp)) wz := ⟨keepc hbz b0, keepc hbz b1⟩;obtain ⟨y1, y2, y3, y4, z0, z1, z2, z3, -⟩ := hV8.cells;(refine oL 6 rfl fun K hK => tL ?_; go_simp);(go_wp2_with fail; refine xL hK (tL ?_); clear hK);refine dT ?_;clear z0 z1 z2 z3 hHeld;have hbu := (ButS.set wz B8 0 (.bool sp)).trans (ButS.set _ B8 1 (.slice ap np kp));have hSn : ∀ g, g = B8 -> NoW wz g := fun g e => by rw [e]; exact hV8.nw
    have hV := Vx.put hV8.va (HX6.out.up hbz);have hSo7 := hSo.fr hbu hSn (fun g hg e => hZn (e ▸ hSZ g hg));have hn7 : ∀ g, (Value.slice aL cn cL).ownBlock = some g -> g ≠ B8 := fun g hg e => hZn (e ▸ hSZ g hg);have hself := hSo7.self (b' := w6.heap.size) (fun g hg => (hZ g (hSZ g hg)).1);have hb7 : Below w6.heap.size w6 ((wz.setCell ⟨B8, 0, none⟩ (.bool sp)).setCell ⟨B8, 1, none⟩ (.slice ap np kp)) := ButS.below hbz hbu hbz.size (fun g e => by omega);have HC0 := Lib.hid b0;have HC1 := Lib.hid b1;replace b0 := keepc hb7 b0;replace b1 := keepc hb7 b1;replace b2 := keepc hb7 b2;have HV := Lib.hid hV;have HS7 := Lib.hid hself;have HN7 := Lib.hid hn7;have HB7 := Lib.hid hb7;clear hbu hSn hV hSo7 hn7 hself hb7 hZ hZn hSZ hSo hV8 hbz;generalize (wz.setCell ⟨B8, 0, none⟩ (.bool sp)).setCell ⟨B8, 1, none⟩ (.slice ap np kp) = w7 at *;go_wp2_with fail
    go_loopw [7, 10, 37] (fun s7 s10 s37 wq => ∃ j : Nat, s37 = .int .i64 (j : Int) /\ j <= k /\ So eI wq w6.heap.size s7 (zI (dvS out p j)) /\ (∀ g, s7.ownBlock = some g -> g ≠ B8) /\ Vx wq B8 ((p ^ (j + 1) : Nat) : Int) /\ Below w6.heap.size w6 wq)
     (fun _ _ s37 _ => k - (intOf s37).toNat)
    case atStart => exact ⟨0, rfl, Nat.zero_le _, by rw [dvS_zero]; exact HS7.out, HN7.out, by rw [Nat.zero_add, Nat.pow_one]; exact HV.out, HB7.out⟩
    case round =>
     obtain ⟨j, rfl, hj, hSq, hnq, hVq, hbq⟩ := hrel;obtain ⟨aq, cq, rfl, hcq⟩ := hSq.slice;have HSq := Lib.hid hSq;have HNq := Lib.hid hnq;have HVq := Lib.hid hVq;have HBq := Lib.hid hbq;by_cases hjk : j < k
     ·have j1 : (j : Int) < (k : Int) := by omega
      clear hSq hnq hVq hbq hcq;go_wp2_with fail
      go_loopw [7, 10, 41] (fun s7 s10 s41 wy => ∃ m : Nat, s41 = .int .i64 (m : Int) /\ m <= cn /\ So eI wy w6.heap.size s7 (zI (dvS out p j ++ (out.map (· * p ^ (j + 1))).take m)) /\ (∀ g, s7.ownBlock = some g -> g ≠ B8) /\ Vx wy B8 ((p ^ (j + 1) : Nat) : Int) /\ Below w6.heap.size w6 wy)
       (fun _ _ s41 _ => cn - (intOf s41).toNat)
      case atStart => exact ⟨0, rfl, Nat.zero_le _, by simpa using HSq.out, HNq.out, HVq.out, HBq.out⟩
      case round =>
       obtain ⟨m, rfl, hm, hSy, hny, hVy, hby⟩ := hrel;obtain ⟨ay, cy, rfl, hcy⟩ := hSy.slice;by_cases hml : m < cn
       ·have m0 : (0 : Int) <= (m : Int) := by omega
        have m1 : (m : Int) < (cn : Int) := by omega
        have hmz : m < (zI out).length := by rw [HNL.out]; exact hml
        have hmo : m < out.length := by rw [<- zI_len]; exact hmz
        obtain ⟨bo, offo, rfl, hbo, hlo⟩ := (HO6.out.sr.up hby).at hmz;obtain ⟨se, ae, ne, ke, e0, e1, hxe⟩ := hlo.int hmz;rw [zI_getD] at hxe;have hsn := map_snoc hmo (p ^ (j + 1));have hmem : out.getD m 0 ∈ out := by rw [List.getD_eq_getElem?_getD, List.getElem?_eq_getElem hmo]; exact List.getElem_mem _
        have hs1 := HSY.out _ hmem;obtain ⟨x, hx⟩ : ∃ x, out.getD m 0 = x := ⟨_, rfl⟩;rw [hx] at hxe hsn hs1;have hbe := below_new wr (.cells #[.bool se, .slice ae ne ke] 33);have hxe2 := hxe.up hbe;have hVe := hVy.up hbe;have hSe := hSy.up hbe;have hbe2 := Bl.up hby hbe;obtain ⟨s8, a8, n8, c8, f0, f1, -, -, hI8⟩ := hVe.cells;have hs2 := HSP.out j (by omega) (by omega);obtain ⟨ln, hln⟩ : ∃ ln, (zI (dvS out p j ++ (out.map (· * p ^ (j + 1))).take m)).length = ln := ⟨_, rfl⟩;have HLN := Lib.hid hln
        have hln4 : ln + 1 <= 1099511627776 := by
         rw [<- hln, zI_len, List.length_append, dvS_len, List.length_take, List.length_map];have h1 : out.length * (j + 1) <= out.length * (k + 1) := Nat.mul_le_mul_left _ (by omega);have h2 : out.length = cn := by rw [<- zI_len]; exact HNL.out
         have h3 := HC2.out;have h4 := HCS.out;rw [h2] at h1 |-;omega
        have HSe := Lib.hid hSe;have HVe := Lib.hid hVe;have HNe := Lib.hid hny;have HBe := Lib.hid hbe2;have HXe := Lib.hid hxe2;have HI8 := Lib.hid hI8;have HSN := Lib.hid hsn;have HS1 := Lib.hid hs1;have HS2 := Lib.hid hs2;clear hSy hny hVy hby hlo hx hmem hxe hbe hxe2 hVe hSe hbe2 hI8 hsn hs1 hs2 hbo hmz hcy hln;go_upto_region 15 with fail;have hDe := heap_alloc_new wr (.cells #[.bool se, .slice ae ne ke] 33);generalize wr.alloc (.cells #[.bool se, .slice ae ne ke] 33) = w15 at *;generalize wr.heap.size = Be at *;have g0 : w15.cell? ⟨Be, 0, none⟩ = some (.bool se) := by simp [World.cell?, hDe]
        have g1 : w15.cell? ⟨Be, 1, none⟩ = some (.slice ae ne ke) := by simp [World.cell?, hDe]
        clear hDe e0 e1;go_wp2_with fail;refine (mul_any _ _ ((x : Nat) : Int) ((p ^ (j + 1) : Nat) : Int) w15 HXe.out HI8.out (Nat.le_trans HS1.out (by decide)) (Nat.le_trans HS2.out (by decide))).mono ?_;rintro e w16 ⟨v, rfl, hv, hb16⟩;obtain ⟨s9, a9, n9, c9, rfl⟩ := hv.shape;have hb17 := below_new w16 (.cells #[.bool s9, .slice a9 n9 c9] 33);have hD17 := heap_alloc_new w16 (.cells #[.bool s9, .slice a9 n9 c9] 33);have hbb := Bl.up hb16 hb17;have hS17 := HSe.out.up hbb;have hV17 := HVe.out.up hbb;have hB17 := Bl.up HBe.out hbb;have hsc : Sc eI (w16.alloc (.cells #[.bool s9, .slice a9 n9 c9] 33)) w16.heap.size 0 [((x : Nat) : Int) * ((p ^ (j + 1) : Nat) : Int)] := Sc.one (E := eI) (cs := [.bool s9, .slice a9 n9 c9]) hD17 ⟨s9, a9, n9, c9, rfl, hv.up hb17⟩;have HV17 := Lib.hid hV17;have HB17 := Lib.hid hB17;have hlz : w6.heap.size <= (w16.alloc (.cells #[.bool s9, .slice a9 n9 c9] 33)).heap.size := hB17.size;rw [<- HLN.out] at hln4;clear hV17 hB17 hbb hD17 hb17 hb16 hv f0 f1 g0 g1 HSe HVe HBe HXe HI8;go_wp2_with (at_builtin; go_must (refine wpl_apS (E := eI) rfl (.tmp 45) (.tmp 49) _ rfl Tryz.underlying63 w6.heap.size _ (zI (dvS out p j ++ (out.map (· * p ^ (j + 1))).take m)) [((x : Nat) : Int) * ((p ^ (j + 1) : Nat) : Int)] rfl hS17 hlz _ 0 1 1 rfl rfl hsc (by decide) hln4 ?_); intro g' cap' w18 hS' hb' hg')
        have hV18 := HV17.out.fr hb' (fun g hg => hS17.nw g hg) (fun hg => HNe.out _ hg rfl);have hB18 := ButS.below HB17.out hb' HB17.out.size (fun g hg => (hS17.lt g hg).1);have hlt8 := HV17.out.lt
        have hn18 : ∀ g, (Value.slice (some ⟨g', 0, none⟩) ((zI (dvS out p j ++ (out.map (· * p ^ (j + 1))).take m)).length + 1) cap').ownBlock = some g -> g ≠ B8 := fun g hg e => by
         have h1 : g' = g := by simpa [Value.ownBlock] using hg
         rw [h1, e] at hg';rcases hg' with h | h
         ·exact HNe.out _ h rfl
         ·omega
        have hS18 : So eI w18 w6.heap.size (.slice (some ⟨g', 0, none⟩) ((zI (dvS out p j ++ (out.map (· * p ^ (j + 1))).take m)).length + 1) cap') (zI (dvS out p j ++ (out.map (· * p ^ (j + 1))).take (m + 1))) := by
         rw [HSN.out, <- List.append_assoc, zI_append (dvS out p j ++ _)];have : zI [x * p ^ (j + 1)] = [((x : Nat) : Int) * ((p ^ (j + 1) : Nat) : Int)] := by simp [zI]
         rw [this]; exact hS'
        have HV18 := Lib.hid hV18;have HB18 := Lib.hid hB18;have HN18 := Lib.hid hn18;have HS18 := Lib.hid hS18;clear hV18 hB18 hn18 hS18 hS' hb' hg' hS17 hsc HV17 HB17 hlt8;go_wp2_with fail;refine ⟨⟨m + 1, by go_num, by omega, HS18.out, HN18.out, HV18.out, HB18.out⟩, by simp [intOf]; omega⟩
       ·obtain rfl : m = cn := by omega
        have m1 : ¬ (m : Int) < (m : Int) := by omega
        have hom : out.length = m := by rw [<- zI_len]; exact HNL.out
        have hee : dvS out p j ++ (out.map (· * p ^ (j + 1))).take m = dvS out p (j + 1) := by rw [List.take_of_length_le (by simp [hom]), <- dvS_succ]
        rw [hee] at hSy hny;rw [hee];clear hee;obtain ⟨s8, a8, n8, c8, f0, f1, r0, r1, hI8⟩ := hVy.cells;have hs2 := HSP.out j (by omega) (by omega);have hs3 := HSP.out 0 (by omega) (by omega);rw [Nat.zero_add, Nat.pow_one] at hs3;have b0' := keepc hby HC0.out;have b1' := keepc hby HC1.out;have hxp := HX6.out.up hby;have HSy := Lib.hid hSy;have HNy := Lib.hid hny;have HVy := Lib.hid hVy;have HBy := Lib.hid hby;have HI8 := Lib.hid hI8;have HXP := Lib.hid hxp;have HS2 := Lib.hid hs2;have HS3 := Lib.hid hs3;clear hSy hny hVy hby hI8 hxp hs2 hs3 hom hcy hml;go_wp2_with fail;refine (mul_any _ _ ((p ^ (j + 1) : Nat) : Int) ((p : Nat) : Int) wr HI8.out HXP.out (Nat.le_trans HS2.out (by decide)) (Nat.le_trans HS3.out (by decide))).mono ?_;rintro e w16 ⟨v, rfl, hv, hb16⟩;obtain ⟨s9, a9, n9, c9, rfl⟩ := hv.shape;have hV16 := HVy.out.up hb16;have hB16 := Bl.up HBy.out hb16;have hS16 := HSy.out.up hb16;obtain ⟨_, _, _, _, k0, k1, k2, k3, -⟩ := hV16.cells;have hbu := (ButS.set w16 B8 0 (.bool s9)).trans (ButS.set _ B8 1 (.slice a9 n9 c9));have hV17 := Vx.put hV16.va hv;have hS17 := hS16.fr hbu (fun g e => by rw [e]; exact hV16.nw) (fun g hg e => HNy.out g hg e);have hB17 := ButS.below hB16 hbu hB16.size (fun g e => by omega);rw [show ((p ^ (j + 1) : Nat) : Int) * ((p : Nat) : Int) = ((p ^ (j + 1 + 1) : Nat) : Int) by rw [Nat.pow_succ p (j + 1), Int.natCast_mul]] at hV17;have HV17 := Lib.hid hV17;have HS17 := Lib.hid hS17;have HB17 := Lib.hid hB17;clear hV17 hS17 hB17 hbu hV16 hB16 hS16 hv hb16 f0 f1 r0 r1 b0' b1';go_wp2_with fail;refine ⟨⟨j + 1, by go_num, by omega, HS17.out, HNy.out, HV17.out, HB17.out⟩, by simp [intOf]; omega⟩
     ·obtain rfl : j = k := by omega
      have j1 : ¬ (j : Int) < (j : Int) := by omega
      clear hSq hnq hVq hbq hcq hjk hj;go_wp2_with fail;refine ⟨⟨i + 1, by go_num, by omega, ?_, HC2.out, Bl.up HR6.out HBq.out⟩, by simp [intOf]; omega⟩;rw [HDS.out];exact HSq.out.base (by have := HR6.out.size; omega)
  ·have hil : i = l.length := by omega
   subst hil;rw [List.take_length] at HO hc hnl;rw [List.take_length];have i1 : ¬ (l.length : Int) < (l.length : Int) := by omega
   have hq : ∀ x ∈ zI (dvL l [1]), qI x := fun x hx => by
    unfold zI at hx;obtain ⟨y, hy, e⟩ := List.mem_map.1 hx;rw [<- e];have := HD.out.szy (i := l.length) (y := y) (by rw [List.take_length]; exact hy);exact Nat.le_trans this (by decide)
   have hlq : (zI (dvL l [1])).length < 4611686018427387904 := by rw [hnl]; omega
   have HQ := Lib.hid hq;have HLQ := Lib.hid hlq;have HC := Lib.hid hc;clear hO hc hbr hnl hq hlq hlt hi hco;go_wp2_with fail;refine (sortI_any HO.out HQ.out HLQ.out).mono ?_;rintro e w4 ⟨rfl, l', h1, h2, h3, h4⟩;obtain ⟨u, rfl, hu⟩ := zI_perm h1;have hus := zI_sorted h2;have hb4 := ButS.below HR.out h4 HR.out.size (fun g hg => (HO.out.lt g hg).1);have HB4 := Lib.hid hb4;have H3 := Lib.hid h3;have HU := Lib.hid hu;have HUS := Lib.hid hus;clear h1 h2 h3 h4 hu hus hb4;go_wp2_with fail;refine bodyPost_ret (results_tmp2 rfl _ _ _) rfl ?_;rw [HLE.out];exact ⟨Bl.up HBL.out HB4.out, .inr ⟨HC.out, _, u, rfl, H3.out.sr, HU.out, HUS.out⟩⟩
end Go.Proofs.YtblebpmlkpobnaaGreat
