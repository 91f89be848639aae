/-
  What the law FactorMerges needs: tidied factorizations, merging as one result.
-/
import Derived.Test.YtblebpmlkpobnaaGreatFZI
import Derived.Test.YtblebpmlkpobnaaGreatFZX
set_option linter.unusedSimpArgs false
set_option linter.unusedVariables false
namespace Go.Proofs.YtblebpmlkpobnaaGreat
open Go.RowKit
theorem tidy_parts {f t : Fn} (hf : RightN f) (ht : TidyTo f t) : RightN t ∧ (t.P ++ t.R).Perm (f.P ++ f.R) := by
 obtain ⟨h1, h2, h3, h4⟩ := ht
 have hp : ((f.P ++ f.R.filter (fun p => sml f.B p.1)) ++ f.R.filter (fun p => !sml f.B p.1)).Perm (f.P ++ f.R) := by
  rw [List.append_assoc]
  refine List.Perm.append_left _ ?_
  have := List.filter_append_perm (fun p : Nat × Nat => sml f.B p.1) f.R
  exact this
 have hcob : Cob (ks ((f.P ++ f.R.filter (fun p => sml f.B p.1)) ++ f.R.filter (fun p => !sml f.B p.1))) := hf.cob.perm ((hp.map _).symm)
 have hN : f.N = pk ((f.P ++ f.R.filter (fun p => sml f.B p.1)) ++ f.R.filter (fun p => !sml f.B p.1)) := by rw [pk_perm hp]; exact hf.prod
 have hk : ∀ p ∈ (f.P ++ f.R.filter (fun p => sml f.B p.1)) ++ f.R.filter (fun p => !sml f.B p.1), 1 ≤ p.2 := fun p hm => by
  rcases List.mem_append.1 (hp.mem_iff.1 hm) with hm | hm
  ·exact (hf.incP.1 p hm).2
  ·exact (hf.incR.1 p hm).2
 have := assemble (N := f.N) (B := f.B) hcob hN hk h3 h4 hf.b (fun r hr => hf.sm r (List.mem_filter.1 hr).1)
 have e : t = ⟨f.N, t.P, t.R, f.B⟩ := by rw [← h1, ← h2]
 refine ⟨by rw [e]; exact this, (h3.1.append h4.1).trans hp⟩
theorem tidy_some (f : Fn) : ∃ t, TidyTo f t := by
 obtain ⟨P, hP⟩ := srt_some (f.P ++ f.R.filter (fun p => sml f.B p.1))
 obtain ⟨R, hR⟩ := srt_some (f.R.filter (fun p => !sml f.B p.1))
 exact ⟨⟨f.N, P, R, f.B⟩, rfl, rfl, hP, hR⟩
theorem TidyTo.uniq {f t u : Fn} (hf : RightN f) (ht : TidyTo f t) (hu : TidyTo f u) : t = u := by
 have hp : ((f.P ++ f.R.filter (fun p => sml f.B p.1)) ++ f.R.filter (fun p => !sml f.B p.1)).Perm (f.P ++ f.R) := by
  rw [List.append_assoc]
  exact List.Perm.append_left _ (List.filter_append_perm (fun p : Nat × Nat => sml f.B p.1) f.R)
 have hn : (ks ((f.P ++ f.R.filter (fun p => sml f.B p.1)) ++ f.R.filter (fun p => !sml f.B p.1))).Nodup := (hf.cob.perm ((hp.map _).symm)).nodup
 rw [ks_append] at hn
 obtain ⟨h1, h2, h3, h4⟩ := ht
 obtain ⟨k1, k2, k3, k4⟩ := hu
 have e1 := Srt.uniq (List.nodup_append.1 hn).1 h3 k3
 have e2 := Srt.uniq (List.nodup_append.1 hn).2.1 h4 k4
 cases t; cases u
 simp only at h1 h2 k1 k2 e1 e2
 rw [h1, h2, k1, k2, e1, e2]
theorem TidyTo.primes {f t : Fn} (hf : RightN f) (ht : TidyTo f t) (hp : ∀ p ∈ f.P, Pri p.1) : ∀ p ∈ t.P, Pri p.1 := by
 intro p hpm
 rcases List.mem_append.1 (ht.2.2.1.1.mem_iff.1 hpm) with hm | hm
 ·exact hp p hm
 ·obtain ⟨h1, h2⟩ := List.mem_filter.1 hm
  exact pri_of_small (hf.incR.1 p h1).1 (fun d a b hd => hf.sm p h1 d a b hd) (by simpa [sml] using h2)
theorem known_pri {f g : Fn} (pf : ∀ p ∈ f.P, Pri p.1) (pg : ∀ p ∈ g.P, Pri p.1) : ∀ p ∈ knownN f g, Pri p := fun x hx => by
 unfold knownN at hx
 rcases List.mem_append.1 hx with hx | hx
 ·obtain ⟨p, hp, rfl⟩ := mem_ks.1 hx; exact pf p hp
 ·obtain ⟨p, hp, rfl⟩ := mem_ks.1 hx; exact pg p hp
def MgT (f g : Fn) (z : Fz) (code : Int) : Prop := (f.N = g.N ∧ code = 0 ∧ ∃ c o, z = zF c ∧ CB (allN f g) o ∧ MergeTo f g o c) ∨ (f.N ≠ g.N ∧ code = 1 ∧ z = f0)
theorem MgT.uniq {f g : Fn} {z z' : Fz} {k k' : Int} (h : MgT f g z k) (h' : MgT f g z' k') : z = z' ∧ k = k' := by
 rcases h with ⟨h1, h2, c, o, h3, h4, h5⟩ | ⟨h1, h2, h3⟩ <;> rcases h' with ⟨k1, k2, c', o', k3, k4, k5⟩ | ⟨k1, k2, k3⟩
 ·exact ⟨by rw [h3, k3, MergeTo.uniq h4 k4 h5 k5], by rw [h2, k2]⟩
 ·exact absurd h1 k1
 ·exact absurd k1 h1
 ·exact ⟨by rw [h3, k3], by rw [h2, k2]⟩
theorem MgT.comm {f g : Fn} {z : Fz} {k : Int} (h : MgT f g z k) : MgT g f z k := by
 rcases h with ⟨h1, h2, c, o, h3, h4, h5⟩ | ⟨h1, h2, h3⟩
 ·exact .inl ⟨h1.symm, h2, c, o, h3, h4.comm, h5.comm h1⟩
 ·exact .inr ⟨fun e => h1 e.symm, h2, h3⟩
theorem lmerge_any (va vb : Value) (f g : Fn) (w : World) (ha : Fx w va (zF f)) (hb : Fx w vb (zF g)) (hf : RightN f) (hg : RightN g) (hm : Md f.N) (hmg : Md g.N) (pf : ∀ p ∈ f.P, Pri p.1) (pg : ∀ p ∈ g.P, Pri p.1) :
  Calls Tryz.prog 27 #[va, vb] w fun e w' => ∃ v z code, e = .returned (.tuple #[v, .int .i64 code]) ∧ Fx w' v z ∧ MgT f g z code ∧ Below w.heap.size w w' := by
 by_cases hN : f.N = g.N
 ·refine (merge_ok va vb f g w ha hb hf hg hm hN).mono ?_
  rintro e w' ⟨o, hcb, hbl, ⟨-, v, c, rfl, hv, hc⟩ | ⟨hn, -⟩⟩
  ·exact ⟨v, _, 0, rfl, hv, .inl ⟨hN, rfl, c, o, rfl, hcb, hc⟩, hbl⟩
  ·exact absurd (known_all hcb (known_pri pf pg)) hn
 ·refine (merge_arg va vb (zF f) (zF g) w ha hb (Nat.le_trans (hm.sz (Nat.le_refl _)) (by decide)) (Nat.le_trans (hmg.sz (Nat.le_refl _)) (by decide)) (fun e => hN (by have : (f.N : Int) = (g.N : Int) := e; omega))).mono ?_
  rintro e w' ⟨v, rfl, hv, hbl⟩
  exact ⟨v, _, 1, rfl, hv, .inr ⟨hN, rfl, rfl⟩, hbl⟩
theorem rlmerge_any (va vb : Value) (f g : Fn) (w : World) (ha : Fx w va (zF f)) (hb : Fx w vb (zF g)) (hf : RightN f) (hg : RightN g) (hm : Md f.N) (hmg : Md g.N) (pf : ∀ p ∈ f.P, Pri p.1) (pg : ∀ p ∈ g.P, Pri p.1) :
  Calls Tryz.prog 30 #[va, vb] w fun e w' => ∃ v z code, e = .returned (.tuple #[v, .int .i64 code]) ∧ Fx w' v z ∧ MgT f g z code ∧ Below w.heap.size w w' := by
 refine (rmerge_any va vb f g w ha hb hf hg hm hmg).mono ?_
 rintro e w' ⟨hbl, ⟨hN, v, rfl, hv⟩ | ⟨hN, o, hcb, ⟨-, v, c, rfl, hv, hc⟩ | ⟨hn, -⟩⟩⟩
 ·exact ⟨v, _, 1, rfl, hv, .inr ⟨hN, rfl, rfl⟩, hbl⟩
 ·exact ⟨v, _, 0, rfl, hv, .inl ⟨hN, rfl, c, o, rfl, hcb, hc⟩, hbl⟩
 ·exact absurd (known_all hcb (known_pri pf pg)) hn
theorem ltidy_any (va : Value) (f t : Fn) (w : World) (ha : Fx w va (zF f)) (hf : RightN f) (hm : Md f.N) (ht : TidyTo f t) :
  Calls Tryz.prog 28 #[va] w fun e w' => ∃ v, e = .returned v ∧ Fx w' v (zF t) ∧ Below w.heap.size w w' := by
 have hl := hf.len hm
 refine (rtidy_any va f w ha hf.b (by omega) (by omega) (fun p hp => Nat.le_trans (hf.szk hm (ks_mem (List.mem_append_left _ hp))) (by decide)) (fun p hp => Nat.le_trans (hf.szk hm (ks_mem (List.mem_append_right _ hp))) (by decide))).mono ?_
 rintro e w' ⟨v, u, rfl, hv, hu, hbl⟩
 rw [TidyTo.uniq hf hu ht] at hv
 exact ⟨v, rfl, hv, hbl⟩
theorem ltm_any (va vb : Value) (f t : Fn) (w : World) (ha : Fx w va (zF f)) (hb : Fx w vb (zF t)) (hf : RightN f) (hm : Md f.N) (ht : TidyTo f t) (pf : ∀ p ∈ f.P, Pri p.1) :
  Calls Tryz.prog 27 #[va, vb] w fun e w' => ∃ v, e = .returned (.tuple #[v, .int .i64 0]) ∧ Fx w' v (zF t) ∧ Below w.heap.size w w' := by
 refine (lmerge_any va vb f t w ha hb hf (tidy_parts hf ht).1 hm (ht.1 ▸ hm) pf (ht.primes hf pf)).mono ?_
 rintro e w' ⟨v, z, code, rfl, hv, ⟨-, rfl, c, o, rfl, hcb, hc⟩ | ⟨hN, -⟩, hbl⟩
 ·rw [TidyTo.merge hf ht hcb hc] at hv
  exact ⟨v, rfl, hv, hbl⟩
 ·exact absurd ht.1.symm hN
theorem ltm2_any (va vb : Value) (f t : Fn) (w : World) (ha : Fx w va (zF t)) (hb : Fx w vb (zF f)) (hf : RightN f) (hm : Md f.N) (ht : TidyTo f t) (pf : ∀ p ∈ f.P, Pri p.1) :
  Calls Tryz.prog 27 #[va, vb] w fun e w' => ∃ v, e = .returned (.tuple #[v, .int .i64 0]) ∧ Fx w' v (zF t) ∧ Below w.heap.size w w' := by
 refine (lmerge_any va vb t f w ha hb (tidy_parts hf ht).1 hf (ht.1 ▸ hm) hm (ht.primes hf pf) pf).mono ?_
 rintro e w' ⟨v, z, code, rfl, hv, h, hbl⟩
 rcases h.comm with ⟨-, rfl, c, o, rfl, hcb, hc⟩ | ⟨hN, -⟩
 ·rw [TidyTo.merge hf ht hcb hc] at hv
  exact ⟨v, rfl, hv, hbl⟩
 ·exact absurd ht.1.symm hN
theorem Bf.fr5 {w w' : World} {B B7 : Nat} {f : Fz} (h : Bf w B f) (hb : ButS (fun g => g = B7) w w') (h7 : Fv w B7) (hn : B ≠ B7) : Bf w' B f := by
 obtain ⟨s, a, n, c, aP, cP, aR, cR, h0, hN, hP, hR⟩ := h
 have hS : ∀ g, g = B7 → NoW w g := fun g e => by rw [e]; exact h7.nw
 exact ⟨s, a, n, c, aP, cP, aR, cR, (hb.block B (Array.getElem?_eq_some_iff.1 h0).1 hn).trans h0, hN.fr hb hS, hP.fr hb hS (fun hl => Fx.not5 h7 hP hl), hR.fr hb hS (fun hl => Fx.not5 h7 hR hl)⟩
end Go.Proofs.YtblebpmlkpobnaaGreat
