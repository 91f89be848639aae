/-
  factor.has, the functions of Split and Merge that are handed to slices.ContainsFunc.
-/
import Derived.Test.YtblebpmlkpobnaaGreatDoorFG1
import Derived.Test.YtblebpmlkpobnaaGreatDoorFI1
import Derived.Test.YtblebpmlkpobnaaGreatDoorFH1
import Derived.Test.YtblebpmlkpobnaaGreatDoorFL1
import Derived.Test.YtblebpmlkpobnaaGreatDoorFN
set_option linter.unusedSimpArgs false
set_option linter.unusedVariables false
set_option maxRecDepth 100000
set_option maxHeartbeats 4000000
namespace Go.Proofs.YtblebpmlkpobnaaGreatDoor
open Go.RowKit
attribute [local go_sem ↓] Go.wp_at_zero Go.wp_at_succ
def zI (l : List Nat) : List Int := l.map fun (x : Nat) => (x : Int)
theorem zI_len (l : List Nat) : (zI l).length = l.length := by simp [zI]
theorem zI_append (a b : List Nat) : zI (a ++ b) = zI a ++ zI b := by simp [zI]
theorem zI_take (a : List Nat) (n : Nat) : (zI a).take n = zI (a.take n) := by simp [zI, List.map_take]
theorem zI_erase (a : List Nat) (n : Nat) : (zI a).eraseIdx n = zI (a.eraseIdx n) := by
 induction a generalizing n with
 | nil => rfl
 | cons x a ih => cases n with
   | zero => rfl
   | succ n => simpa [zI] using ih n
theorem zI_getD (l : List Nat) (i : Nat) : (zI l).getD i 0 = ((l.getD i 0 : Nat) : Int) := by
 by_cases h : i < l.length
 ·simp [zI, List.getD_eq_getElem?_getD, h]
 ·rw [List.getD_eq_getElem?_getD, List.getD_eq_getElem?_getD, List.getElem?_eq_none (by rw [zI_len]; omega), List.getElem?_eq_none (by omega)];rfl
theorem So.cap {α : Type} {E : Elt α} {w : World} {base g n cap : Nat} {l : List α} (h : So E w base (.slice (some ⟨g, 0, none⟩) n cap) l) : cap <= 9223372036854775807 := by
 obtain ⟨xs, ⟨-, k⟩, -⟩ := h;rcases k with ⟨e, -⟩ | ⟨g', cap', cur, e, k1, k2, k3, k4, -⟩
 ·injection e with e1; cases e1
 ·injection e with e1 e2 e3;subst e3;have := k4;unfold maxLen at this;omega
theorem So.take' {α : Type} {E : Elt α} {w : World} {base g N cap n : Nat} {l : List α} (h : So E w base (.slice (some ⟨g, 0, none⟩) N cap) l) (hn : n <= l.length) : So E w base (.slice (some ⟨g, 0, none⟩) n cap) (l.take n) := by
 have e : l.length = N := by
  rcases h.form with ⟨e, -⟩ | ⟨g', c', e, -⟩
  ·injection e with e1; cases e1
  ·injection e with e1 e2; exact e2.symm
 rw [<- e] at h;exact h.take hn
theorem lt_pow_of {x n k : Nat} (h : x <= n) (hn : n < 2 ^ (32 * k)) : x < 4294967296 ^ k := by
 rw [show (4294967296 : Nat) = 2 ^ 32 by rfl, <- Nat.pow_mul]; exact Nat.lt_of_le_of_lt h hn
theorem pw_mul {m n a b c : Nat} (h : m < 2 ^ a) (k : n < 2 ^ b) (hc : a + b < c) : m * n < 2 ^ c :=
 Nat.lt_of_le_of_lt (Nat.mul_le_mul (Nat.le_of_lt h) (Nat.le_of_lt k)) (by rw [<- Nat.pow_add]; exact Nat.pow_lt_pow_right (by decide) hc)
theorem exp_le {n d k E : Nat} (h : n < 2 ^ E) (hd : 2 <= d) (hk : d ^ k <= n) : k <= E := by
 have h1 : 2 ^ k <= d ^ k := Nat.pow_le_pow_left hd k;rcases Nat.lt_or_ge E k with h2 | h2
 ·have := Nat.pow_le_pow_right (n := 2) (by decide) (Nat.le_of_lt h2);omega
 ·exact h2
theorem small_lt {n E : Nat} (h : n < 4294967296) (hE : 32 <= E) : n < 2 ^ E :=
 Nat.lt_of_lt_of_le h (by rw [show (4294967296 : Nat) = 2 ^ 32 by rfl]; exact Nat.pow_le_pow_right (by decide) hE)
theorem sz_le_of {x n k e : Nat} (he : e = 32 * k) (h : x <= n) (hn : n < 2 ^ e) : sz (x : Int) <= k := by
 subst he; exact words_le_of_lt (lt_pow_of (show (x : Int).natAbs <= n from h) hn)
def expB : Nat := 1048576
structure Mdst (n : Nat) : Prop where
 lt : n < 2 ^ expB
structure BsW (w wr : World) (vT vO : Value) (T O : List Nat) : Prop where
 hT : So eI wr w.heap.size vT (zI T)
 hO : So eI wr w.heap.size vO (zI O)
 hd : ∀ g, vT.ownBlock = some g -> vO.ownBlock ≠ some g
 hb : Below w.heap.size w wr
theorem BsW.up {w wr w' : World} {vT vO : Value} {T O : List Nat} (h : BsW w wr vT vO T O) (hb : Below wr.heap.size wr w') : BsW w w' vT vO T O :=
 ⟨h.hT.up hb, h.hO.up hb, h.hd, Bl.up h.hb hb⟩
structure BsP (l T O : List Nat) (s M : Nat) : Prop where
 inv : Inv l (O ++ T)
 cob : Cob O
 len : O.length + T.length <= l.length + s
 prd : 2 ^ s * (O ++ T).prod <= l.prod
 msr : M = 4 * (O ++ T).prod + T.length
section
variable {l T O : List Nat} {s M x : Nat}
theorem BsP.le (h : BsP l T O s M) {x : Nat} (hx : x ∈ O ++ T) : 1 <= x /\ x <= l.prod := by
 have h1 := le_prod h.inv.pos hx;have h2 : 1 * (O ++ T).prod <= 2 ^ s * (O ++ T).prod := Nat.mul_le_mul_right _ (Nat.one_le_two_pow);have h3 := h.prd;exact ⟨h.inv.pos x hx, by omega⟩
theorem BsP.s_lt (h : BsP l T O s M) (hl : Mdst l.prod) : s <= expB := by
 have h1 := prod_pos h.inv.pos;have h2 : 2 ^ s * 1 <= 2 ^ s * (O ++ T).prod := Nat.mul_le_mul_left _ h1;have h3 := h.prd;exact exp_le hl.lt (Nat.le_refl 2) (Nat.le_trans (by rw [Nat.mul_one] at h2; exact h2) h3)
theorem BsP.one (h : BsP l (T ++ [1]) O s M) : ∃ M', BsP l T O s M' /\ M' < M := by
 obtain ⟨h1, h2, h3, h4, h5⟩ := h;have hp : (O ++ (T ++ [1])).prod = (O ++ T).prod := by simp
 rw [hp] at h4 h5;rw [List.length_append, List.length_singleton] at h3 h5;exact ⟨_, ⟨h1.drop (x := 1) (fun y => by simp; constructor <;> (intro h; rcases h with h | h | h <;> simp [h])) (.inl rfl), h2, by omega, h4, rfl⟩, by omega⟩
theorem BsP.out (h : BsP l (T ++ [x]) O s M) (hx : x ≠ 1) (hc : ∀ k, k < O.length -> Nat.Coprime x (O.getD k 0)) : ∃ M', BsP l T (O ++ [x]) s M' /\ M' < M := by
 have h0 := h.inv.pos x (by simp);obtain ⟨h1, h2, h3, h4, h5⟩ := h;have hp : (O ++ (T ++ [x])).prod = (O ++ [x] ++ T).prod := by simp [Nat.mul_comm, Nat.mul_left_comm, Nat.mul_assoc]
 rw [hp] at h4 h5;rw [List.length_append, List.length_singleton] at h3 h5;refine ⟨_, ⟨h1.same fun y => by simp [or_comm, or_left_comm, or_assoc], ⟨fun p hp => ?_, ?_⟩, by rw [List.length_append, List.length_singleton]; omega, h4, rfl⟩, by omega⟩
 ·rcases List.mem_append.1 hp with hp | hp
  ·exact h2.1 p hp
  ·obtain rfl : p = x := by simpa using hp
   omega
 ·rw [List.pairwise_append];refine ⟨h2.2, List.pairwise_singleton _ _, fun a ha b hb => ?_⟩;obtain rfl : b = x := by simpa using hb
  obtain ⟨k, hk, rfl⟩ := List.getElem_of_mem ha;have := hc k hk;rw [List.getD_eq_getElem?_getD, List.getElem?_eq_getElem hk] at this;exact Nat.Coprime.symm this
theorem BsP.eq (h : BsP l (T ++ [x]) O s M) (hx : x ∈ O) : ∃ M', BsP l T O s M' /\ M' < M := by
 have h2x := h.cob.1 x hx;have hpos := prod_pos (l := O ++ T) (fun y hy => h.inv.pos y (by rcases List.mem_append.1 hy with h | h <;> simp [h]));obtain ⟨h1, h2, h3, h4, h5⟩ := h;have hp : (O ++ (T ++ [x])).prod = (O ++ T).prod * x := by simp [Nat.mul_comm, Nat.mul_left_comm, Nat.mul_assoc]
 rw [hp] at h4 h5;rw [List.length_append, List.length_singleton] at h3 h5;have h6 : (O ++ T).prod * 2 <= (O ++ T).prod * x := Nat.mul_le_mul_left _ h2x;refine ⟨_, ⟨h1.drop (x := x) (fun y => by simp; constructor <;> (intro h; rcases h with h | h | h <;> simp [h])) (.inr (by simp [hx])), h2, by omega, ?_, rfl⟩, by omega⟩;refine Nat.le_trans (Nat.mul_le_mul_left _ ?_) h4;omega
theorem BsP.split (h : BsP l (T ++ [x]) O s M) {j : Nat} (hj : j < O.length) (hx : x ≠ 1) (hg : Nat.gcd x (O.getD j 0) ≠ 1) :
  ∃ M', BsP l (T ++ [Nat.gcd x (O.getD j 0), x / Nat.gcd x (O.getD j 0), O.getD j 0 / Nat.gcd x (O.getD j 0)]) (O.eraseIdx j) (s + 1) M' /\ M' < M := by
 have hy : O.getD j 0 = O[j] := by simp [List.getD_eq_getElem?_getD, hj]
 have hx0 := h.inv.pos x (by simp);have hym : O.getD j 0 ∈ O := by rw [hy]; exact List.getElem_mem _
 have hpe := prod_erase hj;have hme := fun z => mem_erase hj z;rw [<- hy] at hpe hme;generalize O.getD j 0 = y at *
 have hpos := prod_pos (l := O.eraseIdx j ++ T) (fun z hz => h.inv.pos z (by
  rcases List.mem_append.1 hz with hz | hz
  ·exact List.mem_append_left _ ((hme z).2 (.inr hz))
  ·simp [hz]))
 have hg0 : 0 < Nat.gcd x y := Nat.gcd_pos_of_pos_left _ (by omega);obtain ⟨h1, h2, h3, h4, h5⟩ := h;have hsp := split_prod (x := x) (y := y) hx0 (by omega);have hlen : (O.eraseIdx j).length + 1 = O.length := by rw [List.length_eraseIdx, if_pos hj]; omega
 have hp : (O ++ (T ++ [x])).prod = (O.eraseIdx j ++ T).prod * (x * y) := by
  rw [List.prod_append_nat, hpe, List.prod_append_nat, List.prod_append_nat];simp [Nat.mul_comm, Nat.mul_left_comm, Nat.mul_assoc]
 have hp' : (O.eraseIdx j ++ (T ++ [Nat.gcd x y, x / Nat.gcd x y, y / Nat.gcd x y])).prod = (O.eraseIdx j ++ T).prod * (Nat.gcd x y * (x / Nat.gcd x y) * (y / Nat.gcd x y)) := by
  simp [Nat.mul_comm, Nat.mul_left_comm, Nat.mul_assoc]
 have h6 : (O.eraseIdx j ++ T).prod * (Nat.gcd x y * (x / Nat.gcd x y) * (y / Nat.gcd x y)) * 2 <= (O.eraseIdx j ++ T).prod * (x * y) := by
  rw [Nat.mul_assoc]; exact Nat.mul_le_mul_left _ hsp
 have hpp := prod_pos (l := (O.eraseIdx j ++ (T ++ [Nat.gcd x y, x / Nat.gcd x y, y / Nat.gcd x y]))) (fun z hz => ?_)
 ·rw [hp] at h4 h5;rw [hp'] at hpp;rw [List.length_append, List.length_singleton] at h3 h5;refine ⟨_, ⟨h1.split (x := x) (y := y) (by simp) (by simp [hym]) (fun z hz => ?_) (fun z hz => ?_) (fun z hz => .inr ?_), h2.sub (List.eraseIdx_sublist _ _), ?_, ?_, rfl⟩, ?_⟩
  ·simp only [List.mem_append, List.mem_singleton] at hz;rcases hz with hz | hz | hz
   ·rcases (hme z).1 hz with hz | hz
    ·exact .inr (.inl hz)
    ·exact .inr (.inr (by simp [hz]))
   ·exact .inr (.inr (by simp [hz]))
   ·exact .inl hz
  ·simp only [List.mem_append, List.mem_cons, List.not_mem_nil, or_false] at hz;rcases hz with hz | hz | hz | hz | hz
   ·exact .inl (by simp [(hme z).2 (.inr hz)])
   ·exact .inl (by simp [hz])
   ·exact .inr (.inl hz)
   ·exact .inr (.inr (.inl hz))
   ·exact .inr (.inr (.inr hz))
  ·simp only [List.mem_append, List.mem_cons, List.not_mem_nil, or_false];rcases hz with hz | hz | hz <;> simp [hz]
  ·rw [List.length_append]; simp; omega
  ·rw [hp', Nat.pow_succ];refine Nat.le_trans (Nat.le_of_eq ?_) (Nat.le_trans (Nat.mul_le_mul_left (2 ^ s) h6) h4);simp [Nat.mul_comm, Nat.mul_left_comm, Nat.mul_assoc]
  ·rw [h5, hp', List.length_append];show 4 * ((O.eraseIdx j ++ T).prod * (Nat.gcd x y * (x / Nat.gcd x y) * (y / Nat.gcd x y))) + (T.length + 3) < _
   omega
 ·simp only [List.mem_append, List.mem_cons, List.not_mem_nil, or_false] at hz;rcases hz with hz | hz | hz | hz | hz
  ·exact h1.pos z (by simp [(hme z).2 (.inr hz)])
  ·exact h1.pos z (by simp [hz])
  ·omega
  ·rw [hz]; exact Nat.div_pos (Nat.le_of_dvd (by omega) (Nat.gcd_dvd_left _ _)) hg0
  ·rw [hz]; exact Nat.div_pos (Nat.le_of_dvd (by have := h1.pos y (by simp [hym]); omega) (Nat.gcd_dvd_right _ _)) hg0
end
theorem sz_prod {x n : Nat} (h : x <= n) (hn : Mdst n) : sz (x : Int) <= 1099511627776 :=
 Nat.le_trans (sz_le_of (k := 32768) (e := expB) rfl h hn.lt) (by decide)
theorem Sc.three {w : World} {B T : Nat} {fr : Nat × Nat} {s1 s2 s3 : Bool} {a1 a2 a3 : Option Addr} {n1 n2 n3 c1 c2 c3 : Nat} {x y z : Int}
  (hB : w.heap[B]? = some (.cells #[.bool s1, .slice a1 n1 c1, .bool s2, .slice a2 n2 c2, .bool s3, .slice a3 n3 c3] T fr)) (h1 : It w (.agg #[.bool s1, .slice a1 n1 c1]) x) (h2 : It w (.agg #[.bool s2, .slice a2 n2 c2]) y) (h3 : It w (.agg #[.bool s3, .slice a3 n3 c3]) z) : Sc eI w B 0 [x, y, z] := by
 intro i hi;have hi' : i = 0 \/ i = 1 \/ i = 2 := by simp at hi; omega
 rcases hi' with rfl | rfl | rfl
 ·refine ⟨_, ⟨s1, a1, n1, c1, rfl, h1⟩, fun j u hu => ?_⟩;have e : eI.k = 2 := rfl;rcases j with _ | _ | j <;> simp at hu <;> subst hu <;> simp [World.cell?, hB, e]
 ·refine ⟨_, ⟨s2, a2, n2, c2, rfl, h2⟩, fun j u hu => ?_⟩;have e : eI.k = 2 := rfl;rcases j with _ | _ | j <;> simp at hu <;> subst hu <;> simp [World.cell?, hB, e]
 ·refine ⟨_, ⟨s3, a3, n3, c3, rfl, h3⟩, fun j u hu => ?_⟩;have e : eI.k = 2 := rfl;rcases j with _ | _ | j <;> simp at hu <;> subst hu <;> simp [World.cell?, hB, e]
theorem base_any (va : Value) (l : List Nat) (w : World) (h : Sr eI w va (zI l)) (h1 : ∀ x ∈ l, 1 <= x) (hn : l.length <= 1048576) (hp : Mdst l.prod) :
  Calls Tryz.prog 50 #[va] w fun e w' => ∃ v o, e = .returned v /\ So eI w' w.heap.size v (zI o) /\ CB l o /\ (o.length <= 4194304 /\ ∀ p ∈ o, p <= l.prod) /\ Below w.heap.size w w' := by
 have HP := Lib.hid hp;clear hp;go_enter Tryz.func50, Tryz.ntmps50
 go_wp2_with fail;go_step3
 go_wp2_with fail;refine (cloneI_any va (zI l) w h (by rw [zI_len]; omega)).mono ?_;rintro e w1 ⟨v, rfl, hv, hb⟩;have hW : BsW w w1 v (.slice none 0 0) l [] := ⟨hv, So.nil eI _ _, fun g _ => by simp [Value.ownBlock], hb⟩;have hQ := Lib.hid (show BsP l l [] 0 (4 * l.prod + l.length) from ⟨Inv.refl h1, ⟨fun _ h => (List.not_mem_nil h).elim, List.Pairwise.nil⟩, by simp, by simp, by simp⟩);clear h hv hb h1;go_wp2_with fail;go_step3
 go_wp2_with fail;go_loopg [3, 4] (4 * l.prod + l.length) (fun M s3 s4 wr => ∃ T O s, BsW w wr s4 s3 T O /\ BsP l T O s M)
 case atStart => exact ⟨l, [], 0, hW, hQ.out⟩
 case round =>
  clear hW hQ;obtain ⟨T, O, s, hI, hQ⟩ := hrel;have HQ := Lib.hid hQ;clear hQ;obtain ⟨aT, cT, rfl, hcT⟩ := hI.hT.slice;rw [zI_len] at hI hcT |-;rcases hTl : T.length with _ | n
  ·obtain rfl := List.eq_nil_of_length_eq_zero hTl;rw [hTl] at hI hcT;have HI := Lib.hid hI;clear hI hTl;go_wp2_with fail;rw [Exit.noGoto_ret];go_ret
   have hi := HQ.out.inv;rw [List.append_nil] at hi;have h4 := HQ.out.len;have h5 := HQ.out.s_lt HP.out;unfold expB at h5;exact ⟨_, O, rfl, HI.out.hO, hi.cb HQ.out.cob, ⟨by omega, fun p hp => (HQ.out.le (List.mem_append_left _ hp)).2⟩, HI.out.hb⟩
  ·rw [hTl] at hI hcT;have hform := hI.hT.form;rw [zI_len, hTl] at hform
   have hform : ∃ gT, aT = some ⟨gT, 0, none⟩ /\ w.heap.size <= gT /\ gT < wr.heap.size := by
    rcases hform with ⟨e, -⟩ | ⟨g, c, e, h2, h3, -⟩
    ·injection e with e1 e2; cases e2
    ·injection e with e1 e2; exact ⟨g, e1, h2, h3⟩
   obtain ⟨gT, rfl, hgT, hgT2⟩ := hform;have hmem : T.getD n 0 ∈ O ++ T := List.mem_append_right _ (by rw [List.getD_eq_getElem?_getD, List.getElem?_eq_getElem (by omega)]; exact List.getElem_mem _);have hx1 := HQ.out.le hmem
   have hTs : T = T.take n ++ [T.getD n 0] := by
    conv => lhs; rw [<- List.take_append_drop n T]
    rw [List.drop_eq_getElem_cons (by omega), List.drop_eq_nil_of_le (by omega)];simp [List.getD_eq_getElem?_getD, show n < T.length by omega]
   have hT' := hI.hT.take' (n := n) (by rw [zI_len]; omega);rw [zI_take] at hT';obtain ⟨s1, a1, n1, k1, p0, p1, hx⟩ := hI.hT.sc.int (i := n) (by rw [zI_len]; omega);rw [zI_getD] at hx;rw [Nat.zero_add] at p0 p1;obtain ⟨x, hx0⟩ : ∃ x, T.getD n 0 = x := ⟨_, rfl⟩;obtain ⟨T', hT0⟩ : ∃ T', T.take n = T' := ⟨_, rfl⟩;rw [hx0] at hx1 hTs hx;rw [hT0] at hT' hTs;have hszx := sz_prod hx1.2 HP.out;have hTn : T'.length = n := by rw [<- hT0, List.length_take]; omega
   have hnb : n <= 4194304 := by have := HQ.out.len; have hs := HQ.out.s_lt HP.out; unfold expB at hs; omega
   have HTS := Lib.hid hTs;have HI := Lib.hid hI;have HT' := Lib.hid hT';have i0 : (0 : Int) <= (n : Int) := by omega
   have i1 : (n : Int) < (n : Int) + 1 := by omega
   have i2 : n <= cT := by omega
   have i3 : ((n : Int)) <= (cT : Int) := by omega
   clear hmem hTl hI hTs hT' hx0 hT0;go_wp2_with fail;have hV5 := Vx.new (w := wr) (T := 29) rfl hx;have hX1 := hx.alloc (.cells #[.bool s1, .slice a1 n1 k1] 29);have hW1 : BsW w (wr.alloc (.cells #[.bool s1, .slice a1 n1 k1] 29)) (.slice (some ⟨gT, 0, none⟩) n cT) u3 T' O := BsW.up ⟨HT'.out, HI.out.hO, HI.out.hd, HI.out.hb⟩ (below_new _ _);have hB5 : w.heap.size <= wr.heap.size := HI.out.hb.size;have hgO : ∀ g, u3.ownBlock = some g -> g < wr.heap.size := fun g hg => (HI.out.hO.lt g hg).2;clear p0 p1 hx HT' HI;generalize wr.heap.size = B5 at *;generalize wr.alloc (.cells #[.bool s1, .slice a1 n1 k1] 29) = wa at *;refine (isone_any _ (x : Int) wa hX1 hszx).mono ?_;rintro e w2 ⟨rfl, hb2⟩;replace hW1 := hW1.up hb2;replace hV5 := hV5.up hb2;clear hb2 hX1;have hdx : decide ((x : Int) = 1) = decide (x = 1) := by rw [decide_eq_decide]; omega
   rw [hdx];clear hdx;by_cases hx1' : x = 1
   case pos =>
    rw [decide_eq_true hx1'];subst hx1';have HTS1 := HQ.out;rw [HTS.out] at HTS1;obtain ⟨M', hQ', hM'⟩ := HTS1.one;have HQ' := Lib.hid hQ';clear hQ' HTS1;go_wp2_with fail;go_roundg M'
    ·exact ⟨T', O, s, hW1, HQ'.out⟩
    ·exact hM'
   rw [decide_eq_false hx1'];obtain ⟨aO, cO, rfl, hcO⟩ := hW1.hO.slice;rw [zI_len] at hW1 hcO |-;have HX1 := Lib.hid hx1';have HW1 := Lib.hid hW1;have HV5 := Lib.hid hV5;have hlO : O.length <= 4194304 := by have := HQ.out.len; have hs := HQ.out.s_lt HP.out; unfold expB at hs; omega
   clear hx1' hW1 hV5;go_wp2_with fail
   go_loopw [3, 4, 6, 33] (fun s3 s4 s6 s33 wq => s3 = .slice aO O.length cO /\ s4 = .slice (some ⟨gT, 0, none⟩) n cT /\ ∃ j : Nat, s33 = .int .i64 (j : Int) /\ j <= O.length /\ (∀ k, k < j -> Nat.Coprime x (O.getD k 0)) /\ Below w2.heap.size w2 wq)
    (fun _ _ _ s33 _ => O.length - (intOf s33).toNat)
   case atStart => exact ⟨rfl, rfl, 0, rfl, Nat.zero_le _, fun k hk => absurd hk (Nat.not_lt_zero _), Below.refl _ _⟩
   case round =>
    obtain ⟨rfl, rfl, j, rfl, hj, hcp, hbq⟩ := hrel;have HCP := Lib.hid hcp;clear hcp hform;by_cases hlt : j < O.length
    ·have hformO := HW1.out.hO.form;rw [zI_len] at hformO hgO
     have hformO : ∃ gO, aO = some ⟨gO, 0, none⟩ /\ w.heap.size <= gO /\ gO < w2.heap.size := by
      rcases hformO with ⟨e, -⟩ | ⟨g, c, e, h2, h3, -⟩
      ·injection e with e1 e2; omega
      ·injection e with e1 e2; exact ⟨g, e1, h2, h3⟩
     obtain ⟨gO, rfl, hgO1, hgO2⟩ := hformO;have hgO3 : gO < B5 := hgO gO rfl;have hWq := HW1.out.up hbq;have hVq := HV5.out.up hbq;obtain ⟨s2, a2, n2, k2, q0, q1, hy⟩ := hWq.hO.sc.int (i := j) (by rw [zI_len]; omega);rw [zI_getD] at hy;rw [Nat.zero_add] at q0 q1;have hym : O.getD j 0 ∈ O ++ T := List.mem_append_left _ (by rw [List.getD_eq_getElem?_getD, List.getElem?_eq_getElem (by omega)]; exact List.getElem_mem _);have hy1 := HQ.out.le hym;have hy2 : 2 <= O.getD j 0 := HQ.out.cob.1 _ (by rw [List.getD_eq_getElem?_getD, List.getElem?_eq_getElem (by omega)]; exact List.getElem_mem _);have hszy := sz_prod hy1.2 HP.out;have HQS := HQ.out;rw [HTS.out] at HQS;have hspl := Lib.hid (fun h1 h2 => HQS.split hlt h1 h2);obtain ⟨y, hy0⟩ : ∃ y, O.getD j 0 = y := ⟨_, rfl⟩;rw [hy0] at hy hszy hspl hy2;have HY := Lib.hid hy0;clear hym hy1 hy0 HQS hgO;have i4 : (0 : Int) <= (j : Int) := by omega
     have i5 : (j : Int) < (O.length : Int) := by omega
     go_upto_region 10 with fail;have hW3 := hWq.up (below_new _ (.cells #[.bool s2, .slice a2 n2 k2] 29));have hV3 := hVq.alloc (.cells #[.bool s2, .slice a2 n2 k2] 29);have hV7 := Vx.new (w := wr) (T := 29) rfl hy;have hlt5 := hVq.lt;have hb3 := Bl.alloc hbq (.cells #[.bool s2, .slice a2 n2 k2] 29);clear q0 q1 hy hWq hVq hbq;generalize hB7 : wr.heap.size = B7 at *;have h57 : B5 < B7 := by omega
     clear hB7 hlt5;generalize wr.alloc (.cells #[.bool s2, .slice a2 n2 k2] 29) = w3 at *;obtain ⟨x1, x2, x3, x4, e0, e1, -, -, ix⟩ := hV3.cells;obtain ⟨y1, y2, y3, y4, f0, f1, -, -, iy⟩ := hV7.cells;go_wp2_with fail;refine (gcd_any _ _ (x : Int) (y : Int) w3 ix iy hszx hszy).mono ?_;rintro e w4 ⟨vg, rfl, hg, hb4⟩;obtain ⟨s5, a5, n5, k5, rfl⟩ := hg.shape;replace hW3 := hW3.up hb4;replace hV3 := hV3.up hb4;replace hV7 := hV7.up hb4;replace hb3 := Bl.up hb3 hb4;clear hb4 e0 e1 f0 f1 ix iy;go_upto_region 11 with fail;have hlt7 := hV7.lt;replace hW3 := hW3.up (below_new _ (.cells #[.bool s5, .slice a5 n5 k5] 29));replace hV3 := hV3.alloc (.cells #[.bool s5, .slice a5 n5 k5] 29);replace hV7 := hV7.alloc (.cells #[.bool s5, .slice a5 n5 k5] 29);have hV8 := Vx.new (w := w4) (T := 29) rfl hg;replace hb3 := Bl.alloc hb3 (.cells #[.bool s5, .slice a5 n5 k5] 29);clear hg;generalize hB8 : w4.heap.size = B8 at *;clear hB8;generalize w4.alloc (.cells #[.bool s5, .slice a5 n5 k5] 29) = w5 at *;obtain ⟨z1, z2, z3, z4, g0, g1, -, -, iz⟩ := hV8.cells;have hgle : Nat.gcd x y <= x := Nat.le_of_dvd (by omega) (Nat.gcd_dvd_left _ _);have hg0 : 1 <= Nat.gcd x y := Nat.gcd_pos_of_pos_left _ (by omega);have hszg : sz ((Nat.gcd x y : Nat) : Int) <= 1099511627776 := Nat.le_trans (sz_mono (by omega)) hszx;have hgd : Int.gcd (x : Int) (y : Int) = Nat.gcd x y := rfl;rw [hgd] at hV8 iz;clear hgd;go_wp2_with fail;refine (isone_any _ ((Nat.gcd x y : Nat) : Int) w5 iz hszg).mono ?_;rintro e w6 ⟨rfl, hb6⟩;replace hW3 := hW3.up hb6;replace hV3 := hV3.up hb6;replace hV7 := hV7.up hb6;replace hV8 := hV8.up hb6;replace hb3 := Bl.up hb3 hb6;clear hb6 g0 g1 iz;have hdx : decide (((Nat.gcd x y : Nat) : Int) = 1) = decide (Nat.gcd x y = 1) := by rw [decide_eq_decide]; omega
     rw [hdx];clear hdx;by_cases hco : Nat.gcd x y = 1
     case pos =>
      rw [decide_eq_true hco];have HCO := Lib.hid hco;clear hco hV3 hV7 hV8 hW3 hg0 hgle hszg;go_wp2_with fail;go_roundw
      case rel =>
       refine ⟨rfl, rfl, j + 1, by go_num, by omega, fun k hk => ?_, hb3⟩;by_cases e : k = j
       ·subst e; rw [HY.out]; exact HCO.out
       ·exact HCP.out k (by omega)
      case measure => simp [intOf]; omega
     rw [decide_eq_false hco];have HCO := Lib.hid hco;clear hco;obtain ⟨x1, x2, x3, x4, e0, e1, -, -, ix⟩ := hV3.cells;obtain ⟨y1, y2, y3, y4, f0, f1, -, -, iy⟩ := hV7.cells;go_wp2_with fail;refine (cmp_any _ _ (x : Int) (y : Int) w6 ix iy (Nat.le_trans hszx (by decide)) (Nat.le_trans hszy (by decide))).mono ?_;rintro e w7 ⟨rfl, hb6⟩;replace hW3 := hW3.up hb6;replace hV3 := hV3.up hb6;replace hV7 := hV7.up hb6;replace hV8 := hV8.up hb6;replace hb3 := Bl.up hb3 hb6;clear hb6 e0 e1 f0 f1 ix iy;have hd0 : (cmpI (x : Int) (y : Int) == 0) = decide (x = y) := by rw [Bool.eq_iff_iff]; simp [cmpI_zero]; omega
     generalize cmpI (x : Int) (y : Int) = cc at *;by_cases hxy : x = y
     case pos =>
      rw [decide_eq_true hxy] at hd0;have hQe := HQ.out;rw [HTS.out] at hQe
      have hxO : x ∈ O := by
       rw [hxy, <- HY.out, List.getD_eq_getElem?_getD, List.getElem?_eq_getElem hlt]; exact List.getElem_mem _
      obtain ⟨M', hQ', hM'⟩ := hQe.eq hxO;have HQ' := Lib.hid hQ';have HXY := Lib.hid hxy;clear hQ' hQe hxO hxy hV3 hV7 hV8 hg0 hgle hszg;go_wp2_with fail;go_roundg M'
      ·exact ⟨T', O, s, hW3, HQ'.out⟩
      ·exact hM'
     rw [decide_eq_false hxy] at hd0;clear hxy;have HV3 := Lib.hid hV3;have HV7 := Lib.hid hV7;have HV8 := Lib.hid hV8;have HW3 := Lib.hid hW3;have hcO2 := hW3.hO.cap;clear hV3 hV7 hV8 hW3;have hO3 := HW3.out.hO;rw [show O.length = (zI O).length from (zI_len O).symm] at hO3;go_wp2_with fail;have hdel := deleteI_any gO cO j (zI O) w7 w.heap.size hO3 (by rw [zI_len]; omega) hcO2;rw [zI_len] at hdel;refine hdel.mono ?_;rintro e w8 ⟨rfl, hO8, hb8⟩;rw [zI_erase] at hO8;have hnw : ∀ g, g = gO -> NoW w7 g := fun g e => by subst e; exact HW3.out.hO.nw g rfl
     have hdj : ∀ g, (Value.slice (some ⟨gT, 0, none⟩) n cT).ownBlock = some g -> g ≠ gO := fun g hg e => HW3.out.hd g hg (by rw [e]; rfl);have hT8 := HW3.out.hT.fr hb8 hnw hdj;have hV8 := HV8.out.fr hb8 hnw (by omega);have hV7 := HV7.out.fr hb8 hnw (by omega);have hV5 := HV3.out.fr hb8 hnw (by omega);have hbl := ButS.below HW3.out.hb hb8 HW3.out.hb.size (fun g e => by omega);have hln : (O.eraseIdx j).length = O.length - 1 := by rw [List.length_eraseIdx, if_pos hlt]
     clear hO3 hdel hb8 hnw HV3 HV7 HV8;have hW8 : BsW w w8 (.slice (some ⟨gT, 0, none⟩) n cT) (.slice (some ⟨gO, 0, none⟩) (O.length - 1) cO) T' (O.eraseIdx j) := ⟨hT8, hO8, HW3.out.hd, hbl⟩;have HW8 := Lib.hid hW8;clear hT8 hO8 hbl HW3 hW8;obtain ⟨x1, x2, x3, x4, e0, e1, -, -, ix⟩ := hV5.cells;obtain ⟨z1, z2, z3, z4, g0, g1, -, -, iz⟩ := hV8.cells;go_wp2_with fail;refine (divide_ok _ _ (x : Int) ((Nat.gcd x y : Nat) : Int) w8 ix iz (by omega) hszx hszg).mono ?_;rintro e w9 ⟨v1, rfl, hv1, hb9⟩;obtain ⟨s6, a6, n6, k6, rfl⟩ := hv1.shape;replace hV7 := hV7.up hb9;replace hV8 := hV8.up hb9;have hW9 := HW8.out.up hb9;clear hb9 HW8 e0 e1 g0 g1 ix iz hV5;go_upto_region 15 with fail;have hlt8 := hV8.lt;have hW10 := hW9.up (below_new _ (.cells #[.bool s6, .slice a6 n6 k6] 29));replace hV7 := hV7.alloc (.cells #[.bool s6, .slice a6 n6 k6] 29);replace hV8 := hV8.alloc (.cells #[.bool s6, .slice a6 n6 k6] 29);have hV9 := Vx.new (w := w9) (T := 29) rfl hv1;clear hv1 hW9;generalize hB9 : w9.heap.size = B9 at *;clear hB9;generalize w9.alloc (.cells #[.bool s6, .slice a6 n6 k6] 29) = w10 at *;obtain ⟨y1, y2, y3, y4, f0, f1, -, -, iy⟩ := hV7.cells;obtain ⟨z1, z2, z3, z4, g0, g1, -, -, iz⟩ := hV8.cells;go_wp2_with fail;refine (divide_ok _ _ (y : Int) ((Nat.gcd x y : Nat) : Int) w10 iy iz (by omega) hszy hszg).mono ?_;rintro e w11 ⟨v2, rfl, hv2, hb9⟩;obtain ⟨s7, a7, n7, k7, rfl⟩ := hv2.shape;replace hV8 := hV8.up hb9;replace hV9 := hV9.up hb9;have hW11 := hW10.up hb9;clear hb9 hW10 f0 f1 g0 g1 iy iz hV7;go_upto_region 16 with fail;have hlt8 := hV8.lt;have hlt9 := hV9.lt;replace hV8 := hV8.alloc (.cells #[.bool s7, .slice a7 n7 k7] 29);replace hV9 := hV9.alloc (.cells #[.bool s7, .slice a7 n7 k7] 29);have hV11 := Vx.new (w := w11) (T := 29) rfl hv2;have hW12 := hW11.up (below_new _ (.cells #[.bool s7, .slice a7 n7 k7] 29));clear hv2 hW11;generalize hB11 : w11.heap.size = B11 at *;clear hB11;generalize w11.alloc (.cells #[.bool s7, .slice a7 n7 k7] 29) = w12 at *;obtain ⟨y1, y2, y3, y4, f0, f1, -, -, iy⟩ := hV9.cells;obtain ⟨z1, z2, z3, z4, g0, g1, -, -, iz⟩ := hV8.cells;obtain ⟨t1, t2, t3, t4, l0, l1, -, -, il⟩ := hV11.cells;clear hV8 hV9 hV11;have hdx : (x : Int) / ((Nat.gcd x y : Nat) : Int) = ((x / Nat.gcd x y : Nat) : Int) := by rw [Int.natCast_ediv]
     have hdy : (y : Int) / ((Nat.gcd x y : Nat) : Int) = ((y / Nat.gcd x y : Nat) : Int) := by rw [Int.natCast_ediv]
     rw [hdx] at iy;rw [hdy] at il;clear hdx hdy;have hD := heap_alloc_new w12 (.cells #[.bool z1, .slice z2 z3 z4, .bool y1, .slice y2 y3 y4, .bool t1, .slice t2 t3 t4] 29);have hsc := Sc.three hD (iz.alloc _) (iy.alloc _) (il.alloc _);have hW13 := hW12.up (below_new _ (.cells #[.bool z1, .slice z2 z3 z4, .bool y1, .slice y2 y3 y4, .bool t1, .slice t2 t3 t4] 29));have hg12 := hW12.hO.lt gO rfl;have HW13 := Lib.hid hW13;have HSC := Lib.hid hsc;have htl : (zI T').length = n := by rw [zI_len]; exact hTn
     clear hD hsc hW13 hW12 iy iz il;go_wp2_with (at_builtin; go_must (refine wpl_apS (E := eI) rfl (.tmp 64) (.tmp 68) _ rfl Tryz.underlying51 w.heap.size _ (zI T') _ rfl HW13.out.hT HW13.out.hb.size _ 0 3 3 rfl rfl HSC.out (by decide) (by rw [htl]; omega) ?_); intro g' cap' w14 hS' hb' hg')
     have hnw : ∀ g, (Value.slice (some ⟨gT, 0, none⟩) n cT).ownBlock = some g -> NoW (w12.alloc (.cells #[.bool z1, .slice z2 z3 z4, .bool y1, .slice y2 y3 y4, .bool t1, .slice t2 t3 t4] 29)) g := fun g hg => HW13.out.hT.nw g hg;have hO14 := HW13.out.hO.fr hb' hnw (fun g hg hg2 => HW13.out.hd g hg2 hg);have hbl14 := ButS.below HW13.out.hb hb' HW13.out.hb.size (fun g hg => (HW13.out.hT.lt g hg).1)
     have hd14 : ∀ g, (Value.slice (some ⟨g', 0, none⟩) (n + 3) cap').ownBlock = some g -> (Value.slice (some ⟨gO, 0, none⟩) (O.length - 1) cO).ownBlock ≠ some g := fun g hg e => by
      have h1 : g' = g := by simpa [Value.ownBlock] using hg
      have h2 : gO = g := by simpa [Value.ownBlock] using e
      rcases hg' with hg' | hg'
      ·exact HW13.out.hd g' hg' (by rw [h1]; exact e)
      ·rw [World.size_alloc] at hg';omega
     obtain ⟨M', hQ', hM'⟩ := hspl.out HX1.out HCO.out;go_roundg M'
     ·refine ⟨_, _, _, ⟨?_, hO14, hd14, hbl14⟩, hQ'⟩;rw [zI_append];rw [htl] at hS';exact hS'
     ·exact hM'
    ·obtain rfl : j = O.length := by omega
     have hWq := HW1.out.up hbq;have hVq := HV5.out.up hbq;obtain ⟨x1, x2, x3, x4, e0, e1, -, -, ix⟩ := hVq.cells;have hD := heap_alloc_new wr (.cells #[.bool x1, .slice x2 x3 x4] 29);have hsc : Sc eI _ _ 0 [(x : Int)] := Sc.one hD ⟨x1, x2, x3, x4, rfl, ix.alloc _⟩;have hW3 := hWq.up (below_new _ (.cells #[.bool x1, .slice x2 x3 x4] 29));have HW3 := Lib.hid hW3;have HSC := Lib.hid hsc;have hlen := hWq.hT.lt;have HQS := HQ.out;rw [HTS.out] at HQS;obtain ⟨M', hQ', hM'⟩ := HQS.out HX1.out HCP.out;have HQ' := Lib.hid hQ';clear hD hsc hW3 hWq hVq ix HQS hQ';go_wp2_with (at_builtin; go_must (refine wpl_apS (E := eI) rfl (.tmp 71) (.tmp 73) _ rfl Tryz.underlying51 w.heap.size _ (zI O) _ rfl HW3.out.hO HW3.out.hb.size _ 0 1 1 rfl rfl HSC.out (by decide) (by rw [zI_len]; omega) ?_); intro g' cap' w14 hS' hb' hg')
     have hT14 := HW3.out.hT.fr hb' (fun g hg => HW3.out.hO.nw g hg) (fun g hg hg2 => HW3.out.hd g hg hg2);have hbl14 := ButS.below HW3.out.hb hb' HW3.out.hb.size (fun g hg => (HW3.out.hO.lt g hg).1);go_roundg M'
     ·refine ⟨T', O ++ [x], s, ⟨hT14, by rw [zI_append]; exact hS', fun g hg e => ?_, hbl14⟩, HQ'.out⟩;have h1 : g' = g := by simpa [Value.ownBlock] using e
      rcases hg' with hg' | hg'
      ·exact HW3.out.hd g hg (by rw [<- h1]; exact hg')
      ·have := hlen g hg;rw [World.size_alloc] at hg';omega
     ·exact hM'
theorem hasC_any (v : Value) (x n : Int) (B : Nat) (w : World) (hx : It w v x) (hB : Vx w B n) (hsx : sz x <= 1099511627776) (hsn : sz n <= 1099511627776) :
  Calls Tryz.prog 80 #[v, .pointer (some ⟨B, 0, none⟩)] w fun e w' => e = .returned (.bool (decide (x = n))) /\ Below w.heap.size w w' := by
 obtain ⟨s, a, k, c, rfl⟩ := hx.shape;have hV := Vx.new (w := w) (T := 29) rfl hx;have hb := below_new w (.cells #[.bool s, .slice a k c] 29);have hB2 := hB.alloc (.cells #[.bool s, .slice a k c] 29);have hlt := hB.lt;clear hx hB;go_enter Tryz.func80, Tryz.ntmps80
 go_upto_region 1 with fail;generalize w.alloc (.cells #[.bool s, .slice a k c] 29) = W at *;obtain ⟨x1, x2, x3, x4, e0, e1, -, -, ix⟩ := hV.cells;obtain ⟨y1, y2, y3, y4, f0, f1, -, -, iy⟩ := hB2.cells;go_wp2_with fail;refine (cmp_any _ _ x n W ix iy (Nat.le_trans hsx (by decide)) (Nat.le_trans hsn (by decide))).mono ?_;rintro e w2 ⟨rfl, hb2⟩;have hd : (cmpI x n == 0) = decide (x = n) := by rw [Bool.eq_iff_iff]; simp [cmpI_zero]
 have hbl := Bl.up hb hb2;clear e0 e1 f0 f1 ix iy hV hB2;go_wp2_with fail;go_ret
 exact ⟨rfl, hbl⟩
theorem has_any (va vn : Value) (l : List Int) (n : Int) (w : World) (ha : Sr eI w va l) (hn : It w vn n) (hN : l.length <= 1099511627776) (hs : ∀ x ∈ l, sz x <= 1099511627776) (hsn : sz n <= 1099511627776) :
  Calls Tryz.prog 54 #[va, vn] w fun e w' => e = .returned (.bool (decide (n ∈ l))) /\ Below w.heap.size w w' := by
 obtain ⟨s, a, k, c, rfl⟩ := hn.shape;have hV := Vx.new (w := w) (T := 29) rfl hn;have hb := below_new w (.cells #[.bool s, .slice a k c] 29);have hA := ha.alloc (.cells #[.bool s, .slice a k c] 29);go_enter Tryz.func54, Tryz.ntmps54
 go_wp2_with fail;refine (has1_any va l 80 #[.pointer (some ⟨w.heap.size, 0, none⟩)] (fun x => decide (x = n)) _ (enters_of Tryz.func80 (by kernel_rfl) rfl) hA.rw hN (fun i hi W v hbW hv => ?_)).mono ?_
 ·refine hasC_any v (l.getD i 0) n w.heap.size W hv (hV.up hbW) ?_ hsn;refine hs _ ?_;rw [List.getD_eq_getElem?_getD, List.getElem?_eq_getElem hi]; exact List.getElem_mem _
 ·rintro e w2 ⟨rfl, hb2⟩
  have e0 : (l.any fun x => decide (x = n)) = decide (n ∈ l) := by
   rw [Bool.eq_iff_iff]; simp
  rw [e0];have hbl := Bl.up hb hb2;go_wp2_with fail;go_ret
  exact ⟨rfl, hbl⟩
theorem splitC_any (v : Value) (r x : Int) (B : Nat) (w : World) (hr : It w v r) (hB : Vx w B x) (hx0 : x ≠ 0) (hsr : sz r <= 1099511627776) (hsx : sz x <= 1099511627776) :
  Calls Tryz.prog 53 #[v, .pointer (some ⟨B, 0, none⟩)] w fun e w' => e = .returned (.bool (decide (r % x = 0))) /\ Below w.heap.size w w' := by
 obtain ⟨s, a, k, c, rfl⟩ := hr.shape;have hV := Vx.new (w := w) (T := 29) rfl hr;have hb := below_new w (.cells #[.bool s, .slice a k c] 29);have hB2 := hB.alloc (.cells #[.bool s, .slice a k c] 29);have hlt := hB.lt;clear hr hB;go_enter Tryz.func53, Tryz.ntmps53
 go_upto_region 1 with fail;generalize w.alloc (.cells #[.bool s, .slice a k c] 29) = W at *;obtain ⟨x1, x2, x3, x4, e0, e1, -, -, ix⟩ := hV.cells;obtain ⟨y1, y2, y3, y4, f0, f1, -, -, iy⟩ := hB2.cells;go_wp2_with fail;refine (divide_ok _ _ r x W ix iy hx0 hsr hsx).mono ?_;rintro e w2 ⟨v2, rfl, hv2, hb2⟩;obtain ⟨s5, a5, n5, k5, rfl⟩ := hv2.shape;have hbl := Bl.up hb hb2;have hz2 := hb2.size;clear e0 e1 f0 f1 ix iy hV hB2;go_wp2_with fail;go_ret
 exact ⟨rfl, Bl.alloc hbl _⟩
end Go.Proofs.YtblebpmlkpobnaaGreatDoor
