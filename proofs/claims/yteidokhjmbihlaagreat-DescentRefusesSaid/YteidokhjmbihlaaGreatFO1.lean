/-
  factor.has, the functions of Split and Merge that are handed to slices.ContainsFunc.
-/
import Derived.Test.YteidokhjmbihlaaGreatFG1
import Derived.Test.YteidokhjmbihlaaGreatFI1
import Derived.Test.YteidokhjmbihlaaGreatFH1
import Derived.Test.YteidokhjmbihlaaGreatFL1
import Derived.Test.YteidokhjmbihlaaGreatFN
set_option linter.all false
namespace Go.Proofs.YteidokhjmbihlaaGreat
open Go.RowKit
attribute [local go_sem ↓] Go.wp_at_zero Go.wp_at_succ
def zI (l:List Nat):List Int:=l.map fun (x:Nat)=>(x:Int)
theorem QdF (l:List Nat):(zI l).length=l.length:=by simp[zI]
theorem QcQ (a b:List Nat):zI (a++b)=zI a++zI b:=by simp[zI]
theorem So.cap {α : Type} {E:Elt α} {w:World} {base g n cap:Nat} {l:List α} (h:So E w base (.slice (some ⟨g,0,none⟩) n cap) l):cap<=9223372036854775807:=by
 obtain⟨xs,⟨-,k⟩,-⟩:=h;rcases k with ⟨e,-⟩|⟨g',cap',cur,e,k1,k2,k3,k4,-⟩
 ·injection e with e1;cases e1
 ·injection e with e1 e2 e3;subst e3;have:=k4;unfold maxLen at this;omega
theorem Y8 {x n k:Nat} (h:x<=n) (hn:n<2 ^ (32*k)):x<4294967296 ^ k:=by
 rw[show (4294967296:Nat)=2 ^ 32 by rfl,<- Nat.pow_mul];exact Nat.lt_of_le_of_lt h hn
theorem Qaf {m n a b c:Nat} (h:m<2 ^ a) (k:n<2 ^ b) (hc:a+b<c):m*n<2 ^ c:=
 Nat.lt_of_le_of_lt (Nat.mul_le_mul (Nat.le_of_lt h) (Nat.le_of_lt k)) (by rw[<- Nat.pow_add];exact Nat.pow_lt_pow_right (by decide) hc)
theorem Qag {n d k E:Nat} (h:n<2 ^ E) (hd:2<=d) (hk:d ^ k<=n):k<=E:=by
 have h1:2 ^ k<=d ^ k:=Nat.pow_le_pow_left hd k;rcases Nat.lt_or_ge E k with h2|h2
 ·have:=Nat.pow_le_pow_right (n:=2) (by decide) (Nat.le_of_lt h2);omega
 ·exact h2
theorem JC {x n k e:Nat} (he:e=32*k) (h:x<=n) (hn:n<2 ^ e):sz (x:Int)<=k:=by
 subst he;exact Qf (Y8 (show (x:Int).natAbs<=n from h) hn)
def QaG:Nat:=1048576
structure Mdst (n:Nat):Prop where
 lt:n<2 ^ QaG
structure BsW (w wr:World) (vT vO:Value) (T O:List Nat):Prop where
 hT:So eI wr w.heap.size vT (zI T)
 hO:So eI wr w.heap.size vO (zI O)
 hd:∀ g,vT.ownBlock=some g->vO.ownBlock≠some g
 hb:Below w.heap.size w wr
theorem BsW.up {w wr w':World} {vT vO:Value} {T O:List Nat} (h:BsW w wr vT vO T O) (hb:Below wr.heap.size wr w'):BsW w w' vT vO T O:=
 ⟨h.hT.up hb,h.hO.up hb,h.hd,Bl.up h.hb hb⟩
structure BsP (l T O:List Nat) (s M:Nat):Prop where
 inv:Inv l (O++T)
 cob:Cob O
 len:O.length+T.length<=l.length+s
 prd:2 ^ s*(O++T).prod<=l.prod
 msr:M=4*(O++T).prod+T.length
section
variable {l T O:List Nat} {s M x:Nat}
theorem BsP.le (h:BsP l T O s M) {x:Nat} (hx:x∈O++T):1<=x/\x<=l.prod:=by
 have h1:=JU h.inv.pos hx;have h2:1*(O++T).prod<=2 ^ s*(O++T).prod:=Nat.mul_le_mul_right _ (Nat.one_le_two_pow);have h3:=h.prd;exact⟨h.inv.pos x hx,by omega⟩
theorem BsP.one (h:BsP l (T++[1]) O s M):∃ M',BsP l T O s M'/\M'<M:=by
 obtain⟨h1,h2,h3,h4,h5⟩:=h;have hp:(O++(T++[1])).prod=(O++T).prod:=by simp
 rw[hp] at h4 h5;rw[List.length_append,List.length_singleton] at h3 h5;exact⟨_,⟨h1.drop (x:=1) (fun y=>by simp;constructor <;> (intro h;rcases h with h|h|h <;> simp[h])) (.inl rfl),h2,by omega,h4,rfl⟩,by omega⟩
theorem BsP.out (h:BsP l (T++[x]) O s M) (hx:x≠1) (hc:∀ k,k<O.length->Nat.Coprime x (O.getD k 0)):∃ M',BsP l T (O++[x]) s M'/\M'<M:=by
 have h0:=h.inv.pos x (by simp);obtain⟨h1,h2,h3,h4,h5⟩:=h;have hp:(O++(T++[x])).prod=(O++[x]++T).prod:=by simp[Nat.mul_comm,Nat.mul_left_comm,Nat.mul_assoc]
 rw[hp] at h4 h5;rw[List.length_append,List.length_singleton] at h3 h5;refine⟨_,⟨h1.same fun y=>by simp[or_comm,or_left_comm,or_assoc],⟨fun p hp=>?_,?_⟩,by rw[List.length_append,List.length_singleton];omega,h4,rfl⟩,by omega⟩
 ·rcases List.mem_append.1 hp with hp|hp
  ·exact h2.1 p hp
  ·obtain rfl:p=x:=by simpa using hp
   omega
 ·rw[List.pairwise_append];refine⟨h2.2,List.pairwise_singleton _ _,fun a ha b hb=>?_⟩;obtain rfl:b=x:=by simpa using hb
  obtain⟨k,hk,rfl⟩:=List.getElem_of_mem ha;have:=hc k hk;rw[Zk3,Zk4 hk] at this;exact Nat.Coprime.symm this
theorem BsP.eq (h:BsP l (T++[x]) O s M) (hx:x∈O):∃ M',BsP l T O s M'/\M'<M:=by
 have aB:=h.cob.1 x hx;have aA:=QI (l:=O++T) (fun y hy=>h.inv.pos y (by rcases List.mem_append.1 hy with h|h <;> simp[h]));obtain⟨h1,h2,h3,h4,h5⟩:=h;have hp:(O++(T++[x])).prod=(O++T).prod*x:=by simp[Nat.mul_comm,Nat.mul_left_comm,Nat.mul_assoc]
 rw[hp] at h4 h5;rw[List.length_append,List.length_singleton] at h3 h5;have h6:(O++T).prod*2<=(O++T).prod*x:=Nat.mul_le_mul_left _ aB;refine⟨_,⟨h1.drop (x:=x) (fun y=>by simp;constructor <;> (intro h;rcases h with h|h|h <;> simp[h])) (.inr (by simp[hx])),h2,by omega,?_,rfl⟩,by omega⟩;refine Qt (Nat.mul_le_mul_left _ ?_) h4;omega
theorem BsP.split (h:BsP l (T++[x]) O s M) {j:Nat} (hj:j<O.length) (hx:x≠1) (hg:Nat.gcd x (O.getD j 0)≠1) :
  ∃ M',BsP l (T++[Nat.gcd x (O.getD j 0),x/Nat.gcd x (O.getD j 0),O.getD j 0/Nat.gcd x (O.getD j 0)]) (O.eraseIdx j) (s+1) M'/\M'<M:=by
 have hy:O.getD j 0=O[j]:=by simp[Zk3,hj]
 have aF:=h.inv.pos x (by simp);have aC:O.getD j 0∈O:=by rw[hy];exact List.getElem_mem _
 have aD:=Q9 hj;have aA:=fun z=>Jd hj z;rw[<- hy] at aD aA;generalize O.getD j 0=y at *
 have aI:=QI (l:=O.eraseIdx j++T) (fun z hz=>h.inv.pos z (by
  rcases List.mem_append.1 hz with hz|hz
  ·exact List.mem_append_left _ ((aA z).2 (.inr hz))
  ·simp[hz]))
 have aE:0<Nat.gcd x y:=Nat.gcd_pos_of_pos_left _ (by omega);obtain⟨h1,h2,h3,h4,h5⟩:=h;have aG:=YK (x:=x) (y:=y) aF (by omega);have aJ:(O.eraseIdx j).length+1=O.length:=by rw[List.length_eraseIdx,if_pos hj];omega
 have hp:(O++(T++[x])).prod=(O.eraseIdx j++T).prod*(x*y):=by
  rw[List.prod_append_nat,aD,List.prod_append_nat,List.prod_append_nat];simp[Nat.mul_comm,Nat.mul_left_comm,Nat.mul_assoc]
 have aB:(O.eraseIdx j++(T++[Nat.gcd x y,x/Nat.gcd x y,y/Nat.gcd x y])).prod=(O.eraseIdx j++T).prod*(Nat.gcd x y*(x/Nat.gcd x y)*(y/Nat.gcd x y)):=by
  simp[Nat.mul_comm,Nat.mul_left_comm,Nat.mul_assoc]
 have h6:(O.eraseIdx j++T).prod*(Nat.gcd x y*(x/Nat.gcd x y)*(y/Nat.gcd x y))*2<=(O.eraseIdx j++T).prod*(x*y):=by
  rw[Nat.mul_assoc];exact Nat.mul_le_mul_left _ aG
 have aH:=QI (l:=(O.eraseIdx j++(T++[Nat.gcd x y,x/Nat.gcd x y,y/Nat.gcd x y]))) (fun z hz=>?_)
 ·rw[hp] at h4 h5;rw[aB] at aH;rw[List.length_append,List.length_singleton] at h3 h5;refine⟨_,⟨h1.split (x:=x) (y:=y) (by simp) (by simp[aC]) (fun z hz=>?_) (fun z hz=>?_) (fun z hz=>.inr ?_),h2.sub (List.eraseIdx_sublist _ _),?_,?_,rfl⟩,?_⟩
  ·simp only[List.mem_append,List.mem_singleton] at hz;rcases hz with hz|hz|hz
   ·rcases (aA z).1 hz with hz|hz
    ·exact .inr (.inl hz)
    ·exact .inr (.inr (by simp[hz]))
   ·exact .inr (.inr (by simp[hz]))
   ·exact .inl hz
  ·simp only[List.mem_append,List.mem_cons,List.not_mem_nil,or_false] at hz;rcases hz with hz|hz|hz|hz|hz
   ·exact .inl (by simp[(aA z).2 (.inr hz)])
   ·exact .inl (by simp[hz])
   ·exact .inr (.inl hz)
   ·exact .inr (.inr (.inl hz))
   ·exact .inr (.inr (.inr hz))
  ·simp only[List.mem_append,List.mem_cons,List.not_mem_nil,or_false];rcases hz with hz|hz|hz <;> simp[hz]
  ·rw[List.length_append];simp;omega
  ·rw[aB,Nat.pow_succ];refine Qt (Nat.le_of_eq ?_) (Qt (Nat.mul_le_mul_left (2 ^ s) h6) h4);simp[Nat.mul_comm,Nat.mul_left_comm,Nat.mul_assoc]
  ·rw[h5,aB,List.length_append];show 4*((O.eraseIdx j++T).prod*(Nat.gcd x y*(x/Nat.gcd x y)*(y/Nat.gcd x y)))+(T.length+3)<_
   omega
 ·simp only[List.mem_append,List.mem_cons,List.not_mem_nil,or_false] at hz;rcases hz with hz|hz|hz|hz|hz
  ·exact h1.pos z (by simp[(aA z).2 (.inr hz)])
  ·exact h1.pos z (by simp[hz])
  ·omega
  ·rw[hz];exact Nat.div_pos (Nat.le_of_dvd (by omega) (Nat.gcd_dvd_left _ _)) aE
  ·rw[hz];exact Nat.div_pos (Nat.le_of_dvd (by have:=h1.pos y (by simp[aC]);omega) (Nat.gcd_dvd_right _ _)) aE
end
