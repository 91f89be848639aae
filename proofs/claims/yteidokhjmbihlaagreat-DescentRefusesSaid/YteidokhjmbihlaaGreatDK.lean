/-
  What Make answers is right.
-/
import Derived.Test.YteidokhjmbihlaaGreatDF
import Derived.Test.YteidokhjmbihlaaGreatDA
import Derived.Test.YteidokhjmbihlaaGreatDH
set_option linter.all false
namespace Go.Proofs.YteidokhjmbihlaaGreat
def Qaz (a b:Int) (C:List Int) (l:List (Int×Int×Int×Int)) (i:Nat):Prop:=
 (0<i->(l.getD (i-1) (0,0,0,0)).1<(l.getD i (0,0,0,0)).1)/\(l.getD i (0,0,0,0)).1∈C /\
  YT (l.getD i (0,0,0,0)).1 a (b/(l.getD i (0,0,0,0)).1) (l.getD i (0,0,0,0)).1 (l.getD i (0,0,0,0)).2.1 (l.getD i (0,0,0,0)).2.2.1 (l.getD i (0,0,0,0)).2.2.2=true
def Qay (a b:Int) (C:List Int) (m:List (Int×Int×Int)) (i:Nat):Prop:=
 (0<i->(m.getD (i-1) (0,0,0)).1<(m.getD i (0,0,0)).1)/\(m.getD i (0,0,0)).1∈C /\
  QaK (m.getD i (0,0,0)).1 a (b/(m.getD i (0,0,0)).1) (m.getD i (0,0,0)).2.1 (m.getD i (0,0,0)).2.2=(false,0)
def Qaw (a b:Int) (l:List (Int×Int×Int×Int)) (m:List (Int×Int×Int)):Prop:=
 ∃ C,Cand b.natAbs C/\(∀ i,i<l.length->Qaz a b C l i)/\∀ i,i<m.length->Qay a b C m i
def ChkTo (a b:Int) (l0 l1:List (Int×Int×Int×Int)) (m0 m1:List (Int×Int×Int)) (code:Int):Prop:=
 (Yy a b≠0/\code=Yy a b)\/(Yy a b=0/\(Qaw a b l0 m0/\Qaw (-2*a) (a*a-4*b) l1 m1)/\code=0)\/(Yy a b=0/\¬ (Qaw a b l0 m0/\Qaw (-2*a) (a*a-4*b) l1 m1)/\code=311)
theorem ChkTo.uniq {a b:Int} {l0 l1:List (Int×Int×Int×Int)} {m0 m1:List (Int×Int×Int)} {c c':Int} (h:ChkTo a b l0 l1 m0 m1 c) (h':ChkTo a b l0 l1 m0 m1 c'):c=c':=by
 rcases h with ⟨h1,h2⟩|⟨h1,h2,h3⟩|⟨h1,h2,h3⟩ <;> rcases h' with ⟨k1,k2⟩|⟨k1,k2,k3⟩|⟨k1,k2,k3⟩ <;> first|exact absurd k1 h1|exact absurd h1 k1|exact absurd h2 k2|exact absurd k2 h2|omega
def rkM (x y:Int):Int:=x/(Int.gcd x y:Int)*(y/(Int.gcd x y:Int))
def rkS (g:List Int) (x:Int):List Int:=if x∈g then g else g++g.map (rkM x)
def rkG (l:List Int):List Int:=l.foldl rkS [1]
def rkF (l:List Int):Nat:=Nat.log2 (rkG l).length
theorem QiJ (l:List Int) (x:Int):rkG (l++[x])=rkS (rkG l) x:=by unfold rkG;rw[List.foldl_append];rfl
def BndTo (a b:Int) (l0 l1:List (Int×Int×Int×Int)) (m0 m1:List (Int×Int×Int)) (low high code:Int):Prop:=
 ChkTo a b l0 l1 m0 m1 code/\((code≠0/\low=0/\high=0)\/(code=0/\∃ f0 f1 C0 C1,FrZ b f0/\FrZ (a*a-4*b) f1/\Cand b.natAbs C0/\Cand (a*a-4*b).natAbs C1 /\
  low=max (-2+(rkF (f0 :: l0.map Prod.fst):Int)+(rkF (f1 :: l1.map Prod.fst):Int)) 0 /\
  high = -2+(Nat.log2 ((C0.length:Int)-m0.length).toNat:Int)+(Nat.log2 ((C1.length:Int)-m1.length).toNat:Int)))
theorem BndTo.uniq {a b:Int} {l0 l1:List (Int×Int×Int×Int)} {m0 m1:List (Int×Int×Int)} {l h c l' h' c':Int} (g:BndTo a b l0 l1 m0 m1 l h c) (g':BndTo a b l0 l1 m0 m1 l' h' c'):l=l'/\h=h'/\c=c':=by
 obtain⟨g1,g2⟩:=g;obtain⟨k1,k2⟩:=g';have e:=g1.uniq k1;subst e;rcases g2 with ⟨g2,g3,g4⟩|⟨g2,f0,f1,C0,C1,e1,e2,e3,e4,e5,e6⟩ <;> rcases k2 with ⟨k2,k3,k4⟩|⟨k2,f0',f1',C0',C1',d1,d2,d3,d4,d5,d6⟩
 ·exact⟨g3.trans k3.symm,g4.trans k4.symm,rfl⟩
 ·exact absurd k2 g2
 ·exact absurd g2 k2
 ·have a1:=e1.uniq d1;have a2:=e2.uniq d2;have a3:=e3.uniq d3;have a4:=e4.uniq d4;subst a1 a2 a3 a4;exact⟨e5.trans d5.symm,e6.trans d6.symm,rfl⟩
theorem JM {α : Type} [DecidableEq α]:∀ {l m:List α},l.Nodup->(∀ x∈l,x∈m)->l.length<=m.length
 | [],_,_,_=>Nat.zero_le _
 | x :: l, m, hn, hs => by
   have h1:=List.nodup_cons.1 hn;have h2:=JM (l:=l) (m:=m.erase x) h1.2 (fun y hy=>(List.mem_erase_of_ne (fun e=>h1.1 (by rw[<- e];exact hy))).2 (hs y (List.mem_cons_of_mem _ hy)));have h3:x∈m:=hs x List.mem_cons_self;have h4:=List.length_erase_of_mem h3;have h5:0<m.length:=List.length_pos_of_mem h3;simp only[List.length_cons];omega
def Sq0 (x:Int):Prop:=x≠0/\SqF x.natAbs
theorem Eqs.cancel {z x y:Int} (hz:z≠0) (h:Eqs (z*x) (z*y)):Eqs x y:=by
 obtain⟨k,l,hk,hl,e⟩:=h;refine⟨k,l,hk,hl,?_⟩;rw[Int.mul_assoc,Int.mul_assoc] at e;exact Int.eq_of_mul_eq_mul_left hz e
theorem Yp {x y:Int} (hx:x≠0):∃ g u v:Int,g≠0/\x=g*u/\y=g*v/\Nat.Coprime u.natAbs v.natAbs/\rkM x y=u*v:=by
 have hg:Int.gcd x y≠0:=fun e=>hx (by
  have:=Int.gcd_dvd_left x y;rw[e] at this;exact Int.zero_dvd.1 this)
 have aA:(Int.gcd x y:Int)≠0:=by omega
 obtain⟨u,hu⟩:=Int.gcd_dvd_left x y;obtain⟨v,hv⟩:=Int.gcd_dvd_right x y;refine⟨(Int.gcd x y:Int),u,v,aA,hu,hv,?_,?_⟩
 ·have h1:Int.gcd x y=Int.gcd x y*Int.gcd u v:=by
   have:Int.gcd x y=Int.gcd ((Int.gcd x y:Int)*u) ((Int.gcd x y:Int)*v):=by rw[<- hu,<- hv]
   rw[Int.gcd_mul_left] at this;simpa using this
  have h2:Int.gcd u v=1:=by
   have h3:Int.gcd x y*Int.gcd u v=Int.gcd x y*1:=by omega
   exact Nat.eq_of_mul_eq_mul_left (by omega) h3
  exact h2
 ·unfold rkM
  have e1:x/(Int.gcd x y:Int)=u:=by
   have:=Int.mul_ediv_cancel_left u aA;rwa [<- hu] at this
  have e2:y/(Int.gcd x y:Int)=v:=by
   have:=Int.mul_ediv_cancel_left v aA;rwa [<- hv] at this
  rw[e1,e2]
theorem Q0 {x y:Int} (hx:Sq0 x) (hy:Sq0 y):Sq0 (rkM x y)/\Eqs (rkM x y) (x*y):=by
 obtain⟨g,u,v,hg,e1,e2,hc,e3⟩:=Yp (y:=y) hx.1;have hu:u≠0:=fun e=>hx.1 (by rw[e1,e,Int.mul_zero]);have hv:v≠0:=fun e=>hy.1 (by rw[e2,e,Int.mul_zero]);rw[e3];refine⟨⟨Int.mul_ne_zero hu hv,?_⟩,?_⟩
 ·rw[Int.natAbs_mul];refine SqF.mul (hx.2.of_dvd ?_) (hy.2.of_dvd ?_) hc
  ·rw[e1,Int.natAbs_mul];exact Nat.dvd_mul_left _ _
  ·rw[e2,Int.natAbs_mul];exact Nat.dvd_mul_left _ _
 ·have:=(Eqs.sq (u*v) hg).symm;have e4:u*v*(g*g)=x*y:=by rw[e1,e2];grind
  rwa [e4] at this
theorem Yf {n:Nat} {C:List Int} (h:Cand n C) {x:Int} (hx:x∈C):Sq0 x:=by
 obtain⟨h1,h2,-⟩:=(h.2 x).1 hx;exact⟨by omega,h2⟩
theorem JO {n:Nat} {C:List Int} (h:Cand n C) {x y:Int} (hx:x∈C) (hy:y∈C):rkM x y∈C:=by
 have sx:=Yf h hx;have sy:=Yf h hy;obtain⟨-,-,aB⟩:=(h.2 x).1 hx;obtain⟨-,-,aA⟩:=(h.2 y).1 hy;have hs:=(Q0 sx sy).1;obtain⟨g,u,v,hg,e1,e2,hc,e3⟩:=Yp (y:=y) sx.1;refine(h.2 _).2 ⟨by have:=hs.1;omega,hs.2,?_⟩;rw[e3,Int.natAbs_mul];rw[e1,Int.natAbs_mul] at aB;rw[e2,Int.natAbs_mul] at aA;exact hc.mul_dvd_of_dvd_of_dvd (Nat.dvd_trans (Nat.dvd_mul_left _ _) aB) (Nat.dvd_trans (Nat.dvd_mul_left _ _) aA)
structure Grp (C g:List Int):Prop where
 nd:g.Nodup
 sub:∀ x∈g,x∈C
 one:(1:Int)∈g
 mul:∀ x∈g,∀ y∈g,rkM x y∈g
theorem QN {x y z:Int} (hx:Sq0 x) (hy:Sq0 y) (hz:Sq0 z) (h:Eqs z (x*y)):rkM x y=z:=by
 obtain⟨h1,h2⟩:=Q0 hx hy;exact(h2.trans h.symm).uniq h1.2 hz.2 h1.1 hz.1
theorem Grp.step {n:Nat} {C g:List Int} (hC:Cand n C) (h:Grp C g) {x:Int} (hx:x∈C) (hn:x∉g):Grp C (g++g.map (rkM x)):=by
 have sg:∀ y∈g,Sq0 y:=fun y hy=>Yf hC (h.sub y hy);have sx:=Yf hC hx;have aA:∀ y∈g,Sq0 (rkM x y)/\Eqs (rkM x y) (x*y):=fun y hy=>Q0 sx (sg y hy);refine⟨List.nodup_append.2 ⟨h.nd,?_,?_⟩,fun y hy=>?_,List.mem_append_left _ h.one,fun y hy z hz=>?_⟩
 ·refine List.pairwise_map.2 (List.Pairwise.imp_of_mem ?_ h.nd);intro y z hy hz aB e;have e1:=(aA y hy).2;rw[e] at e1;have e2:Eqs (x*y) (x*z):=e1.symm.trans (aA z hz).2;exact aB ((Eqs.cancel sx.1 e2).uniq (sg y hy).2 (sg z hz).2 (sg y hy).1 (sg z hz).1)
 ·intro y hy w hw e;obtain⟨z,hz,rfl⟩:=List.mem_map.1 hw;subst e;have h1:=(aA z hz).2
  have h2:Eqs (x*z*z) x:=by
   have:=Eqs.sq x (sg z hz).1;rwa [<- Int.mul_assoc] at this
  have h3:Eqs x (rkM x z*z):=h2.symm.trans (h1.symm.mul (Eqs.refl z));have h4:=QN (sg _ hy) (sg z hz) sx h3;exact hn (h4▸h.mul _ hy z hz)
 ·rcases List.mem_append.1 hy with hy|hy
  ·exact h.sub y hy
  ·obtain⟨z,hz,rfl⟩:=List.mem_map.1 hy;exact JO hC hx (h.sub z hz)
 ·rcases List.mem_append.1 hy with hy|hy <;> rcases List.mem_append.1 hz with hz|hz
  ·exact List.mem_append_left _ (h.mul y hy z hz)
  ·obtain⟨u,hu,rfl⟩:=List.mem_map.1 hz;refine List.mem_append_right _ (List.mem_map.2 ⟨rkM y u,h.mul y hy u hu,?_⟩);refine Eq.symm (QN (sg y hy) (aA u hu).1 (aA _ (h.mul y hy u hu)).1 ?_);have e1:=(aA _ (h.mul y hy u hu)).2;have e2:=(Eqs.refl x).mul (Q0 (sg y hy) (sg u hu)).2;have e3:=(Eqs.refl y).mul (aA u hu).2;have e4:x*(y*u)=y*(x*u):=by grind
   rw[e4] at e2;exact e1.trans (e2.trans e3.symm)
  ·obtain⟨u,hu,rfl⟩:=List.mem_map.1 hy;refine List.mem_append_right _ (List.mem_map.2 ⟨rkM u z,h.mul u hu z hz,?_⟩);refine Eq.symm (QN (aA u hu).1 (sg z hz) (aA _ (h.mul u hu z hz)).1 ?_);have e1:=(aA _ (h.mul u hu z hz)).2;have e2:=(Eqs.refl x).mul (Q0 (sg u hu) (sg z hz)).2;have e3:=(aA u hu).2.mul (Eqs.refl z);have e4:x*(u*z)=x*u*z:=by grind
   rw[e4] at e2;exact e1.trans (e2.trans e3.symm)
  ·obtain⟨u,hu,rfl⟩:=List.mem_map.1 hy;obtain⟨v,hv,rfl⟩:=List.mem_map.1 hz;refine List.mem_append_left _ ?_;have e1:=(aA u hu).2.mul (aA v hv).2;have e2:=(Q0 (sg u hu) (sg v hv)).2;have e3:x*u*(x*v)=u*v*(x*x):=by grind
   rw[e3] at e1;have e4:=QN (aA u hu).1 (aA v hv).1 (sg _ (h.mul u hu v hv)) (e2.trans ((Eqs.sq (u*v) sx.1).symm.trans e1.symm));rw[e4];exact h.mul u hu v hv
theorem Grp.start {n:Nat} {C:List Int} (hC:Cand n C):Grp C [1]:=by
 have h1:(1:Int)∈C:=(hC.2 1).2 ⟨by decide,SqF.one,Nat.one_dvd _⟩;refine⟨by simp,fun x hx=>?_,by simp,fun x hx y hy=>?_⟩
 ·rw[List.mem_singleton] at hx;rwa [hx]
 ·rw[List.mem_singleton] at hx hy;subst hx hy;rw[List.mem_singleton];decide
theorem Qkg {n:Nat} {C g:List Int} (hC:Cand n C) (h:Grp C g) {x:Int} (hx:x∈C):Grp C (rkS g x):=by
 unfold rkS;split
 ·exact h
 ·exact h.step hC hx (by assumption)
theorem QfB {n:Nat} {C:List Int} (hC:Cand n C):∀ (l g:List Int),Grp C g->(∀ x∈l,x∈C)->Grp C (l.foldl rkS g)
 | [],_,h,_=>h
 | x :: l,_,h,hl=>QfB hC l _ (Qkg hC h (hl x List.mem_cons_self)) (fun y hy=>hl y (List.mem_cons_of_mem _ hy))
theorem QeY {n:Nat} {C l:List Int} (hC:Cand n C) (hl:∀ x∈l,x∈C):Grp C (rkG l):=QfB hC l _ (Grp.start hC) hl
theorem QjG {n:Nat} {C l:List Int} (hC:Cand n C) (hl:∀ x∈l,x∈C):(rkG l).length<=C.length:=JM (QeY hC hl).nd (QeY hC hl).sub
def HasR (a b:Int) (bd:Nat) (c:Int):Option (Int×Int×Int×Int)->Prop
 | some q=>∃ m e n:Nat,PtTo c a (b/c) bd m e n true/\q=(c,(m:Int),(e:Int),(n:Int))
 | none=>∃ m e n:Nat,PtTo c a (b/c) bd m e n false
def NotR (a b:Int) (ps:List Nat) (c:Int):Option (Int×Int×Int)->Prop
 | some q=>∃ p k:Nat,ObTo c a (b/c) ps c p k true/\q=(c,(p:Int),(k:Int))
 | none=>∃ (b':Int) (p k:Nat),ObTo c a (b/c) ps b' p k false
theorem HasR.uniq {a b:Int} {bd:Nat} {c:Int}:∀ {o o':Option (Int×Int×Int×Int)},HasR a b bd c o->HasR a b bd c o'->o=o'
 | some q, some q', ⟨m, e, n, h, e1⟩, ⟨m', e', n', h', e1'⟩ => by
   obtain⟨rfl,rfl,rfl,-⟩:=h.uniq h';rw[e1,e1']
 | some q, none, ⟨m, e, n, h, e1⟩, ⟨m', e', n', h'⟩ => by
   obtain⟨-,-,-,h5⟩:=h.uniq h'
   cases h5
 | none, some q, ⟨m, e, n, h⟩, ⟨m', e', n', h', e1⟩ => by
   obtain⟨-,-,-,h5⟩:=h.uniq h'
   cases h5
 | none,none,_,_=>rfl
theorem NotR.uniq {a b:Int} {ps:List Nat} {c:Int}:∀ {o o':Option (Int×Int×Int)},NotR a b ps c o->NotR a b ps c o'->o=o'
 | some q, some q', ⟨p, k, h, e1⟩, ⟨p', k', h', e1'⟩ => by
   obtain⟨-,rfl,rfl,-⟩:=h.uniq h';rw[e1,e1']
 | some q, none, ⟨p, k, h, e1⟩, ⟨b', p', k', h'⟩ => by
   obtain⟨-,-,-,h5⟩:=h.uniq h'
   cases h5
 | none, some q, ⟨b', p', k', h'⟩, ⟨p, k, h, e1⟩ => by
   obtain⟨-,-,-,h5⟩:=h.uniq h'
   cases h5
 | none,none,_,_=>rfl
def LsTo {α : Type} (R:Int->Option α -> Prop) (C:List Int) (l:List α):Prop:=
 ∃ os:List (Option α),os.length=C.length/\(∀ i,i<C.length->R (C.getD i 0) (os.getD i none))/\l=os.filterMap id
theorem LsTo.nil {α : Type} (R:Int->Option α -> Prop):LsTo R [] []:=⟨[],rfl,fun i h=>absurd h (Nat.not_lt_zero i),rfl⟩
theorem LsTo.snoc {α : Type} {R:Int->Option α -> Prop} {C:List Int} {l:List α} (h:LsTo R C l) {c:Int} {o:Option α} (ho:R c o):LsTo R (C++[c]) (l++o.toList):=by
 obtain⟨os,h1,h2,rfl⟩:=h;refine⟨os++[o],by simp[h1],fun i hi=>?_,?_⟩
 ·rw[List.length_append,List.length_singleton] at hi;by_cases e:i<C.length
  ·have:=h2 i e;rw[Zk3,List.getElem?_append_left e,<- Zk3,Zk3 (l:=os++[o]),List.getElem?_append_left (by omega),<- Zk3];exact this
  ·have e2:i=C.length:=by omega
   subst e2;rw[Zk3,List.getElem?_append_right (Nat.le_refl _),Zk3 (l:=os++[o]),List.getElem?_append_right (by omega),h1];simpa using ho
 ·rw[List.filterMap_append]
  cases o <;> rfl
theorem LsTo.uniq {α : Type} {R:Int->Option α -> Prop} (hR:∀ c o o',R c o->R c o'->o=o') {C:List Int} {l l':List α} (h:LsTo R C l) (h':LsTo R C l'):l=l':=by
 obtain⟨os,h1,h2,rfl⟩:=h;obtain⟨aA,k1,k2,rfl⟩:=h'
 have:os=aA:=by
  refine List.ext_getElem (by omega) fun i hi hi'=>?_;have a1:=h2 i (by omega);have a2:=k2 i (by omega);have a3:=hR _ _ _ a1 a2;rwa [Zk3,Zk4 hi,Zk3,Zk4 hi'] at a3
 rw[this]
theorem LsTo.len {α : Type} {R:Int->Option α -> Prop} {C:List Int} {l:List α} (h:LsTo R C l):l.length<=C.length:=by
 obtain⟨os,h1,h2,rfl⟩:=h;have:=List.length_filterMap_le id os;omega
def prS (ps:List Nat) (p:Nat):List Nat:=if p<=4096/\p∉ps then ps++[p] else ps
def PrTo (b d:Int) (ps:List Nat):Prop:=∃ P Q,Facs b.natAbs P/\Facs d.natAbs Q/\ps=((P++Q).map Prod.fst).foldl prS [2]
def MkTo (a b bd:Int) (l0 l1:List (Int×Int×Int×Int)) (m0 m1:List (Int×Int×Int)) (code:Int):Prop:=
 (Yy a b≠0/\code=Yy a b/\l0=[]/\l1=[]/\m0=[]/\m1=[]) \/
 (Yy a b=0/\¬ (1<=bd/\bd<=100)/\code=1/\l0=[]/\l1=[]/\m0=[]/\m1=[]) \/
 (Yy a b=0/\(1<=bd/\bd<=100)/\code=0/\∃ C0 C1 ps,Cand b.natAbs C0/\Cand (a*a-4*b).natAbs C1/\PrTo b (a*a-4*b) ps /\
  LsTo (HasR a b bd.toNat) C0 l0/\LsTo (HasR (-2*a) (a*a-4*b) bd.toNat) C1 l1/\LsTo (NotR a b ps) C0 m0/\LsTo (NotR (-2*a) (a*a-4*b) ps) C1 m1)
theorem J4 (l:List Nat):∀ (ps:List Nat) (p:Nat),p∈l.foldl prS ps↔p∈ps\/(p<=4096/\p∈l):=by
 induction l with
 | nil=>intro ps p;simp
 | cons x l ih =>
   intro ps p;rw[List.foldl_cons,ih];unfold prS;by_cases h:x<=4096/\x∉ps
   ·rw[if_pos h,List.mem_append,List.mem_singleton,List.mem_cons];constructor
    ·rintro ((h1|h1)|⟨h1,h2⟩)
     ·exact .inl h1
     ·subst h1;exact .inr ⟨h.1,.inl rfl⟩
     ·exact .inr ⟨h1,.inr h2⟩
    ·rintro (h1|⟨h1,h2|h2⟩)
     ·exact .inl (.inl h1)
     ·exact .inl (.inr h2)
     ·exact .inr ⟨h1,h2⟩
   ·rw[if_neg h,List.mem_cons];constructor
    ·rintro (h1|⟨h1,h2⟩)
     ·exact .inl h1
     ·exact .inr ⟨h1,.inr h2⟩
    ·rintro (h1|⟨h1,h2|h2⟩)
     ·exact .inl h1
     ·subst h2;refine .inl ?_;by_cases e:p∈ps
      ·exact e
      ·exact absurd ⟨h1,e⟩ h
     ·exact .inr ⟨h1,h2⟩
theorem PrTo.mem {b d:Int} {ps:List Nat} (h:PrTo b d ps) (p:Nat):p∈ps↔p=2\/(p<=4096/\Pri p/\(p∣b.natAbs\/p∣d.natAbs)):=by
 obtain⟨P,Q,hP,hQ,rfl⟩:=h;rw[J4,List.mem_singleton,List.map_append,List.mem_append];have e1:p∈P.map Prod.fst↔Pri p/\p∣b.natAbs:=hP.prs.2 p;have e2:p∈Q.map Prod.fst↔Pri p/\p∣d.natAbs:=hQ.prs.2 p;rw[e1,e2];constructor
 ·rintro (h|⟨h1,⟨h2,h3⟩|⟨h2,h3⟩⟩)
  ·exact .inl h
  ·exact .inr ⟨h1,h2,.inl h3⟩
  ·exact .inr ⟨h1,h2,.inr h3⟩
 ·rintro (h|⟨h1,h2,h3|h3⟩)
  ·exact .inl h
  ·exact .inr ⟨h1,.inl ⟨h2,h3⟩⟩
  ·exact .inr ⟨h1,.inr ⟨h2,h3⟩⟩
theorem JS:Pri 2:=⟨Nat.le_refl _,fun d h1 h2=>absurd h2 (by omega)⟩
theorem PrTo.pri {b d:Int} {ps:List Nat} (h:PrTo b d ps) {p:Nat} (hp:p∈ps):Pri p/\p<=4096:=by
 rcases (h.mem p).1 hp with rfl|⟨h1,h2,-⟩
 ·exact⟨JS,by decide⟩
 ·exact⟨h2,h1⟩
theorem Qaj {α : Type} {R:Int->Option α -> Prop} (f : α -> Int) (hf:∀ c q,R c (some q)->f q=c):∀ (C:List Int) (os:List (Option α)),os.length=C.length->(∀ i,i<C.length->R (C.getD i 0) (os.getD i none))->C.Pairwise (· < ·) ->
  (os.filterMap id).Pairwise (fun p q=>f p<f q)/\∀ q∈os.filterMap id,∃ c∈C,R c (some q)
 | [], os, h1, _, _ => by
   have:os=[]:=List.eq_nil_of_length_eq_zero h1;subst this;exact⟨List.Pairwise.nil,fun q hq=>by simp at hq⟩
 | c :: C,[],h1,_,_=>by simp at h1
 | c :: C, o :: os, h1, h2, h3 => by
   have h4:=List.pairwise_cons.1 h3
   obtain⟨k1,k2⟩:=Qaj f hf C os (by simpa using h1) (fun i hi=>by
    have:=h2 (i+1) (by simp only[List.length_cons];omega);simpa using this) h4.2
   have h0:R c o:=by
    have:=h2 0 (by simp);simpa using this
   cases o with
   | none =>
     rw[List.filterMap_cons_none rfl];refine⟨k1,fun q hq=>?_⟩;obtain⟨c',hc,hr⟩:=k2 q hq;exact⟨c',List.mem_cons_of_mem _ hc,hr⟩
   | some q0 =>
     rw[List.filterMap_cons_some (f:=id) (b:=q0) rfl];refine⟨List.pairwise_cons.2 ⟨fun q hq=>?_,k1⟩,fun q hq=>?_⟩
     ·obtain⟨c',hc,hr⟩:=k2 q hq;rw[hf c q0 h0,hf c' q hr];exact h4.1 c' hc
     ·rcases List.mem_cons.1 hq with rfl|hq
      ·exact⟨c,List.mem_cons_self,h0⟩
      ·obtain⟨c',hc,hr⟩:=k2 q hq;exact⟨c',List.mem_cons_of_mem _ hc,hr⟩
theorem LsTo.pw {α : Type} {R:Int->Option α -> Prop} {C:List Int} {l:List α} (h:LsTo R C l) (f : α -> Int) (hf:∀ c q,R c (some q)->f q=c) (hC:C.Pairwise (· < ·)) :
  l.Pairwise (fun p q=>f p<f q)/\∀ q∈l,∃ c∈C,R c (some q):=by
 obtain⟨os,h1,h2,rfl⟩:=h;exact Qaj f hf C os h1 h2 hC
theorem HasR.fst {a b:Int} {bd:Nat} (c:Int) (q:Int×Int×Int×Int) (h:HasR a b bd c (some q)):q.1=c:=by
 obtain⟨m,e,n,-,rfl⟩:=h;rfl
theorem NotR.fst {a b:Int} {ps:List Nat} (c:Int) (q:Int×Int×Int) (h:NotR a b ps c (some q)):q.1=c:=by
 obtain⟨m,e,-,rfl⟩:=h;rfl
theorem Qg7 {α : Type} {l:List α} {f : α -> Int} (h:l.Pairwise (fun p q=>f p<f q)) (d : α) (i:Nat) (hi:i<l.length) (h0:0<i):f (l.getD (i-1) d)<f (l.getD i d):=by
 have:=List.pairwise_iff_getElem.1 h (i-1) i (by omega) hi (by omega);rwa [Zk3,Zk4 (show i-1<l.length by omega),Zk3,Zk4 hi]
theorem Ji {α : Type} {l:List α} {i:Nat} (hi:i<l.length) (d : α):l.getD i d∈l:=by
 rw[Zk3,Zk4 hi];exact List.getElem_mem _
theorem PtTo.hold {x y z:Int} {bd m e n:Nat} (h:PtTo x y z bd m e n true):YT x y z x m e n=true:=by
 rcases h with ⟨-,-,-,⟨h1,h2,h3⟩,-⟩|⟨h,-⟩
 ·unfold YT;rw[Bool.and_eq_true,Bool.and_eq_true,decide_eq_true_iff,decide_eq_true_iff,decide_eq_true_iff];exact⟨h1,rfl,h3.symm⟩
 ·cases h
theorem ObTo.sol {x y z:Int} {ps:List Nat} {p k:Nat} (h:ObTo x y z ps x p k true) (hx:x≠0) (hz:z≠0) (hp:∀ p∈ps,Pri p/\p<=4096):QaK x y z p k=(false,0):=by
 unfold QaK;rw[if_neg (by rintro (e|e);exact hx e;exact hz e)];rcases h with ⟨h0,h1,rfl,rfl,-⟩|⟨h0,h1,h2,h3,h4,i,h5,h6,-⟩|⟨-,-,-,-,h,-⟩
 ·rw[if_pos ⟨rfl,rfl⟩,h0]
 ·have hm:=hp p (by rw[<- h6];exact Ji h5 0);have aA:=hm.1.1;obtain⟨k1,k2,k3⟩:=h3;have hk:=Ju aA k2;have em:min ((k:Int).toNat) 20=k:=by omega
  have ep:((p:Int)).toNat=p:=rfl;have n1:¬ ((p:Int)=0/\(k:Int)=0):=by omega
  have n2:¬ ((p:Int)<2\/(k:Int)<1):=by omega
  have n3:¬ 4096<p ^ k:=Nat.not_lt.2 k2;have n4:¬ QaP p=false:=by rw[QdM.2 hm.1];exact Bool.noConfusion
  rw[if_neg n1,if_neg n2,em,ep,if_neg n3,if_neg n4,k3]
 ·cases h
theorem Qju {a b:Int} {bd:Nat} {C:List Int} {l:List (Int×Int×Int×Int)} (hC:Cand b.natAbs C) (h:LsTo (HasR a b bd) C l) (i:Nat) (hi:i<l.length):Qaz a b C l i:=by
 obtain⟨h1,h2⟩:=h.pw Prod.fst HasR.fst hC.1;obtain⟨c,hc,hr⟩:=h2 _ (Ji hi (0,0,0,0));refine⟨fun h0=>Qg7 h1 _ i hi h0,?_,?_⟩
 ·rw[hr.fst];exact hc
 ·obtain⟨m,e,n,hp,he⟩:=hr;rw[he];exact hp.hold
theorem QiB {b:Int} {C:List Int} (hC:Cand b.natAbs C) (hb:b≠0) {c:Int} (hc:c∈C):c≠0/\c∣b/\b/c≠0:=by
 obtain⟨h1,-,h3⟩:=(hC.2 c).1 hc;have h4:c∣b:=Int.natAbs_dvd_natAbs.1 h3;refine⟨by omega,h4,fun e=>hb ?_⟩;have:=Int.ediv_mul_cancel h4;rw[e,Int.zero_mul] at this;exact this.symm
theorem Qjg {a b:Int} {ps:List Nat} {C:List Int} {l:List (Int×Int×Int)} (hb:b≠0) (hC:Cand b.natAbs C) (hps:∀ p∈ps,Pri p/\p<=4096) (h:LsTo (NotR a b ps) C l) (i:Nat) (hi:i<l.length):Qay a b C l i:=by
 obtain⟨h1,h2⟩:=h.pw Prod.fst NotR.fst hC.1;obtain⟨c,hc,hr⟩:=h2 _ (Ji hi (0,0,0));refine⟨fun h0=>Qg7 h1 _ i hi h0,?_,?_⟩
 ·rw[hr.fst];exact hc
 ·obtain⟨p,k,hp,he⟩:=hr;rw[he];obtain⟨d1,-,d3⟩:=QiB hC hb hc;exact hp.sol d1 d3 hps
theorem MkTo.chk {a b bd:Int} {l0 l1:List (Int×Int×Int×Int)} {m0 m1:List (Int×Int×Int)} (h:MkTo a b bd l0 l1 m0 m1 0):ChkTo a b l0 l1 m0 m1 0:=by
 rcases h with ⟨h1,h2,-⟩|⟨-,-,h,-⟩|⟨h1,h2,-,C0,C1,ps,c0,c1,hp,a0,a1,b0,b1⟩
 ·exact absurd h2.symm h1
 ·cases h
 ·obtain⟨r1,r2,-,-⟩:=Yj h1;exact .inr (.inl ⟨h1,⟨⟨C0,c0,Qju c0 a0,Qjg r1 c0 (fun p h=>hp.pri h) b0⟩,⟨C1,c1,Qju c1 a1,Qjg r2 c1 (fun p h=>hp.pri h) b1⟩⟩,rfl⟩)
theorem MkTo.uniq {a b bd:Int} {l0 l1 l0' l1':List (Int×Int×Int×Int)} {m0 m1 m0' m1':List (Int×Int×Int)} {c c':Int} (h:MkTo a b bd l0 l1 m0 m1 c) (h':MkTo a b bd l0' l1' m0' m1' c'):c=c'/\l0=l0'/\l1=l1':=by
 rcases h with ⟨h1,h2,rfl,rfl,-⟩|⟨h1,h2,h3,rfl,rfl,-⟩|⟨h1,h2,h3,C0,C1,ps,c0,c1,hp,a0,a1,b0,b1⟩ <;>
  rcases h' with ⟨k1,k2,rfl,rfl,-⟩|⟨k1,k2,k3,rfl,rfl,-⟩|⟨k1,k2,k3,D0,D1,qs,d0,d1,kp,e0,e1,f0,f1⟩
 ·exact⟨h2.trans k2.symm,rfl,rfl⟩
 ·exact absurd k1 h1
 ·exact absurd k1 h1
 ·exact absurd h1 k1
 ·exact⟨h3.trans k3.symm,rfl,rfl⟩
 ·exact absurd k2 h2
 ·exact absurd h1 k1
 ·exact absurd h2 k2
 ·have g0:=c0.uniq d0;have g1:=c1.uniq d1;subst g0 g1;exact⟨h3.trans k3.symm,a0.uniq (fun c o o' h h'=>HasR.uniq (a:=a) (b:=b) (bd:=bd.toNat) (c:=c) (o:=o) (o':=o') h h') e0,a1.uniq (fun c o o' h h'=>HasR.uniq (a:=-2*a) (b:=a*a-4*b) (bd:=bd.toNat) (c:=c) (o:=o) (o':=o') h h') e1⟩
