/-
  descent.right: the walk.
-/
import Derived.Test.YteidokhjmbihlaaGreatDJ
import Derived.Test.YteidokhjmbihlaaGreatFF
import Derived.Test.YteidokhjmbihlaaGreatDA
import Derived.Test.YteidokhjmbihlaaGreatDK
set_option linter.all false
set_option maxRecDepth 100000
set_option maxHeartbeats 4000000
namespace Go.Proofs.YteidokhjmbihlaaGreat
open Go.RowKit
structure Kp (P:World->Prop):Prop where
 up:∀ {w w':World},P w->Below w.heap.size w w'->P w'
theorem Kp.dr {P:World->Prop} (k:Kp P) {w:World} (h:P w):P w.drew:=k.up h (Below.refl _ _).drew
theorem Kp.and {P Q:World->Prop} (h:Kp P) (k:Kp Q):Kp fun w=>P w/\Q w:=⟨fun a hb=>⟨h.up a.1 hb,k.up a.2 hb⟩⟩
theorem Kp.it (v:Value) (z:Int):Kp fun w=>It w v z:=⟨fun h hb=>h.up hb⟩
theorem Kp.sr {α : Type} (E:Elt α) (v:Value) (l:List α):Kp fun w=>Sr E w v l:=⟨fun h hb=>h.up hb⟩
theorem Kp.so {α : Type} (E:Elt α) (b:Nat) (v:Value) (l:List α):Kp fun w=>So E w b v l:=⟨fun h hb=>h.up hb⟩
theorem Kp.vx (B:Nat) (z:Int):Kp fun w=>Vx w B z:=⟨fun h hb=>h.up hb⟩
theorem Kp.blk (B:Nat) (o:Obj):Kp fun w=>w.heap[B]? = some o:=⟨fun h hb=>(hb.block _ (Ql h).1).trans h⟩
theorem Kp.bl (w0:World):Kp fun w=>Below w0.heap.size w0 w:=⟨fun h hb=>Bl.up h hb⟩
theorem Kp.lt (B:Nat):Kp fun w=>B<w.heap.size:=⟨fun h hb=>Nat.lt_of_lt_of_le h hb.size⟩
theorem Kp.le (B:Nat):Kp fun w=>B<=w.heap.size:=⟨fun h hb=>Qt h hb.size⟩
theorem Kp.cl (B o:Nat) (x:Value):Kp fun w=>w.cell? ⟨B,o,none⟩=some x:=⟨fun h hb=>QaD hb h⟩
theorem Kp.no (p:Prop):Kp fun _=>p:=⟨fun h _=>h⟩
theorem Kp.qx (v:Value) (a b:Int):Kp fun w=>Qx w v a b:=⟨fun h hb=>h.up hb⟩
theorem Kp.sx (v:Value) (a b c:Int):Kp fun w=>Sx w v a b c:=⟨fun h hb=>h.up hb⟩
theorem Kp.fnd (v:Value) (b m e n:Int):Kp fun w=>Fnd w v b m e n:=⟨fun h hb=>h.up hb⟩
theorem kpc {P:World->Prop} (h:Kp P:=by(repeat' first|exact Kp.it _ _|exact Kp.cl _ _ _|exact Kp.sr _ _ _|exact Kp.blk _ _|exact Kp.bl _|exact Kp.so _ _ _ _|exact Kp.vx _ _|exact Kp.lt _|exact Kp.le _|refine Kp.and ?_ ?_)):Kp P:=h
theorem Kp.bk2 (B:Nat) (x0 x1:Value):Kp fun w=>bc2 w B x0 x1:=by unfold bc2;exact kpc
theorem Kp.bk4 (B:Nat) (x0 x1 x2 x3:Value):Kp fun w=>bc4 w B x0 x1 x2 x3:=by unfold bc4;exact kpc
theorem Kp.bk6 (B:Nat) (x0 x1 x2 x3 x4 x5:Value):Kp fun w=>bc6 w B x0 x1 x2 x3 x4 x5:=by unfold bc6;exact kpc
theorem Kp.bk8 (B:Nat) (x0 x1 x2 x3 x4 x5 x6 x7:Value):Kp fun w=>bc8 w B x0 x1 x2 x3 x4 x5 x6 x7:=by unfold bc8;exact kpc
theorem Kp.ck2 (B o:Nat) (x0 x1:Value):Kp fun w=>rc2 w B o x0 x1:=by unfold rc2;exact kpc
theorem Kp.ck4 (B o:Nat) (x0 x1 x2 x3:Value):Kp fun w=>rc4 w B o x0 x1 x2 x3:=by unfold rc4;exact kpc
theorem Kp.ck8 (B o:Nat) (x0 x1 x2 x3 x4 x5 x6 x7:Value):Kp fun w=>rc8 w B o x0 x1 x2 x3 x4 x5 x6 x7:=by unfold rc8;exact kpc
theorem kpf {P:World->Prop} (h:Kp P:=by(repeat' first|exact Kp.it _ _|exact Kp.cl _ _ _|exact Kp.sr _ _ _|exact Kp.blk _ _|exact Kp.bl _|exact Kp.so _ _ _ _|exact Kp.vx _ _|exact Kp.lt _|exact Kp.le _|exact Kp.qx _ _ _|exact Kp.sx _ _ _ _|exact Kp.fnd _ _ _ _ _|exact Kp.bk2 _ _ _|exact Kp.bk4 _ _ _ _ _|exact Kp.bk6 _ _ _ _ _ _ _|exact Kp.bk8 _ _ _ _ _ _ _ _ _|exact Kp.ck2 _ _ _ _|exact Kp.ck4 _ _ _ _ _ _|exact Kp.ck8 _ _ _ _ _ _ _ _ _ _|refine Kp.and ?_ ?_|exact Kp.no _)):Kp P:=h
structure Nx (w w':World) (A B:Prop):Prop where
 go:Below w.heap.size w w'->A->B
section
variable {w w':World}
theorem Nx.of {P:World->Prop} (k:Kp P):Nx w w' (P w) (P w'):=⟨fun hb h=>k.up h hb⟩
theorem nIt {v:Value} {z:Int}:Nx w w' (It w v z) (It w' v z):=Nx.of (Kp.it v z)
theorem nSr {α : Type} {E:Elt α} {v:Value} {l:List α}:Nx w w' (Sr E w v l) (Sr E w' v l):=Nx.of (Kp.sr E v l)
theorem nSo {α : Type} {E:Elt α} {b:Nat} {v:Value} {l:List α}:Nx w w' (So E w b v l) (So E w' b v l):=Nx.of (Kp.so E b v l)
theorem nVx {B:Nat} {z:Int}:Nx w w' (Vx w B z) (Vx w' B z):=Nx.of (Kp.vx B z)
theorem nBk {B:Nat} {o:Obj}:Nx w w' (w.heap[B]? = some o) (w'.heap[B]? = some o):=Nx.of (Kp.blk B o)
theorem nBl {w0:World}:Nx w w' (Below w0.heap.size w0 w) (Below w0.heap.size w0 w'):=Nx.of (Kp.bl w0)
theorem nCl {B o:Nat} {x:Value}:Nx w w' (w.cell? ⟨B,o,none⟩=some x) (w'.cell? ⟨B,o,none⟩=some x):=Nx.of (Kp.cl B o x)
theorem nLe {B:Nat}:Nx w w' (B<=w.heap.size) (B<=w'.heap.size):=Nx.of (Kp.le B)
theorem nLt {B:Nat}:Nx w w' (B<w.heap.size) (B<w'.heap.size):=Nx.of (Kp.lt B)
theorem nB2 {B:Nat} {x0 x1:Value}:Nx w w' (bc2 w B x0 x1) (bc2 w' B x0 x1):=Nx.of (Kp.bk2 B x0 x1)
theorem nB4 {B:Nat} {x0 x1 x2 x3:Value}:Nx w w' (bc4 w B x0 x1 x2 x3) (bc4 w' B x0 x1 x2 x3):=Nx.of (Kp.bk4 B x0 x1 x2 x3)
theorem nB6 {B:Nat} {x0 x1 x2 x3 x4 x5:Value}:Nx w w' (bc6 w B x0 x1 x2 x3 x4 x5) (bc6 w' B x0 x1 x2 x3 x4 x5):=Nx.of (Kp.bk6 B x0 x1 x2 x3 x4 x5)
theorem nB8 {B:Nat} {x0 x1 x2 x3 x4 x5 x6 x7:Value}:Nx w w' (bc8 w B x0 x1 x2 x3 x4 x5 x6 x7) (bc8 w' B x0 x1 x2 x3 x4 x5 x6 x7):=Nx.of (Kp.bk8 B x0 x1 x2 x3 x4 x5 x6 x7)
theorem nC2 {B o:Nat} {x0 x1:Value}:Nx w w' (rc2 w B o x0 x1) (rc2 w' B o x0 x1):=Nx.of (Kp.ck2 B o x0 x1)
theorem nC4 {B o:Nat} {x0 x1 x2 x3:Value}:Nx w w' (rc4 w B o x0 x1 x2 x3) (rc4 w' B o x0 x1 x2 x3):=Nx.of (Kp.ck4 B o x0 x1 x2 x3)
theorem nC8 {B o:Nat} {x0 x1 x2 x3 x4 x5 x6 x7:Value}:Nx w w' (rc8 w B o x0 x1 x2 x3 x4 x5 x6 x7) (rc8 w' B o x0 x1 x2 x3 x4 x5 x6 x7):=Nx.of (Kp.ck8 B o x0 x1 x2 x3 x4 x5 x6 x7)
theorem nAn {A A' B B':Prop} (h:Nx w w' A B) (k:Nx w w' A' B'):Nx w w' (A/\A') (B/\B'):=⟨fun hb a=>⟨h.go hb a.1,k.go hb a.2⟩⟩
theorem nNo {A:Prop}:Nx w w' A A:=⟨fun _ a=>a⟩
theorem nKp {P:World->Prop} (k:Kp P):Nx w w' (P w) (P w'):=Nx.of k
theorem nQx {v:Value} {a b:Int}:Nx w w' (Qx w v a b) (Qx w' v a b):=Nx.of (Kp.qx v a b)
theorem nSx {v:Value} {a b c:Int}:Nx w w' (Sx w v a b c) (Sx w' v a b c):=Nx.of (Kp.sx v a b c)
theorem nFn {v:Value} {b m e n:Int}:Nx w w' (Fnd w v b m e n) (Fnd w' v b m e n):=Nx.of (Kp.fnd v b m e n)
theorem nu (hb:Below w.heap.size w w') {A B:Prop} (h:A) (k:Nx w w' A B:=by(repeat' first|apply nAn|exact nB4|exact nB2|exact nB8|exact nB6|exact nC8|exact nC2|exact nC4|exact nIt|exact nCl|exact nBk|exact nBl|exact nSr|exact nSo|exact nQx|exact nSx|exact nFn|exact nVx|exact nLe|exact nLt|exact nKp (by assumption)|exact nNo)):B:=k.go hb h
theorem hu (hb:Below w.heap.size w w') {A B:Prop} (h:Hid A) (k:Nx w w' A B:=by(repeat' first|apply nAn|exact nIt|exact nBl|exact nSr|exact nBk|exact nSo|exact nQx|exact nSx|exact nFn|exact nVx|exact nCl|exact nLe|exact nLt|exact nKp (by assumption)|exact nNo)):Hid B:=Qh (k.go hb h.out)
end
theorem mn {P:Program} {f:FuncId} {ar:Array Value} {w:World} {A B:World->Value->Prop} {R:Ending->World->Prop} (h:Calls P f ar w fun e w'=>∃ v,e=.returned v/\A w' v/\B w' v) (k:∀ v w',A w' v->B w' v->R (.returned v) w'):Calls P f ar w R:=h.mono fun e w' ⟨v,e1,a,b⟩=>by subst e1;exact k v w' a b
theorem mz {P:Program} {f:FuncId} {ar:Array Value} {w:World} {c:Value} {B:World->Prop} {R:Ending->World->Prop} (h:Calls P f ar w fun e w'=>e=.returned c/\B w') (k:∀ w',B w'->R (.returned c) w'):Calls P f ar w R:=h.mono fun e w' ⟨e1,b⟩=>by subst e1;exact k w' b
theorem kpe (P:World->Prop) (h:Kp P:=by exact kpf):∃ F:World->Prop,(∀ w',F w'↔P w')/\Kp F:=⟨P,fun _=>Iff.rfl,h⟩
structure Kq (D:Nat->Prop) (P:World->Prop):Prop where
 fr:∀ {S:Nat->Prop} {w w':World},P w->ButS S w w'->(∀ g,S g->NoW w g)->(∀ g,D g->¬ S g)->P w'
section
variable {D:Nat->Prop}
theorem Kq.kp {P:World->Prop} (k:Kq D P):Kp P:=⟨fun h hb=>k.fr h (ButS.of hb (fun _=>False)) (fun _ h=>h.elim) (fun _ _ h=>h)⟩
theorem Kq.mono {D':Nat->Prop} {P:World->Prop} (k:Kq D P) (hD:∀ g,D g->D' g):Kq D' P:=⟨fun h hb hn hd=>k.fr h hb hn (fun g hg=>hd g (hD g hg))⟩
theorem Kq.and {P Q:World->Prop} (h:Kq D P) (k:Kq D Q):Kq D fun w=>P w/\Q w:=⟨fun a hb hn hd=>⟨h.fr a.1 hb hn hd,k.fr a.2 hb hn hd⟩⟩
theorem Kq.it (v:Value) (z:Int):Kq D fun w=>It w v z:=⟨fun h hb hn _=>h.fr hb hn⟩
theorem Kq.sr {α : Type} (E:Elt α) (v:Value) (l:List α) (hD:∀ g,v.ownBlock=some g->D g):Kq D fun w=>Sr E w v l:=⟨fun h hb hn hd=>h.fr hb hn (fun _ g hg hs=>hd g (hD g hg) hs)⟩
theorem Kq.so {α : Type} (E:Elt α) (b:Nat) (v:Value) (l:List α) (hD:∀ g,v.ownBlock=some g->D g):Kq D fun w=>So E w b v l:=⟨fun h hb hn hd=>h.fr hb hn (fun g hg hs=>hd g (hD g hg) hs)⟩
theorem Kq.vx (B:Nat) (z:Int) (hD:D B):Kq D fun w=>Vx w B z:=⟨fun h hb hn hd=>h.fr hb hn (hd B hD)⟩
theorem Kq.blk (B:Nat) (o:Obj) (hD:D B):Kq D fun w=>w.heap[B]? = some o:=⟨fun h hb _ hd=>(hb.block _ (Ql h).1 (hd B hD)).trans h⟩
theorem Kq.bl (w0:World) (hD:∀ g,g<w0.heap.size->D g):Kq D fun w=>Below w0.heap.size w0 w:=⟨fun h hb _ hd=>ButS.below h hb h.size (fun g hg=>(Nat.lt_or_ge g w0.heap.size).elim (fun hl=>absurd hg (hd g (hD g hl))) id)⟩
theorem Kq.lt (B:Nat):Kq D fun w=>B<w.heap.size:=⟨fun h hb _ _=>Nat.lt_of_lt_of_le h hb.size⟩
theorem Kq.le (B:Nat):Kq D fun w=>B<=w.heap.size:=⟨fun h hb _ _=>Qt h hb.size⟩
end
section
variable {P:Program} {ops:Array Oper} {Q:Exit->Act->World->Prop} {md:Region.Mode} {S:World->Prop} {st:List Nat}
theorem tS (i:Nat) {oi:Oper} {v:Value} {fuel:Nat} {listed:Array Bool} {a:Act} {w:World} {G:Prop} (hi:ops[i]? = some oi) (h:G)
  (hB:okK md ops st listed i=true:=by as_aux_lemma=>kernel_rfl)
  (hQ:∀ c a w,Q (.panic c) (a.put oi.dst v) w->Q (.panic c) a w:=by exact fun _ _ _ h=>h)
  (hy:YieldsIf P ops S oi v a:=by exact Or.inl ⟨by rfl,by(intro w aA;(try simp only[bc2,bc4,bc6,bc8,rc2,rc4,rc8] at aA);go_simp;all_goals (with_reducible rfl))⟩)
  (hS:S w:=by assumption)
  (e:Qa0 P md ops Q S st fuel (listed.setIfInBounds i true) (a.put oi.dst v) w=G:=by(try simp only[lay,List.getElem_toArray,List.getElem_cons_succ,List.getElem_cons_zero]);exact rfl):Qa0 P md ops Q S st (fuel+1) listed a w:=tK i hi (e▸h) hB hQ hy hS
end
theorem Sc.fd {w:World} {b off:Nat} {l:List (Int×Int×Int×Int)} (h:Sc eFd w b off l) {i:Nat} (hi:i<l.length) :
  ∃ s1 a1 n1 k1 s2 a2 n2 k2 s3 a3 n3 k3 s4 a4 n4 k4,rc8 w b (off+i*8) (.bool s1) (.slice a1 n1 k1) (.bool s2) (.slice a2 n2 k2) (.bool s3) (.slice a3 n3 k3) (.bool s4) (.slice a4 n4 k4) /\
   Fnd w (Qly s1 a1 n1 k1 s2 a2 n2 k2 s3 a3 n3 k3 s4 a4 n4 k4) (l.getD i (0,0,0,0)).1 (l.getD i (0,0,0,0)).2.1 (l.getD i (0,0,0,0)).2.2.1 (l.getD i (0,0,0,0)).2.2.2/\It w (Qlv s1 a1 n1 k1) (l.getD i (0,0,0,0)).1:=by
 obtain⟨cs,⟨s1,a1,n1,k1,s2,a2,n2,k2,s3,a3,n3,k3,s4,a4,n4,k4,rfl,h1,h2,h3,h4⟩,hc⟩:=h i hi;have e:l.getD i (0,0,0,0)=l[i]:=by simp[Zk3,Zk4 hi]
 rw[e];exact⟨s1,a1,n1,k1,s2,a2,n2,k2,s3,a3,n3,k3,s4,a4,n4,k4,⟨hc 0 _ rfl,hc 1 _ rfl,hc 2 _ rfl,hc 3 _ rfl,hc 4 _ rfl,hc 5 _ rfl,hc 6 _ rfl,hc 7 _ rfl⟩,⟨s1,a1,n1,k1,s2,a2,n2,k2,s3,a3,n3,k3,s4,a4,n4,k4,rfl,h1,h2,h3,h4⟩,h1⟩
theorem Sc.is {w:World} {b off:Nat} {l:List (Int×Int×Int)} (h:Sc eIs w b off l) {i:Nat} (hi:i<l.length) :
  ∃ s1 a1 n1 k1,rc4 w b (off+i*4) (.bool s1) (.slice a1 n1 k1) (.int .i64 (l.getD i (0,0,0)).2.1) (.int .i64 (l.getD i (0,0,0)).2.2)/\It w (Qlv s1 a1 n1 k1) (l.getD i (0,0,0)).1:=by
 obtain⟨cs,⟨s1,a1,n1,k1,rfl,h1⟩,hc⟩:=h i hi;have e:l.getD i (0,0,0)=l[i]:=by simp[Zk3,Zk4 hi]
 rw[e];exact⟨s1,a1,n1,k1,⟨hc 0 _ rfl,hc 1 _ rfl,hc 2 _ rfl,hc 3 _ rfl⟩,h1⟩
attribute [local go_sem ↓] Go.wp_at_zero Go.wp_at_succ
theorem Qcj {a b:Int} {l:List (Int×Int×Int×Int)} {m:List (Int×Int×Int)} {C:List Int} (hC:Cand b.natAbs C) {i:Nat} (hi:i<l.length) (h:¬ Qaz a b C l i):¬ Qaw a b l m:=by
 rintro⟨C',hC',h1,-⟩;have e:=hC.uniq hC';subst e;exact h (h1 i hi)
theorem QbW {a b:Int} {l:List (Int×Int×Int×Int)} {m:List (Int×Int×Int)} {C:List Int} (hC:Cand b.natAbs C) {i:Nat} (hi:i<m.length) (h:¬ Qay a b C m i):¬ Qaw a b l m:=by
 rintro⟨C',hC',-,h1⟩;have e:=hC.uniq hC';subst e;exact h (h1 i hi)
theorem Qk3 {p:Prop} (h:¬ p):(false=true↔p):=⟨fun e=>Bool.noConfusion e,fun e=>absurd e h⟩
theorem QeJ {p q:Prop} (h:¬ p) (k:q):∃ r:Bool,Ending.returned (.bool false)=Ending.returned (.bool r)/\(r=true↔p)/\q:=⟨false,rfl,Qk3 h,k⟩
theorem Qan (b x:Int):sz (b/x)<=sz b:=Y2 (Int.natAbs_ediv_le_natAbs b x)
theorem Qdw (va vl vm:Value) (a b:Int) (l:List (Int×Int×Int×Int)) (m:List (Int×Int×Int)) (w:World) (h:Qx w va a b) (hl:Sr eFd w vl l) (hm:Sr eIs w vm m)
  (hb0:b≠0) (hbl:b.natAbs<1099511627776) (hsa:sz a<=1000000) (hsb:sz b<=1000000) (hL:l.length<=549755813888) (hM:m.length<=549755813888)
  (hsl:∀ f∈l,sz f.1<=1000000/\sz f.2.1<=1000000/\sz f.2.2.1<=1000000/\sz f.2.2.2<=1000000)
  (hsm:∀ f∈m,sz f.1<=1000000 /\ -9223372036854775808<=f.2.1/\f.2.1<=9223372036854775807 /\ -9223372036854775808<=f.2.2/\f.2.2<=9223372036854775807) :
  Calls Tryz.prog 96 #[va,vl,vm] w fun e' w'=>∃ r:Bool,e'=.returned (.bool r)/\(r=true↔Qaw a b l m)/\Below w.heap.size w w':=by
 have hQ:=h;obtain⟨s1,a1,n1,g1,s2,a2,n2,g2,rfl,-,hB⟩:=h;obtain⟨aL,cL,rfl,-⟩:=id hl;obtain⟨aM,cM,rfl,-⟩:=id hm;obtain⟨F,bC,kF⟩:=kpe (fun w'=>w'.heap[w.heap.size]? = some (Qls 125 s1 a1 n1 g1 s2 a2 n2 g2)/\Qx w' (Qlw s1 a1 n1 g1 s2 a2 n2 g2) a b/\It w' (Qlv s2 a2 n2 g2) b/\Sr eFd w' (.slice aL l.length cL) l/\Sr eIs w' (.slice aM m.length cM) m/\Below w.heap.size w w');have aD:=Qh bC;clear bC;have HF:Hid (F (w.alloc (Qls 125 s1 a1 n1 g1 s2 a2 n2 g2))):=Qh ((aD.out _).2 ⟨Zk1 _ _,hQ.up (Qc _ _),hB.up (Qc _ _),hl.up (Qc _ _),hm.up (Qc _ _),Qc _ _⟩);clear hQ hB hl hm;go_enter Tryz.func96,Tryz.ntmps96
 go_upto_region 1 with fail;generalize w.alloc (Qls 125 s1 a1 n1 g1 s2 a2 n2 g2)=W at *;obtain⟨p0,p1,p2,p3⟩:=Qa3 ((aD.out _).1 HF.out).1;go_wp2_with fail;refine(Qb1 _ b W ((aD.out _).1 HF.out).2.2.1 hb0 hbl).mono ?_;rintro e w1 ⟨vC,C,P,rfl,hO,hC,hP,aZ,hb⟩;have kG:Kp fun w'=>F w'/\Sr eI w' vC C:=kF.and (Kp.sr eI vC C);have HG:Hid (F w1/\Sr eI w1 vC C):=Qh ⟨kF.up HF.out hb,hO.sr⟩;have aH:=Qh hC;have bD:=Qh (QhM hC (by omega) hbl)
 have bE:=Qh (show C.length<=1099511627776 from by
  have h1:=hP.few hbl;have h2:2 ^ P.length<=2 ^ 25:=Nat.pow_le_pow_right (by decide) h1;omega)
 clear hb hO hC hP aZ p0 p1 p2 p3 HF;go_wp2_with fail
 go_loopw [6,8,9,19] (fun _ _ _ s19 wr=>∃ i:Nat,s19=.int .i64 (i:Int)/\i<=l.length/\Hid (∀ j,j<i->Qaz a b C l j)/\Hid (F wr/\Sr eI wr vC C))
  (fun _ _ _ s19 _=>l.length-(intOf s19).toNat)
 case atStart=>exact⟨0,rfl,Nat.zero_le _,Qh (fun j h=>absurd h (Nat.not_lt_zero _)),HG⟩
 case round=>
  obtain⟨i,rfl,hi,HO,aF⟩:=hrel;by_cases hlt:i<l.length
  ·obtain⟨j,hj⟩:∃ j,j=i-1:=⟨_,rfl⟩;have aQ:j<l.length:=by omega
   obtain⟨bL,aI,rfl,-,aK⟩:=((aD.out _).1 aF.out.1).2.2.2.1.at hlt;obtain⟨s3,a3,n3,k3,s4,a4,n4,k4,s5,a5,n5,k5,s6,a6,n6,k6,hc,bB,hx⟩:=aK.fd hlt;obtain⟨t3,d3,o3,q3,t4,d4,o4,q4,t5,d5,o5,q5,t6,d6,o6,q6,hd,-,hy⟩:=aK.fd aQ;have aE:=Ji hlt (0,0,0,0);have aR:=Ji aQ (0,0,0,0);have aG:=Qh (show (Qaz a b C l i↔((0<i->(l.getD j (0,0,0,0)).1<(l.getD i (0,0,0,0)).1)/\(l.getD i (0,0,0,0)).1∈C/\YT (l.getD i (0,0,0,0)).1 a (b/(l.getD i (0,0,0,0)).1) (l.getD i (0,0,0,0)).1 (l.getD i (0,0,0,0)).2.1 (l.getD i (0,0,0,0)).2.2.1 (l.getD i (0,0,0,0)).2.2.2=true)) from by rw[hj];rfl);generalize l.getD i (0,0,0,0)=x at *;generalize l.getD j (0,0,0,0)=y at *;have aP:=(hsl x aE).1;have aY:=(hsl x aE).2.1;have aX:=(hsl x aE).2.2.1;have aW:=(hsl x aE).2.2.2;have bF:=(hsl y aR).1;clear aE aR aK;have i0:(0:Int)<=(i:Int):=by omega
   have i1:(i:Int)<(l.length:Int):=by omega
   have i2:(j:Int)<(l.length:Int):=by omega
   have i4:(0:Int)<=(j:Int):=by omega
   obtain⟨p0,p1,p2,p3,p4,p5,p6,p7⟩:=hc;go_upto_region 5 with fail;clear p0 p1 p2 p3 p4 p5 p6 p7;obtain⟨B,aO⟩:∃ B,B=wr.heap.size:=⟨_,rfl⟩;have aS:rc2 wr bL (aI+j*8) (.bool t3) (.slice d3 o3 q3):=⟨hd.1,hd.2.1⟩;obtain⟨H,aU,kH⟩:∃ H:World->Prop,(∀ w',H w'->(F w'/\Sr eI w' vC C)/\w'.heap[B]? = some (Qlu 78 s3 a3 n3 k3 s4 a4 n4 k4 s5 a5 n5 k5 s6 a6 n6 k6)/\rc2 w' bL (aI+j*8) (.bool t3) (.slice d3 o3 q3)/\It w' (Qlv s3 a3 n3 k3) x.1/\It w' (Qlv t3 d3 o3 q3) y.1/\Fnd w' (Qly s3 a3 n3 k3 s4 a4 n4 k4 s5 a5 n5 k5 s6 a6 n6 k6) x.1 x.2.1 x.2.2.1 x.2.2.2)/\Kp H/\H (wr.alloc (Qlu 78 s3 a3 n3 k3 s4 a4 n4 k4 s5 a5 n5 k5 s6 a6 n6 k6)):=⟨fun w'=>(F w'/\Sr eI w' vC C)/\w'.heap[B]? = some (Qlu 78 s3 a3 n3 k3 s4 a4 n4 k4 s5 a5 n5 k5 s6 a6 n6 k6)/\rc2 w' bL (aI+j*8) (.bool t3) (.slice d3 o3 q3)/\It w' (Qlv s3 a3 n3 k3) x.1/\It w' (Qlv t3 d3 o3 q3) y.1/\Fnd w' (Qly s3 a3 n3 k3 s4 a4 n4 k4 s5 a5 n5 k5 s6 a6 n6 k6) x.1 x.2.1 x.2.2.1 x.2.2.2,fun _ h=>h,kG.and kpf,⟨aF.out.1 |> fun h=>kF.up h (Qc _ _),aF.out.2.up (Qc _ _)⟩,by rw[aO];exact Zk1 _ _,(Kp.ck2 _ _ _ _).up aS (Qc _ _),hx.up (Qc _ _),hy.up (Qc _ _),bB.up (Qc _ _)⟩;obtain⟨kH,hH⟩:=kH;have aB:=Qh aU;have HH:=Qh hH;clear aU hH hd aS hx hy bB aF;rw[<- aO];generalize wr.alloc (Qlu 78 s3 a3 n3 k3 s4 a4 n4 k4 s5 a5 n5 k5 s6 a6 n6 k6)=wa at *;clear aO;refine QaT (by kernel_rfl) [] (S:=fun w'=>Qmd w' B s3 a3 n3 k3 s4 a4 n4 k4 s5 a5 n5 k5 s6 a6 n6 k6/\Qmb w' w.heap.size s1 a1 n1 g1 s2 a2 n2 g2/\rc2 w' bL (aI+j*8) (.bool t3) (.slice d3 o3 q3)) ⟨QbM (aB.out _ HH.out).2.1,Qa3 ((aD.out _).1 (aB.out _ HH.out).1.1).1,(aB.out _ HH.out).2.2.1⟩ (fun aA=>?_);replace HH:=Qh (kH.dr HH.out);generalize wa.drew=wb at *;refine tS 0 rfl ?_;by_cases hc3:0<i
   case' pos=>
    have i5:(i:Int)>0:=by omega
    have i6:(i:Int)-1=(j:Int):=by omega
    have i7:IntKind.i64.wrap (j:Int)=(j:Int):=by rw[IntKind.wrap_i64];omega
    have i8:i-1=j:=hj.symm;clear hj;(refine tS 1 rfl ?_;refine tS 2 rfl ?_;refine tS 3 rfl ?_;refine tS 4 rfl ?_;refine tS 5 rfl ?_;refine tS 6 rfl ?_;refine tS 7 rfl ?_;refine tS 8 rfl ?_;refine tS 9 rfl ?_;refine tS 10 rfl ?_)
    (refine oL 11 rfl fun K hK=>tL ?_;go_simp);refine mz (Qbz _ _ y.1 x.1 _ (aB.out _ HH.out).2.2.2.2.1 (aB.out _ HH.out).2.2.2.1 (by omega) (by omega)) fun w5 hb=>?_;have aC:=nu hb aA;replace HH:=hu hb HH;clear hb;(go_wp2_with fail;clear aA;refine nxL hK aC fun aA=>tL ?_;clear hK);clear aC;by_cases hc4:y.1<x.1
    case neg=>
     have aJ:=Qh hc4;have d4:QaW y.1 x.1>=0:=by unfold QaW;rw[if_neg hc4];split <;> decide
     generalize QaW y.1 x.1=cc at *;clear hc4 i6 i7 i8;(refine tS 12 rfl ?_;refine tS 13 rfl ?_;refine tS 14 rfl ?_)
     (refine uL 15 rfl ?_;refine uL 16 rfl ?_;refine uL 17 rfl ?_;refine uL 18 rfl ?_;refine uL 19 rfl ?_)
     (refine tS 20 rfl ?_;refine tS 21 rfl ?_)
     (refine uL 22 rfl ?_;refine uL 23 rfl ?_;refine uL 24 rfl ?_;refine uL 25 rfl ?_;refine uL 26 rfl ?_;refine uL 27 rfl ?_;refine uL 28 rfl ?_)
     (refine tS 29 rfl ?_)
     refine dT ?_;clear aA;go_wp2_with fail;go_ret
     exact .inl ⟨rfl,fun h=>Qcj aH.out hlt (fun hh=>absurd ((aG.out.1 hh).1 hc3) (by have:=aJ.out;omega)) h,((aD.out _).1 (aB.out _ HH.out).1.1).2.2.2.2.2⟩
    have aJ:=Qh (fun _:0<i=>hc4);rw[Qbb hc4];clear hc4 i6 i7 i8;(refine tS 12 rfl ?_;refine tS 13 rfl ?_;refine tS 14 rfl ?_)
    generalize w5=wz at *
   case' neg=>
    have i5:¬ (i:Int)>0:=by omega
    have aJ:=Qh (fun h:0<i=>(absurd h hc3:y.1<x.1));clear hj;(refine tS 1 rfl ?_;refine tS 2 rfl ?_)
    (refine uL 3 rfl ?_;refine uL 4 rfl ?_;refine uL 5 rfl ?_;refine uL 6 rfl ?_;refine uL 7 rfl ?_;refine uL 8 rfl ?_;refine uL 9 rfl ?_;refine uL 10 rfl ?_;refine uL 11 rfl ?_;refine uL 12 rfl ?_)
    (refine tS 13 rfl ?_;refine tS 14 rfl ?_)
    generalize wb=wz at *
   all_goals
    (refine tS 15 rfl ?_;refine tS 16 rfl ?_;refine tS 17 rfl ?_)
    (refine oL 18 rfl fun K hK=>tL ?_;go_simp);refine mz (QcO _ _ C x.1 _ (aB.out _ HH.out).1.2 (aB.out _ HH.out).2.2.2.1 bE.out bD.out (by omega)) fun w6 hb=>?_;have aC:=nu hb aA;replace HH:=hu hb HH;clear hb;(go_wp2_with fail;clear aA;refine nxL hK aC fun aA=>tL ?_;clear hK);clear aC;by_cases hm:x.1∈C
    ·rw[decide_eq_true hm];have HM:=Qh hm;clear hm;(refine tS 19 rfl ?_;refine tS 20 rfl ?_;refine tS 21 rfl ?_;refine tS 22 rfl ?_;refine tS 23 rfl ?_;refine tS 24 rfl ?_;refine tS 26 rfl ?_)
     (refine oL 25 rfl fun K hK=>tL ?_;go_simp);refine(Qcb _ _ a b x.1 w6 ((aD.out _).1 (aB.out _ HH.out).1.1).2.1 (aB.out _ HH.out).2.2.2.1 (Yf aH.out HM.out).1 hsb aP).mono ?_;rintro e w7 ⟨v7,rfl,aT,hb⟩;have a7:=Qh aT;clear aT;have aC:=nu hb aA;replace HH:=hu hb HH;clear hb;(go_wp2_with fail;clear aA;refine nxL hK aC fun aA=>tL ?_;clear hK);clear aC;(refine oL 27 rfl fun K hK=>tL ?_;go_simp);refine mz (Qcd _ _ x.1 a (b/x.1) x.1 x.2.1 x.2.2.1 x.2.2.2 w7 a7.out (aB.out _ HH.out).2.2.2.2.2 aP hsa (Qt (Qan b x.1) hsb) aP aY aX aW) fun w8 hb=>?_;have aC:=nu hb aA;replace HH:=hu hb HH;clear hb;(go_wp2_with fail;clear aA;refine nxL hK aC fun aA=>tL ?_;clear hK);clear aC;by_cases hh:YT x.1 a (b/x.1) x.1 x.2.1 x.2.2.1 x.2.2.2=true
     ·have aV:=Qh hh;rw[hh];clear hh;(refine tS 28 rfl ?_;refine tS 29 rfl ?_)
      refine dT ?_;clear aA
      have a8:=Qh (show ∀ j',j'<i+1->Qaz a b C l j' from fun j' hj'=>by
       by_cases e:j'=i
       ·subst e;exact aG.out.2 ⟨aJ.out,HM.out,aV.out⟩
       ·exact HO.out j' (by omega))
      have a9:=Qh ((aB.out _ HH.out).1);clear HH kH aB;go_wp2_with fail;go_roundw
      case rel=>exact⟨i+1,by go_num,by omega,a8,a9⟩
      case measure=>simp[intOf];omega
     ·have aV:=Qh hh;rw[Bool.not_eq_true] at hh;rw[hh];clear hh;(refine tS 28 rfl ?_;refine tS 29 rfl ?_)
      refine dT ?_;clear aA;go_wp2_with fail;go_ret
      exact QeJ (fun h=>Qcj aH.out hlt (fun hh=>aV.out (aG.out.1 hh).2.2) h) ((aD.out _).1 (aB.out _ HH.out).1.1).2.2.2.2.2
    ·rw[decide_eq_false hm];have HM:=Qh hm;clear hm;(refine tS 19 rfl ?_;refine tS 20 rfl ?_;refine tS 21 rfl ?_)
     (refine uL 22 rfl ?_;refine uL 23 rfl ?_;refine uL 24 rfl ?_;refine uL 25 rfl ?_;refine uL 26 rfl ?_;refine uL 27 rfl ?_;refine uL 28 rfl ?_)
     (refine tS 29 rfl ?_)
     refine dT ?_;clear aA;go_wp2_with fail;go_ret
     exact QeJ (fun h=>Qcj aH.out hlt (fun hh=>HM.out (aG.out.1 hh).2.1) h) ((aD.out _).1 (aB.out _ HH.out).1.1).2.2.2.2.2
  ·have bI:=Qh (show ∀ j,j<l.length->Qaz a b C l j from fun j h=>HO.out j (by omega));have a0:i=l.length:=by omega
   subst a0;clear HO HG;have HG:=aF;clear aF;generalize wr=w1 at *;go_wp2_with fail
   go_loopw [6,10,11,12,13,57] (fun _ _ _ _ _ s57 wr=>∃ i:Nat,s57=.int .i64 (i:Int)/\i<=m.length/\Hid (∀ j,j<i->Qay a b C m j)/\Hid (F wr/\Sr eI wr vC C))
    (fun _ _ _ _ _ s57 _=>m.length-(intOf s57).toNat)
   case atStart=>exact⟨0,rfl,Nat.zero_le _,Qh (fun j h=>absurd h (Nat.not_lt_zero _)),HG⟩
   case round=>
    obtain⟨i,rfl,hi,HO,aF⟩:=hrel;by_cases hlt:i<m.length
    ·obtain⟨j,hj⟩:∃ j,j=i-1:=⟨_,rfl⟩;have aQ:j<m.length:=by omega
     obtain⟨bL,aI,rfl,-,aK⟩:=((aD.out _).1 aF.out.1).2.2.2.2.1.at hlt;obtain⟨s3,a3,n3,k3,hc,hx⟩:=aK.is hlt;obtain⟨t3,d3,o3,q3,hd,hy⟩:=aK.is aQ;have aE:=Ji hlt (0,0,0);have aR:=Ji aQ (0,0,0);have aG:=Qh (show (Qay a b C m i↔((0<i->(m.getD j (0,0,0)).1<(m.getD i (0,0,0)).1)/\(m.getD i (0,0,0)).1∈C/\QaK (m.getD i (0,0,0)).1 a (b/(m.getD i (0,0,0)).1) (m.getD i (0,0,0)).2.1 (m.getD i (0,0,0)).2.2=(false,0))) from by rw[hj];rfl);generalize m.getD i (0,0,0)=x at *;generalize m.getD j (0,0,0)=y at *;have aP:=(hsm x aE).1;have aY:=(hsm x aE).2.1;have aX:=(hsm x aE).2.2.1;have aW:=(hsm x aE).2.2.2.1;have bG:=(hsm x aE).2.2.2.2;have bF:=(hsm y aR).1;clear aE aR aK;have i0:(0:Int)<=(i:Int):=by omega
     have i1:(i:Int)<(m.length:Int):=by omega
     have i2:(j:Int)<(m.length:Int):=by omega
     have i4:(0:Int)<=(j:Int):=by omega
     obtain⟨p0,p1,p2,p3⟩:=hc;go_upto_region 11 with fail;clear p0 p1 p2 p3;obtain⟨B,aO⟩:∃ B,B=wr.heap.size:=⟨_,rfl⟩;have aS:rc2 wr bL (aI+j*4) (.bool t3) (.slice d3 o3 q3):=⟨hd.1,hd.2.1⟩;obtain⟨H,aU,kH⟩:∃ H:World->Prop,(∀ w',H w'->(F w'/\Sr eI w' vC C)/\w'.heap[B]? = some (.cells #[.bool s3,.slice a3 n3 k3,.int .i64 x.2.1,.int .i64 x.2.2] 93)/\rc2 w' bL (aI+j*4) (.bool t3) (.slice d3 o3 q3)/\It w' (Qlv s3 a3 n3 k3) x.1/\It w' (Qlv t3 d3 o3 q3) y.1)/\Kp H/\H (wr.alloc (.cells #[.bool s3,.slice a3 n3 k3,.int .i64 x.2.1,.int .i64 x.2.2] 93)):=⟨fun w'=>(F w'/\Sr eI w' vC C)/\w'.heap[B]? = some (.cells #[.bool s3,.slice a3 n3 k3,.int .i64 x.2.1,.int .i64 x.2.2] 93)/\rc2 w' bL (aI+j*4) (.bool t3) (.slice d3 o3 q3)/\It w' (Qlv s3 a3 n3 k3) x.1/\It w' (Qlv t3 d3 o3 q3) y.1,fun _ h=>h,kG.and kpf,⟨aF.out.1 |> fun h=>kF.up h (Qc _ _),aF.out.2.up (Qc _ _)⟩,by rw[aO];exact Zk1 _ _,(Kp.ck2 _ _ _ _).up aS (Qc _ _),hx.up (Qc _ _),hy.up (Qc _ _)⟩;obtain⟨kH,hH⟩:=kH;have aB:=Qh aU;have HH:=Qh hH;clear aU hH hd aS hx hy aF;rw[<- aO];generalize wr.alloc (.cells #[.bool s3,.slice a3 n3 k3,.int .i64 x.2.1,.int .i64 x.2.2] 93)=wa at *;clear aO;refine QaT (by kernel_rfl) [] (S:=fun w'=>bc4 w' B (.bool s3) (.slice a3 n3 k3) (.int .i64 x.2.1) (.int .i64 x.2.2)/\Qmb w' w.heap.size s1 a1 n1 g1 s2 a2 n2 g2/\rc2 w' bL (aI+j*4) (.bool t3) (.slice d3 o3 q3)) ⟨Qa3 (aB.out _ HH.out).2.1,Qa3 ((aD.out _).1 (aB.out _ HH.out).1.1).1,(aB.out _ HH.out).2.2.1⟩ (fun aA=>?_);replace HH:=Qh (kH.dr HH.out);generalize wa.drew=wb at *;refine tS 0 rfl ?_;by_cases hc3:0<i
     case' pos=>
      have i5:(i:Int)>0:=by omega
      have i6:(i:Int)-1=(j:Int):=by omega
      have i7:IntKind.i64.wrap (j:Int)=(j:Int):=by rw[IntKind.wrap_i64];omega
      have i8:i-1=j:=hj.symm;clear hj;(refine tS 1 rfl ?_;refine tS 2 rfl ?_;refine tS 3 rfl ?_;refine tS 4 rfl ?_;refine tS 5 rfl ?_;refine tS 6 rfl ?_;refine tS 7 rfl ?_;refine tS 8 rfl ?_;refine tS 9 rfl ?_;refine tS 10 rfl ?_)
      (refine oL 11 rfl fun K hK=>tL ?_;go_simp);refine mz (Qbz _ _ y.1 x.1 _ (aB.out _ HH.out).2.2.2.2 (aB.out _ HH.out).2.2.2.1 (by omega) (by omega)) fun w5 hb=>?_;have aC:=nu hb aA;replace HH:=hu hb HH;clear hb;(go_wp2_with fail;clear aA;refine nxL hK aC fun aA=>tL ?_;clear hK);clear aC;by_cases hc4:y.1<x.1
      case neg=>
       have aJ:=Qh hc4;have d4:QaW y.1 x.1>=0:=by unfold QaW;rw[if_neg hc4];split <;> decide
       generalize QaW y.1 x.1=cc at *;clear hc4 i6 i7 i8;(refine tS 12 rfl ?_;refine tS 13 rfl ?_;refine tS 14 rfl ?_)
       (refine uL 15 rfl ?_;refine uL 16 rfl ?_;refine uL 17 rfl ?_;refine uL 18 rfl ?_;refine uL 19 rfl ?_)
       (refine tS 20 rfl ?_)
       refine dT ?_;clear aA;go_wp2_with fail;go_ret
       exact .inl ⟨rfl,fun h=>QbW aH.out hlt (fun hh=>absurd ((aG.out.1 hh).1 hc3) (by have:=aJ.out;omega)) h,((aD.out _).1 (aB.out _ HH.out).1.1).2.2.2.2.2⟩
      have aJ:=Qh (fun _:0<i=>hc4);rw[Qbb hc4];clear hc4 i6 i7 i8;(refine tS 12 rfl ?_;refine tS 13 rfl ?_;refine tS 14 rfl ?_)
      generalize w5=wz at *
     case' neg=>
      have i5:¬ (i:Int)>0:=by omega
      have aJ:=Qh (fun h:0<i=>(absurd h hc3:y.1<x.1));clear hj;(refine tS 1 rfl ?_;refine tS 2 rfl ?_)
      (refine uL 3 rfl ?_;refine uL 4 rfl ?_;refine uL 5 rfl ?_;refine uL 6 rfl ?_;refine uL 7 rfl ?_;refine uL 8 rfl ?_;refine uL 9 rfl ?_;refine uL 10 rfl ?_;refine uL 11 rfl ?_;refine uL 12 rfl ?_)
      (refine tS 13 rfl ?_;refine tS 14 rfl ?_)
      generalize wb=wz at *
     all_goals
      (refine tS 15 rfl ?_;refine tS 16 rfl ?_;refine tS 17 rfl ?_)
      (refine oL 18 rfl fun K hK=>tL ?_;go_simp);refine mz (QcO _ _ C x.1 _ (aB.out _ HH.out).1.2 (aB.out _ HH.out).2.2.2.1 bE.out bD.out (by omega)) fun w6 hb=>?_;have aC:=nu hb aA;replace HH:=hu hb HH;clear hb;(go_wp2_with fail;clear aA;refine nxL hK aC fun aA=>tL ?_;clear hK);clear aC;by_cases hm:x.1∈C
      ·rw[decide_eq_true hm];have HM:=Qh hm;clear hm;(refine tS 19 rfl ?_;refine tS 20 rfl ?_)
       refine dT ?_;clear aA;go_upto_region 13 with fail;refine QaT (by kernel_rfl) [] (S:=fun w'=>bc4 w' B (.bool s3) (.slice a3 n3 k3) (.int .i64 x.2.1) (.int .i64 x.2.2)/\Qmb w' w.heap.size s1 a1 n1 g1 s2 a2 n2 g2) ⟨Qa3 (aB.out _ HH.out).2.1,Qa3 ((aD.out _).1 (aB.out _ HH.out).1.1).1⟩ (fun aA=>?_);replace HH:=Qh (kH.dr HH.out);generalize w6.drew=wc at *;(refine tS 0 rfl ?_;refine tS 1 rfl ?_;refine tS 2 rfl ?_;refine tS 4 rfl ?_;refine tS 5 rfl ?_;refine tS 6 rfl ?_;refine tS 7 rfl ?_)
       (refine oL 3 rfl fun K hK=>tL ?_;go_simp);refine(Qcb _ _ a b x.1 wc ((aD.out _).1 (aB.out _ HH.out).1.1).2.1 (aB.out _ HH.out).2.2.2.1 (Yf aH.out HM.out).1 hsb aP).mono ?_;rintro e w7 ⟨v7,rfl,aT,hb⟩;have a7:=Qh aT;clear aT;have aC:=nu hb aA;replace HH:=hu hb HH;clear hb;(go_wp2_with fail;clear aA;refine nxL hK aC fun aA=>tL ?_;clear hK);clear aC;(refine oL 8 rfl fun K hK=>tL ?_;go_simp);refine mz (QcC _ x.1 a (b/x.1) x.2.1 x.2.2 w7 a7.out aP hsa (Qt (Qan b x.1) hsb) aY aX aW bG) fun w8 hb=>?_;have aC:=nu hb aA;replace HH:=hu hb HH;clear hb;(go_wp2_with fail;clear aA;refine nxL hK aC fun aA=>tL ?_;clear hK);clear aC;obtain⟨r,hr⟩:∃ r,QaK x.1 a (b/x.1) x.2.1 x.2.2=r:=⟨_,rfl⟩;obtain⟨rb,rc⟩:=r;have bA:=Qh hr;rw[hr];clear hr;(refine tS 9 rfl ?_;refine tS 10 rfl ?_;refine tS 11 rfl ?_;refine tS 12 rfl ?_;refine tS 13 rfl ?_)
       refine dT ?_;clear aA;by_cases hrb:rb=true
       ·subst hrb;go_wp2_with fail;go_ret
        exact QeJ (fun h=>QbW aH.out hlt (fun hh=>by have:=(aG.out.1 hh).2.2;rw[bA.out] at this;cases this) h) ((aD.out _).1 (aB.out _ HH.out).1.1).2.2.2.2.2
       ·rw[Bool.not_eq_true] at hrb;subst hrb;by_cases hrc:rc=0
        ·subst hrc;have aV:=bA
         have a8:=Qh (show ∀ j',j'<i+1->Qay a b C m j' from fun j' hj'=>by
          by_cases e:j'=i
          ·subst e;exact aG.out.2 ⟨aJ.out,HM.out,aV.out⟩
          ·exact HO.out j' (by omega))
         have a9:=Qh ((aB.out _ HH.out).1);clear HH kH aB;go_wp2_with fail;go_roundw
         case rel=>exact⟨i+1,by go_num,by omega,a8,a9⟩
         case measure=>simp[intOf];omega
        ·have bJ:(rc == 0)=false:=by rw[beq_eq_false_iff_ne];exact hrc
         have bH:=Qh hrc;clear hrc;go_wp2_with fail;go_ret
         exact QeJ (fun h=>QbW aH.out hlt (fun hh=>by have:=(aG.out.1 hh).2.2;rw[bA.out] at this;injection this with h1 h2;exact bH.out h2) h) ((aD.out _).1 (aB.out _ HH.out).1.1).2.2.2.2.2
      ·rw[decide_eq_false hm];have HM:=Qh hm;clear hm;(refine tS 19 rfl ?_;refine tS 20 rfl ?_)
       refine dT ?_;clear aA;go_wp2_with fail;go_ret
       exact QeJ (fun h=>QbW aH.out hlt (fun hh=>HM.out (aG.out.1 hh).2.1) h) ((aD.out _).1 (aB.out _ HH.out).1.1).2.2.2.2.2
    ·have a0:i=m.length:=by omega
     subst a0;go_wp2_with fail;go_ret
     exact⟨true,rfl,⟨fun _=>⟨C,aH.out,bI.out,HO.out⟩,fun _=>rfl⟩,((aD.out _).1 aF.out.1).2.2.2.2.2⟩
