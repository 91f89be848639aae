/-
  descent: the isogenous curve.
-/
import Derived.Laws.EntriesVeiled
import Derived.Test.YteidokhjmbihlaaGreatFF
import Derived.Test.YteidokhjmbihlaaGreatFZA
import Derived.Test.YteidokhjmbihlaaGreatDB
import Derived.Test.YteidokhjmbihlaaGreatFJ2
set_option linter.all false
set_option maxRecDepth 100000
set_option maxHeartbeats 4000000
namespace Go.Proofs.YteidokhjmbihlaaGreat
open Go.RowKit
structure Kv where
 R:Nat->Value->World->Prop
 V:Nat->World->Nat->Prop
 js:Nat->Bool
 up:∀ {i v w w'},R i v w->Below w.heap.size w w'->R i v w'
 vup:∀ {i w w' B},V i w B->Below w.heap.size w w'->V i w' B
 vlt:∀ {i w B},V i w B->B<w.heap.size
structure FlV (K:Kv) (W0:World) (b:Nat->Bool) (x:Nat->Value) (W:World):Prop where
 bl:Below W0.heap.size W0 W
 pr:∀ i,K.js i=false->b i=true->K.R i (x i) W
 pj:∀ i,K.js i=true->b i=true->∃ B,x i=.pointer (some ⟨B,0,none⟩)/\W0.heap.size<=B/\K.V i W B
 ne:∀ i k,K.js i=true->K.js k=true->i≠k->b i=true->b k=true->x i≠x k
section
variable {K:Kv} {W0 W W':World} {b:Nat->Bool} {x:Nat->Value}
theorem FlV.start (K:Kv) (W0:World) (x:Nat->Value):FlV K W0 (fun _=>false) x W0.drew:=⟨(Below.refl _ _).drew,(fun _ _ h=>nomatch h),(fun _ _ h=>nomatch h),fun _ _ _ _ _ h=>nomatch h⟩
theorem FlV.start0 (K:Kv) (W0:World) (x:Nat->Value):FlV K W0 (fun _=>false) x W0:=⟨Below.refl _ _,(fun _ _ h=>nomatch h),(fun _ _ h=>nomatch h),fun _ _ _ _ _ h=>nomatch h⟩
theorem FlV.call (h:FlV K W0 b x W) {i:Nat} (hi:K.js i=false) {v:Value} (hR:K.R i v W') (hb:Below W.heap.size W W'):FlV K W0 (Qn b i true) (Qn x i v) W':=by
 have aA:∀ k,K.js k=true->k≠i:=fun k hk e=>by rw[e,hi] at hk;cases hk
 refine⟨h.bl.trans (hb.mono h.bl.size),fun k hk hbk=>?_,fun k hk hbk=>?_,fun k l hk hl hkl hbk hbl=>?_⟩
 ·by_cases e:k=i
  ·subst e;rw[Qb];exact hR
  ·rw[Qa _ _ e] at hbk |-;exact K.up (h.pr k hk hbk) hb
 ·rw[Qa _ _ (aA k hk)] at hbk |-;obtain⟨B,h1,h2,h3⟩:=h.pj k hk hbk;exact⟨B,h1,h2,K.vup h3 hb⟩
 ·rw[Qa _ _ (aA k hk)] at hbk |-;rw[Qa _ _ (aA l hl)] at hbl |-;exact h.ne k l hk hl hkl hbk hbl
theorem FlV.var (h:FlV K W0 b x W) {i:Nat} (hi:K.js i=true) (hV:K.V i W' W.heap.size) (hb:Below W.heap.size W W'):FlV K W0 (Qn b i true) (Qn x i (.pointer (some ⟨W.heap.size,0,none⟩))) W':=by
 have aA:∀ k,K.js k=true->k≠i->b k=true->x k ≠ .pointer (some ⟨W.heap.size,0,none⟩):=fun k hk hki hbk e=>by
  obtain⟨B,h1,-,h3⟩:=h.pj k hk hbk;rw[h1] at e;injection e with e;injection e with e;injection e with e;have:=K.vlt h3;omega
 refine⟨h.bl.trans (hb.mono h.bl.size),fun k hk hbk=>?_,fun k hk hbk=>?_,fun k l hk hl hkl hbk hbl=>?_⟩
 ·have e:k≠i:=fun e=>by rw[e,hi] at hk;cases hk
  rw[Qa _ _ e] at hbk |-;exact K.up (h.pr k hk hbk) hb
 ·by_cases e:k=i
  ·subst e;rw[Qb];exact⟨_,rfl,h.bl.size,hV⟩
  ·rw[Qa _ _ e] at hbk |-;obtain⟨B,h1,h2,h3⟩:=h.pj k hk hbk;exact⟨B,h1,h2,K.vup h3 hb⟩
 ·by_cases e:k=i
  ·subst e;rw[Qb,Qa _ _ (Ne.symm hkl)];rw[Qa _ _ (Ne.symm hkl)] at hbl;exact fun e=>aA l hl (Ne.symm hkl) hbl e.symm
  ·by_cases e':l=i
   ·subst e';rw[Qb,Qa _ _ e];rw[Qa _ _ e] at hbk;exact aA k hk e hbk
   ·rw[Qa _ _ e] at hbk |-;rw[Qa _ _ e'] at hbl |-;exact h.ne k l hk hl hkl hbk hbl
end
def Q4 (w:World) (v:Value) (b m e n:Int):Prop:=∃ s1 a1 n1 c1 s2 a2 n2 c2 s3 a3 n3 c3 s4 a4 n4 c4,v=.agg #[.bool s1,.slice a1 n1 c1,.bool s2,.slice a2 n2 c2,.bool s3,.slice a3 n3 c3,.bool s4,.slice a4 n4 c4]/\It w (Qlv s1 a1 n1 c1) b/\It w (Qlv s2 a2 n2 c2) m/\It w (Qlv s3 a3 n3 c3) e/\It w (Qlv s4 a4 n4 c4) n
inductive Rk
 | int (z:Int)
 | row (l:List Int)
 | div (q r:Int)
 | val (u:Value)
 | quad (b m e n:Int)
 | any
def Rk.R:Rk->Value->World->Prop
 | .int z,v,w=>It w v z
 | .row l,v,w=>Sr eI w v l
 | .div q r,v,w=>∃ u t,v=.tuple #[u,t,.int .i64 0]/\It w u q/\It w t r
 | .val u,v,_=>v=u
 | .quad b m e n,v,w=>Q4 w v b m e n
 | .any,_,_=>True
theorem Rk.up {k:Rk} {v:Value} {w w':World} (h:k.R v w) (hb:Below w.heap.size w w'):k.R v w':=by
 cases k with
 | int z=>exact It.up h hb
 | row l=>exact Sr.up h hb
 | div q r =>
   obtain⟨u,t,e,h1,h2⟩:=h;exact⟨u,t,e,h1.up hb,h2.up hb⟩
 | val u=>exact h
 | quad b m e n =>
   obtain⟨s1,a1,n1,c1,s2,a2,n2,c2,s3,a3,n3,c3,s4,a4,n4,c4,e,h1,h2,h3,h4⟩:=h;exact⟨s1,a1,n1,c1,s2,a2,n2,c2,s3,a3,n3,c3,s4,a4,n4,c4,e,h1.up hb,h2.up hb,h3.up hb,h4.up hb⟩
 | any=>trivial
def kvR (f:Nat->Rk) (vs:List Nat):Kv where
 R:=fun i v w=>(f i).R v w
 V:=fun _ w B=>Va w B
 js:=fun i=>vs.contains i
 up:=fun h hb=>Rk.up h hb
 vup:=fun h hb=>h.up hb
 vlt:=fun h=>by obtain⟨z,h⟩:=h;exact h.lt
section
variable {f:Nat->Rk} {vs:List Nat} {W0 W W':World} {b:Nat->Bool} {x:Nat->Value}
theorem kvR.int (h:FlV (kvR f vs) W0 b x W) {i:Nat} {z:Int} (hf:f i=.int z) (hb:b i=true) (hi:vs.contains i=false:=by rfl):It W (x i) z:=by
 have h2:(f i).R (x i) W:=h.pr i hi hb;rw[hf] at h2;exact h2
theorem kvR.row (h:FlV (kvR f vs) W0 b x W) {i:Nat} {l:List Int} (hf:f i=.row l) (hb:b i=true) (hi:vs.contains i=false:=by rfl):Sr eI W (x i) l:=by
 have h2:(f i).R (x i) W:=h.pr i hi hb;rw[hf] at h2;exact h2
theorem kvR.div (h:FlV (kvR f vs) W0 b x W) {i:Nat} {q r:Int} (hf:f i=.div q r) (hb:b i=true) (hi:vs.contains i=false:=by rfl):∃ u t,x i=.tuple #[u,t,.int .i64 0]/\It W u q/\It W t r:=by
 have h2:(f i).R (x i) W:=h.pr i hi hb;rw[hf] at h2;exact h2
theorem kvR.put (h:FlV (kvR f vs) W0 b x W) (i:Nat) {v:Value} {k:Rk} (hf:f i=k) (hk:k.R v W') (hb:Below W.heap.size W W') (hi:vs.contains i=false:=by rfl):FlV (kvR f vs) W0 (Qn b i true) (Qn x i v) W':=
 h.call hi (show (f i).R v W' by rw[hf];exact hk) hb
theorem kvR.var (h:FlV (kvR f vs) W0 b x W) (i:Nat) (hi:vs.contains i=true:=by rfl):FlV (kvR f vs) W0 (Qn b i true) (Qn x i (.pointer (some ⟨W.heap.size,0,none⟩))) (W.alloc (Qlr 33 false none 0 0)):=
 h.var hi (Va.new0 rfl) (Qc _ _)
end
structure Ip (w:World) (v:Value) (z:Int) (p:Bool×Option Addr×Nat×Nat):Prop where
 e:v=.agg #[.bool p.1,.slice p.2.1 p.2.2.1 p.2.2.2]
 h:It w (.agg #[.bool p.1,.slice p.2.1 p.2.2.1 p.2.2.2]) z
theorem It.ip {w:World} {v:Value} {z:Int} (h:It w v z):∃ p,Ip w v z p:=by
 obtain⟨s,a,n,c,rfl⟩:=h.shape;exact⟨(s,a,n,c),rfl,h⟩
theorem sr2 {w:World} {p0 p1:Bool×Option Addr×Nat×Nat} {x0 x1:Int} (h0:It w (.agg #[.bool p0.1,.slice p0.2.1 p0.2.2.1 p0.2.2.2]) x0) (h1:It w (.agg #[.bool p1.1,.slice p1.2.1 p1.2.2.1 p1.2.2.2]) x1) :
  Sr eI (w.alloc (.cells #[.bool p0.1,.slice p0.2.1 p0.2.2.1 p0.2.2.2,.bool p1.1,.slice p1.2.1 p1.2.2.1 p1.2.2.2] 33)) (.slice (some ⟨w.heap.size,0,none⟩) 2 2) [x0,x1]:=
 (So.ints2 (base:=w.heap.size) (Zk1 w _) (Nat.le_refl _) (h0.alloc _) (h1.alloc _)).sr
theorem sr3 {w:World} {p0 p1 p2:Bool×Option Addr×Nat×Nat} {x0 x1 x2:Int} (h0:It w (.agg #[.bool p0.1,.slice p0.2.1 p0.2.2.1 p0.2.2.2]) x0) (h1:It w (.agg #[.bool p1.1,.slice p1.2.1 p1.2.2.1 p1.2.2.2]) x1) (h2:It w (.agg #[.bool p2.1,.slice p2.2.1 p2.2.2.1 p2.2.2.2]) x2) :
  Sr eI (w.alloc (.cells #[.bool p0.1,.slice p0.2.1 p0.2.2.1 p0.2.2.2,.bool p1.1,.slice p1.2.1 p1.2.2.1 p1.2.2.2,.bool p2.1,.slice p2.2.1 p2.2.2.1 p2.2.2.2] 33)) (.slice (some ⟨w.heap.size,0,none⟩) 3 3) [x0,x1,x2]:=
 (So.ints3 (base:=w.heap.size) (Zk1 w _) (Nat.le_refl _) (h0.alloc _) (h1.alloc _) (h2.alloc _)).sr
structure FlI (f:Nat->Rk) (vs:List (Nat×Nat×Int)) (cs:List Nat) (W0:World) (b:Nat->Bool) (x:Nat->Value) (W:World):Prop where
 bl:Below W0.heap.size W0 W
 int:∀ i z,f i=.int z->b i=true->It W (x i) z
 row:∀ i l,f i=.row l->b i=true->(∀ v∈vs,b v.2.1=false)->Sr eI W (x i) l
 vr:∀ v∈vs,b v.1=true->∃ B,x v.1=.pointer (some ⟨B,0,none⟩)/\W0.heap.size<=B/\Va W B/\(b v.2.1=true->Vx W B v.2.2)
 ne:∀ v∈vs,∀ u∈vs,v.1≠u.1->b v.1=true->b u.1=true->x v.1≠x u.1
 so:∀ v∈vs,b v.2.1=true->b v.1=true/\∀ c∈cs,b c=true
 dv:∀ i q r,f i=.div q r->b i=true->∃ p:Value×Value,x i=.tuple #[p.1,p.2,.int .i64 0]/\It W p.1 q/\It W p.2 r
 vl:∀ i u,f i=.val u->b i=true->x i=u
section
variable {f:Nat->Rk} {vs:List (Nat×Nat×Int)} {cs:List Nat} {W0 W W':World} {b:Nat->Bool} {x:Nat->Value}
theorem FlI.start (f:Nat->Rk) (vs:List (Nat×Nat×Int)) (cs:List Nat) (W0:World) (x:Nat->Value):FlI f vs cs W0 (fun _=>false) x W0.drew:=
 ⟨(Below.refl _ _).drew,(fun _ _ _ h=>nomatch h),(fun _ _ _ h=>nomatch h),(fun _ _ h=>nomatch h),(fun _ _ _ _ _ h=>nomatch h),(fun _ _ h=>nomatch h),(fun _ _ _ _ h=>nomatch h),fun _ _ _ h=>nomatch h⟩
theorem FlI.put (h:FlI f vs cs W0 b x W) (i:Nat) {v:Value} {k:Rk} (hf:f i=k) (hi:∀ u∈vs,i≠u.1/\i≠u.2.1) (hk:k.R v W') (hb:Below W.heap.size W W'):FlI f vs cs W0 (Qn b i true) (Qn x i v) W':=by
 have n1:∀ {α : Type} (g:Nat -> α) (a : α) {u:Nat×Nat×Int},u∈vs->Qn g i a u.1=g u.1:=fun g a u hu=>Qa _ _ (Ne.symm (hi u hu).1);have n2:∀ {α : Type} (g:Nat -> α) (a : α) {u:Nat×Nat×Int},u∈vs->Qn g i a u.2.1=g u.2.1:=fun g a u hu=>Qa _ _ (Ne.symm (hi u hu).2);refine⟨h.bl.trans (hb.mono h.bl.size),fun j z hj hbj=>?_,fun j l hj hbj hs=>?_,fun u hu hbu=>?_,fun u hu s hs hne hbu hbs=>?_,fun u hu hbu=>?_,fun j q r hj hbj=>?_,fun j y hj hbj=>?_⟩
 ·by_cases e:j=i
  ·subst e;rw[Qb];rw[hf] at hj;subst hj;exact hk
  ·rw[Qa _ _ e] at hbj |-;exact(h.int j z hj hbj).up hb
 ·by_cases e:j=i
  ·subst e;rw[Qb];rw[hf] at hj;subst hj;exact hk
  ·rw[Qa _ _ e] at hbj |-;exact(h.row j l hj hbj (fun u hu=>by have:=hs u hu;rwa [n2 _ _ hu] at this)).up hb
 ·rw[n1 _ _ hu] at hbu |-;rw[n2 _ _ hu];obtain⟨B,h1,h2,⟨z,h3⟩,h4⟩:=h.vr u hu hbu;exact⟨B,h1,h2,⟨z,h3.up hb⟩,fun e=>(h4 e).up hb⟩
 ·rw[n1 _ _ hu] at hbu |-;rw[n1 _ _ hs] at hbs |-;exact h.ne u hu s hs hne hbu hbs
 ·rw[n2 _ _ hu] at hbu;rw[n1 _ _ hu];obtain⟨h1,h2⟩:=h.so u hu hbu;refine⟨h1,fun c hc=>?_⟩;by_cases e:c=i
  ·subst e;exact Qb _ _ _
  ·rw[Qa _ _ e];exact h2 c hc
 ·by_cases e:j=i
  ·subst e;rw[Qb];rw[hf] at hj;subst hj;obtain⟨u,t,e1,e2,e3⟩:=hk;exact⟨(u,t),e1,e2,e3⟩
  ·rw[Qa _ _ e] at hbj |-;obtain⟨p,e1,e2,e3⟩:=h.dv j q r hj hbj;exact⟨p,e1,e2.up hb,e3.up hb⟩
 ·by_cases e:j=i
  ·subst e;rw[Qb];rw[hf] at hj;subst hj;exact hk
  ·rw[Qa _ _ e] at hbj |-;exact h.vl j y hj hbj
theorem FlI.var (h:FlI f vs cs W0 b x W) (i:Nat) {v:Nat×Nat×Int} (hv:v∈vs) (e:v.1=i) (hbi:b i=false) (hf:f i=.any) (hd:∀ u∈vs,i≠u.2.1) :
  FlI f vs cs W0 (Qn b i true) (Qn x i (.pointer (some ⟨W.heap.size,0,none⟩))) (W.alloc (Qlr 33 false none 0 0)):=by
 have hb:=Qc W (Qlr 33 false none 0 0);have hV:=Vx.new0 (w:=W) (T:=33) rfl;have n2:∀ {α : Type} (g:Nat -> α) (a : α) {u:Nat×Nat×Int},u∈vs->Qn g i a u.2.1=g u.2.1:=fun g a u hu=>Qa _ _ (Ne.symm (hd u hu))
 have aA:∀ u∈vs,u.1≠i->b u.1=true->x u.1 ≠ .pointer (some ⟨W.heap.size,0,none⟩):=fun u hu hne hbu e'=>by
  obtain⟨B,h1,h2,⟨z,h3⟩,-⟩:=h.vr u hu hbu;rw[h1] at e';injection e' with e';injection e' with e';injection e' with e';have:=h3.lt;omega
 refine⟨h.bl.trans (hb.mono h.bl.size),fun j z hj hbj=>?_,fun j l hj hbj hs=>?_,fun u hu hbu=>?_,fun u hu s hs hne hbu hbs=>?_,fun u hu hbu=>?_,fun j q r hj hbj=>?_,fun j y hj hbj=>?_⟩
 ·have e':j≠i:=fun e'=>by rw[e',hf] at hj;cases hj
  rw[Qa _ _ e'] at hbj |-;exact(h.int j z hj hbj).up hb
 ·have e':j≠i:=fun e'=>by rw[e',hf] at hj;cases hj
  rw[Qa _ _ e'] at hbj |-;exact(h.row j l hj hbj (fun u hu=>by have:=hs u hu;rwa [n2 _ _ hu] at this)).up hb
 ·rw[n2 _ _ hu];by_cases e':u.1=i
  ·rw[e',Qb];refine⟨_,rfl,h.bl.size,⟨0,hV⟩,fun hs=>?_⟩;have:=(h.so u hu hs).1;rw[e',hbi] at this
   cases this
  ·rw[Qa _ _ e'] at hbu |-;obtain⟨B,h1,h2,⟨z,h3⟩,h4⟩:=h.vr u hu hbu;exact⟨B,h1,h2,⟨z,h3.up hb⟩,fun e=>(h4 e).up hb⟩
 ·by_cases e1:u.1=i
  ·have e2:s.1≠i:=fun e2=>hne (e1.trans e2.symm);rw[e1,Qb,Qa _ _ e2];rw[Qa _ _ e2] at hbs;exact fun e'=>aA s hs e2 hbs e'.symm
  ·by_cases e2:s.1=i
   ·rw[e2,Qb,Qa _ _ e1];rw[Qa _ _ e1] at hbu;exact aA u hu e1 hbu
   ·rw[Qa _ _ e1] at hbu |-;rw[Qa _ _ e2] at hbs |-;exact h.ne u hu s hs hne hbu hbs
 ·rw[n2 _ _ hu] at hbu;obtain⟨h1,h2⟩:=h.so u hu hbu;refine⟨?_,fun c hc=>?_⟩
  ·by_cases e':u.1=i
   ·rw[e'];exact Qb _ _ _
   ·rw[Qa _ _ e'];exact h1
  ·by_cases e':c=i
   ·subst e';exact Qb _ _ _
   ·rw[Qa _ _ e'];exact h2 c hc
 ·have e':j≠i:=fun e'=>by rw[e',hf] at hj;cases hj
  rw[Qa _ _ e'] at hbj |-;obtain⟨p,e1,e2,e3⟩:=h.dv j q r hj hbj;exact⟨p,e1,e2.up hb,e3.up hb⟩
 ·have e':j≠i:=fun e'=>by rw[e',hf] at hj;cases hj
  rw[Qa _ _ e'] at hbj |-;exact h.vl j y hj hbj
structure StI (W:World) (v x:Value) (z:Int) (p:Nat×(Bool×Option Addr×Nat×Nat)×(Bool×Option Addr×Nat×Nat)):Prop where
 hx:x=.pointer (some ⟨p.1,0,none⟩)
 hv:v=.agg #[.bool p.2.1.1,.slice p.2.1.2.1 p.2.1.2.2.1 p.2.1.2.2.2]
 iv:It W (.agg #[.bool p.2.1.1,.slice p.2.1.2.1 p.2.1.2.2.1 p.2.1.2.2.2]) z
 va:Va W p.1
 c0:W.cell? ⟨p.1,0,none⟩=some (.bool p.2.2.1)
 c1:W.cell? ⟨p.1,1,none⟩=some (.slice p.2.2.2.1 p.2.2.2.2.1 p.2.2.2.2.2)
 f0:W.frozen? ⟨p.1,0,none⟩=false
 f1:W.frozen? ⟨p.1,1,none⟩=false
theorem FlI.sto (h:FlI f vs cs W0 b x W) {v:Nat×Nat×Int} (hv:v∈vs) (hb:b v.1=true) {u:Value} (hu:It W u v.2.2):∃ p,StI W u (x v.1) v.2.2 p:=by
 obtain⟨B,h1,-,⟨z,h3⟩,-⟩:=h.vr v hv hb;obtain⟨s,a,n,c,rfl⟩:=hu.shape;obtain⟨s',a',n',c',d0,d1,f0,f1,-⟩:=h3.cells;exact⟨(B,(s,a,n,c),(s',a',n',c')),h1,rfl,hu,⟨z,h3⟩,d0,d1,f0,f1⟩
theorem FlI.st (h:FlI f vs cs W0 b x W) (i:Nat) {v:Nat×Nat×Int} (hv:v∈vs) (e:v.2.1=i) (hf:f i=.any) (hd:∀ u∈vs,i≠u.1/\(u.2.1=i->u=v)) (hdd:∀ u∈vs,u.1=v.1->u=v) (hb:b v.1=true) (hc:∀ c∈cs,b c=true) {u:Value} {p} (hp:StI W u (x v.1) v.2.2 p) {d:Value} :
  FlI f vs cs W0 (Qn b i true) (Qn x i d) ((W.setCell ⟨p.1,0,none⟩ (.bool p.2.1.1)).setCell ⟨p.1,1,none⟩ (.slice p.2.1.2.1 p.2.1.2.2.1 p.2.1.2.2.2)):=by
 have n1:∀ {α : Type} (g:Nat -> α) (a : α) {u:Nat×Nat×Int},u∈vs->Qn g i a u.1=g u.1:=fun g a u hu=>Qa _ _ (Ne.symm (hd u hu).1);have aA:ButS (fun g=>g=p.1) W ((W.setCell ⟨p.1,0,none⟩ (.bool p.2.1.1)).setCell ⟨p.1,1,none⟩ (.slice p.2.1.2.1 p.2.1.2.2.1 p.2.1.2.2.2)):=(ButS.set W p.1 0 _).trans (ButS.set _ p.1 1 _);have aB:∀ g,g=p.1->NoW W g:=fun g e=>by subst e;obtain⟨z,_,_,_,_,_,_,h⟩:=hp.va;exact h
 obtain⟨B,h1,h2,-,-⟩:=h.vr v hv hb
 have hB:B=p.1:=by
  have:=h1.symm.trans hp.hx;simpa using this
 refine⟨ButS.below h.bl aA h.bl.size (fun g e=>by omega),fun j z hj hbj=>?_,fun j l hj hbj hs=>?_,fun s hs hbs=>?_,fun s hs t ht hne hbs hbt'=>?_,fun s hs hbs=>?_,fun j q r hj hbj=>?_,fun j y hj hbj=>?_⟩
 ·have e':j≠i:=fun e'=>by rw[e',hf] at hj;cases hj
  rw[Qa _ _ e'] at hbj |-;exact(h.int j z hj hbj).fr aA aB
 ·have:=hs v hv;rw[e,Qb] at this
  cases this
 ·rw[n1 _ _ hs] at hbs |-;obtain⟨B',k1,k2,⟨z,k3⟩,k4⟩:=h.vr s hs hbs;by_cases es:s=v
  ·subst es
   have:B'=p.1:=by
    have:=k1.symm.trans hp.hx;simpa using this
   subst this;exact⟨_,k1,k2,(Vx.put hp.va hp.iv).va,fun _=>Vx.put hp.va hp.iv⟩
  ·have hne:B'≠p.1:=fun e'=>by
    have h5:s.1≠v.1:=fun e5=>es (hdd s hs e5);exact h.ne s hs v hv h5 hbs hb (by rw[k1,hp.hx,e'])
   refine⟨B',k1,k2,⟨z,k3.fr aA aB hne⟩,fun hq=>?_⟩;have h5:s.2.1≠i:=fun e5=>es ((hd s hs).2 e5);rw[Qa _ _ h5] at hq;exact(k4 hq).fr aA aB hne
 ·rw[n1 _ _ hs] at hbs |-;rw[n1 _ _ ht] at hbt' |-;exact h.ne s hs t ht hne hbs hbt'
 ·rw[n1 _ _ hs];by_cases es:s.2.1=i
  ·have:=(hd s hs).2 es;subst this;refine⟨hb,fun c hcc=>?_⟩;by_cases e':c=i
   ·subst e';exact Qb _ _ _
   ·rw[Qa _ _ e'];exact hc c hcc
  ·rw[Qa _ _ es] at hbs;obtain⟨k1,k2⟩:=h.so s hs hbs;refine⟨k1,fun c hcc=>?_⟩;by_cases e':c=i
   ·subst e';exact Qb _ _ _
   ·rw[Qa _ _ e'];exact k2 c hcc
 ·have e':j≠i:=fun e'=>by rw[e',hf] at hj;cases hj
  rw[Qa _ _ e'] at hbj |-;obtain⟨p,e1,e2,e3⟩:=h.dv j q r hj hbj;exact⟨p,e1,e2.fr aA aB,e3.fr aA aB⟩
 ·have e':j≠i:=fun e'=>by rw[e',hf] at hj;cases hj
  rw[Qa _ _ e'] at hbj |-;exact h.vl j y hj hbj
end
attribute [local go_sem ↓] Go.wp_at_zero Go.wp_at_succ
abbrev gG:Nat:=121
structure GrS (W:World) (BP BO BG:Nat) (aP:Option Addr) (cP:Nat) (P:List (Nat×Nat)) (v:Value) (out:List Int):Prop where
 p:W.heap[BP]? = some (.cells #[.slice aP P.length cP] 144 (0,0))
 pr:Sr eP W (.slice aP P.length cP) (zP P)
 o:W.heap[BO]? = some (.cells #[v] 46 (0,0))
 O:So eI W (BG+1) v out
 g:W.heap[BG]? = some (.cells #[.func (.func gG) #[] #[.pointer (some ⟨BP,0,none⟩),.pointer (some ⟨BO,0,none⟩),.pointer (some ⟨BG,0,none⟩)]] 179 (0,0))
 po:BP<BO
 og:BO<BG
 lp:zP P≠[]->∀ g,(Value.slice aP P.length cP).ownBlock=some g->g<BP
section
variable {W W':World} {BP BO BG:Nat} {aP:Option Addr} {cP:Nat} {P:List (Nat×Nat)} {v:Value} {out:List Int}
theorem GrS.ltG (h:GrS W BP BO BG aP cP P v out):BG<W.heap.size:=(Ql h.g).1
theorem GrS.up (h:GrS W BP BO BG aP cP P v out) (hb:Below W.heap.size W W'):GrS W' BP BO BG aP cP P v out:=by
 have h1:=h.ltG;have h2:=h.po;have h3:=h.og;exact⟨(hb.block _ (by omega)).trans h.p,h.pr.up hb,(hb.block _ (by omega)).trans h.o,h.O.up hb,(hb.block _ (by omega)).trans h.g,h2,h3,h.lp⟩
theorem GrS.nw (h:GrS W BP BO BG aP cP P v out):∀ g,(g=BO\/v.ownBlock=some g)->NoW W g:=by
 rintro g (rfl|hg)
 ·intro o y hy;obtain⟨a,aA,e,-⟩:=h.O.slice;subst e;simp only[World.cell?,h.o] at hy;rcases o with _|o <;> simp at hy
 ·exact h.O.nw g hg
theorem GrS.put (h:GrS W BP BO BG aP cP P v out) {v':Value} {out':List Int} (hO:So eI W' (BG+1) v' out') (hb:ButS (fun k=>v.ownBlock=some k) W W') (hg:∀ g,v'.ownBlock=some g->v.ownBlock=some g\/W.heap.size<=g) :
  GrS (W'.setCell ⟨BO,0,none⟩ v') BP BO BG aP cP P v' out'/\ButS (fun g=>g=BO\/v.ownBlock=some g) W (W'.setCell ⟨BO,0,none⟩ v'):=by
 have h1:=h.ltG;have h2:=h.po;have h3:=h.og;have aA:ButS (fun g=>g=BO\/v.ownBlock=some g) W (W'.setCell ⟨BO,0,none⟩ v'):=(hb.mono (fun k _ hk=>.inr hk)).trans ((ButS.set W' BO 0 v').mono (fun k _ hk=>.inl hk));have hn:∀ B,B<=BG->¬ v.ownBlock=some B:=fun B hB e=>by have:=(h.O.lt B e).1;omega
 have ho:W'.heap[BO]? = some (.cells #[v] 46 (0,0)):=(hb.block _ (by omega) (hn BO (by omega))).trans h.o;have aB:∀ B,B<=BG->¬ v'.ownBlock=some B:=fun B hB e=>by have:=(hO.lt B e).1;omega
 refine⟨⟨(aA.block _ (by omega) (fun e=>by rcases e with e|e;omega;exact hn BP (by omega) e)).trans h.p,?_,?_,?_,(aA.block _ (by omega) (fun e=>by rcases e with e|e;omega;exact hn BG (by omega) e)).trans h.g,h2,h3,h.lp⟩,aA⟩
 ·refine h.pr.fr aA h.nw (fun hl g hg' hs=>?_);have:=h.lp hl g hg';rcases hs with e|e
  ·omega
  ·have:=(h.O.lt g e).1;omega
 ·simp[World.setCell,Array.getElem?_modify,ho]
 ·refine hO.fr (ButS.set W' BO 0 v') (fun g e=>?_) (fun g hg' e=>aB g (by omega) hg');subst e;intro o y hy;obtain⟨a,aC,e,-⟩:=h.O.slice;subst e;simp only[World.cell?,ho] at hy;rcases o with _|o <;> simp at hy
end
theorem Sc.two2 {w:World} {B T:Nat} {fr:Nat×Nat} {s1 s2:Bool} {a1 a2:Option Addr} {n1 n2 c1 c2:Nat} {x y:Int}
  (hB:w.heap[B]? = some (.cells #[.bool s1,.slice a1 n1 c1,.bool s2,.slice a2 n2 c2] T fr)) (h1:It w (Qlv s1 a1 n1 c1) x) (h2:It w (Qlv s2 a2 n2 c2) y):Sc eI w B 0 [x,y]:=by
 intro i hi;have aA:i=0\/i=1:=by simp at hi;omega
 rcases aA with rfl|rfl
 ·exact⟨_,⟨s1,a1,n1,c1,rfl,h1⟩,fun j u e=>by
   match j,e with
   | 0,e=>simp at e;subst e;simp[World.cell?,hB,eI]
   | 1,e=>simp at e;subst e;simp[World.cell?,hB,eI]
   | j+2,e=>simp at e⟩
 ·exact⟨_,⟨s2,a2,n2,c2,rfl,h2⟩,fun j u e=>by
   match j,e with
   | 0,e=>simp at e;subst e;simp[World.cell?,hB,eI]
   | 1,e=>simp at e;subst e;simp[World.cell?,hB,eI]
   | j+2,e=>simp at e⟩
theorem Qh2 (BP BO BG:Nat) (aP:Option Addr) (cP:Nat) (P:List (Nat×Nat)) (vd:Value) (d:Int) (v:Value) (out:List Int) (W:World)
  (h:GrS W BP BO BG aP cP P v out) (hd:It W vd d) (hsd:sz d<=100000) (hl:out.length+2<=1000000000) :
  Calls Tryz.prog gG #[vd,.int .i64 (P.length:Int),.pointer (some ⟨BP,0,none⟩),.pointer (some ⟨BO,0,none⟩),.pointer (some ⟨BG,0,none⟩)] W fun e w'=>∃ u v',e=.returned u/\GrS w' BP BO BG aP cP P v' (out++[d,-d])/\ButS (fun g=>g=BO\/v.ownBlock=some g) W w'/\(∀ g,v'.ownBlock=some g->v.ownBlock=some g\/W.heap.size<=g):=by
 obtain⟨W1,s1,a1,n1,c1,rfl,hW,b,vX,aT,p0,p1,aL⟩:=Qh6 W hd;have h1:=h.up b;obtain⟨N,hN⟩:∃ N,P.length=N:=⟨_,rfl⟩;have q0:W1.cell? ⟨BP,0,none⟩=some (.slice aP N cP):=by simp[World.cell?,h1.p,hN]
 have q1:W1.cell? ⟨BO,0,none⟩=some v:=by simp[World.cell?,h1.o]
 obtain⟨aO,cO,rfl,-⟩:=h1.O.slice;have H1:=Qh h1;have HD:=Qh aL;have HB:=Qh b;have HV:=Qh vX;have aZ:((N:Int) == (N:Int))=true:=by rw[beq_iff_eq]
 have HN:=Qh hN;rw[hN];clear h hd h1 aL b vX hN;go_enter Tryz.func121,Tryz.ntmps121
 go_upto_region 1 with fail;rw[<- hW];clear hW aT;go_upto_region 2 with fail;refine QaT (by kernel_rfl) [5] (S:=fun w'=>w'.cell? ⟨BO,0,none⟩=some (.slice aO out.length cO)/\w'.cell? ⟨W.heap.size,0,none⟩=some (.bool s1)/\w'.cell? ⟨W.heap.size,1,none⟩=some (.slice a1 n1 c1)) ⟨q1,p0,p1⟩ (fun aA=>?_);(refine kL 0 rfl ?_;refine kL 1 rfl ?_;refine kL 2 rfl ?_)
 (refine oL 3 rfl fun K hK=>tL ?_;go_simp);refine(QhA _ d _ HD.out.drew (Qt hsd (by decide))).mono ?_;rintro e w6 ⟨v6,rfl,hv,aC⟩;obtain⟨s6,a6,n6,c6,rfl⟩:=hv.shape;have h6:=(H1.out.up (Below.refl _ _).drew).up aC;have aK:=HD.out.drew.up aC;have aR:=Bl.up (Bl.drew HB.out) aC;replace q1:=QaD aC (Qa7 q1);replace p0:=QaD aC (Qa7 p0);replace p1:=QaD aC (Qa7 p1);clear aC H1 HD HB;(go_wp2_with fail;clear aA;refine nxL hK ⟨q1,p0,p1⟩ fun aA=>tL ?_;clear hK);(refine oL 4 rfl fun K hK=>tL ?_;go_simp);have aB:=Qc w6 (.cells #[.bool s1,.slice a1 n1 c1,.bool s6,.slice a6 n6 c6] 33);have aQ:=Zk1 w6 (.cells #[.bool s1,.slice a1 n1 c1,.bool s6,.slice a6 n6 c6] 33);have aI:Sc eI (w6.alloc (.cells #[.bool s1,.slice a1 n1 c1,.bool s6,.slice a6 n6 c6] 33)) w6.heap.size 0 [d,-d]:=Sc.two2 aQ (aK.up aB) (hv.up aB);have h7:=h6.up aB;have aG:=Bl.up aR aB;have q7:=QaD aB q1;have p7:=QaD aB p0;have p8:=QaD aB p1;clear h6 aK aR aQ hv q0;(go_wp2_with fail;clear aA;refine nxL hK ⟨q7,p7,p8⟩ fun aA=>tL ?_;clear hK);clear q1 p0 p1 aB;refine Qbh (i:=5) (by as_aux_lemma=>kernel_rfl) rfl (fun K hK=>?_);refine QbX (E:=eI) (by rfl) (.tmp 11) (.tmp 15) _ (by rfl) Tryz.underlying46 (BG+1) _ out [d,-d] (by rfl) h7.O (by have:=h7.ltG;omega) w6.heap.size 0 2 2 (by rfl) rfl aI (by decide) (by omega) ?_;intro g8 aH w8 h8 aF aJ;generalize w6.alloc (.cells #[.bool s1,.slice a1 n1 c1,.bool s6,.slice a6 n6 c6] 33)=w7 at *;have aS:=aG.size
 have aD:∀ g,(Value.slice (some ⟨g8,0,none⟩) (out.length+2) aH).ownBlock=some g->(Value.slice aO out.length cO).ownBlock=some g\/w7.heap.size<=g:=fun g hg=>by
  have:g8=g:=by simpa [Value.ownBlock] using hg
  rw[<- this];exact aJ.imp id (fun e=>by omega)
 obtain⟨hS,aM⟩:=h7.put h8 aF aD;have aU:=h7.ltG;have aY:=h7.og;have aE:=(aF.block BO (by omega) (fun e=>by have:=(h7.O.lt BO e).1;omega)).trans h7.o;have d8:w8.cell? ⟨BO,0,none⟩=some (.slice aO out.length cO):=by simp[World.cell?,aE]
 have f8:w8.frozen? ⟨BO,0,none⟩=false:=by simp[World.frozen?,aE]
 have HS:=Qh hS;have aW:=Qh aM;have aX:=Qh aG;have aV:=Qh aD;clear hS aM aE h7 h8 aF aJ aG aD aI q7 p7 p8;refine hK.out _ _ nzz ?_;clear hK aA;refine tL ?_;(refine oL 6 rfl fun K hK=>tL ?_;go_simp);(go_wp2_with fail;refine xL hK (tL ?_);clear hK);refine dT ?_;clear d8 f8;go_wp2_with fail;refine bodyPost_ret (results_none rfl _ _ _) rfl ?_;exact⟨_,_,rfl,HS.out,(ButS.of aX.out _).trans aW.out,fun g hg=>(aV.out g hg).imp id (fun h=>by omega)⟩
theorem J6 (ps:List Nat):∀ d:Int,(glI d ps).length=2*2 ^ ps.length:=by
 induction ps with
 | nil=>intro d;rfl
 | cons p ps ih=>intro d;unfold glI;rw[List.length_append,ih,ih,List.length_cons,Nat.pow_succ];omega
theorem GrS.next {W W':World} {BP BO BG:Nat} {aP:Option Addr} {cP:Nat} {P:List (Nat×Nat)} {v:Value} {out:List Int} {B:Nat} {x:Int} (h:GrS W BP BO BG aP cP P v out) (hV:Vx W B x) (hB:BG<B) (hv:¬ v.ownBlock=some B) (hb:ButS (fun g=>g=BO\/v.ownBlock=some g) W W'):Vx W' B x:=
 hV.fr hb h.nw (fun e=>by have:=h.og;rcases e with e|e;omega;exact hv e)
theorem Qi7 (BP BO BG:Nat) (aP:Option Addr) (cP:Nat) (P:List (Nat×Nat)) (hPl:P.length<=1000) (hPs:∀ x∈P,sz (x.1:Int)<=2):∀ (k i:Nat) (vd:Value) (d:Int) (v:Value) (out:List Int) (W:World)
  (_:GrS W BP BO BG aP cP P v out) (_:It W vd d) (_:i+k=P.length) (_:sz d<=2*i+1) (_:out.length+2*2 ^ k<=1000000000),
  Calls Tryz.prog gG #[vd,.int .i64 (i:Int),.pointer (some ⟨BP,0,none⟩),.pointer (some ⟨BO,0,none⟩),.pointer (some ⟨BG,0,none⟩)] W fun e w'=>∃ u v',e=.returned u/\GrS w' BP BO BG aP cP P v' (out++glI d (ks (P.drop i)))/\ButS (fun g=>g=BO\/v.ownBlock=some g) W w'/\(∀ g,v'.ownBlock=some g->v.ownBlock=some g\/W.heap.size<=g):=by
 intro k;induction k with
 | zero =>
   intro i vd d v out W h hd hi bH hl;obtain rfl:i=P.length:=by omega
   rw[List.drop_length];exact Qh2 BP BO BG aP cP P vd d v out W h hd (by omega) (by omega)
 | succ k ih =>
   intro i vd d v out W h hd hi bH hl;have aH:i<P.length:=by omega
   obtain⟨W1,s1,a1,n1,c1,rfl,hW,b,vX,bF,p0,p1,aS⟩:=Qh6 W hd;have h1:=h.up b
   have aR:glI d (ks (P.drop i))=glI d (ks (P.drop (i+1)))++glI (d*((P.getD i (0,0)).1:Int)) (ks (P.drop (i+1))):=by
    rw[List.drop_eq_getElem_cons aH,Zk3,Zk4 aH];rfl
   have bG:=hPs (P.getD i (0,0)) (by rw[Zk3,Zk4 aH];exact List.getElem_mem _);obtain⟨Z,hZ⟩:∃ Z,(P.getD i (0,0)).1=Z:=⟨_,rfl⟩;rw[hZ] at aR bG
   have aY:(glI d (ks (P.drop (i+1)))).length=2*2 ^ k:=by
    rw[J6,show (ks (P.drop (i+1))).length=k by unfold ks;rw[List.length_map,List.length_drop];omega]
   have bT:2*2 ^ (k+1)=2*2 ^ k+2*2 ^ k:=by rw[Nat.pow_succ];omega
   have aG:=ih (i+1) _ d v out W1 h1 aS (by omega) (by omega) (by omega);have q0:W1.cell? ⟨BP,0,none⟩=some (.slice aP P.length cP):=by simp[World.cell?,h1.p]
   have q2:W1.cell? ⟨BG,0,none⟩=some (.func (.func gG) #[] #[.pointer (some ⟨BP,0,none⟩),.pointer (some ⟨BO,0,none⟩),.pointer (some ⟨BG,0,none⟩)]):=by simp[World.cell?,h1.g]
   have bI:((i:Int) == (P.length:Int))=false:=by rw[beq_eq_false_iff_ne];omega
   have bB:IntKind.i64.wrap ((i:Int)+1)=((i+1:Nat):Int):=by rw[IntKind.wrap_i64];omega
   have aO:=h.ltG;have H1:=Qh h1;have HD:=Qh aS;have HB:=Qh b;have HV:=Qh vX;have bA:=Qh aG;have bM:=Qh ih;have bO:=Qh aY;have bN:=Qh aR;have HZ:=Qh hZ;have aU:=Qh (fun (g:Nat) (e:v.ownBlock=some g)=>(h.O.lt g e).2);have eg:∀ args w,(callFunc gG args).run Tryz.prog w=.ok (.enter gG args) w:=enters_of Tryz.func121 (by kernel_rfl) rfl;clear h hd h1 aS b vX aR aG ih aY bF hZ;go_enter Tryz.func121,Tryz.ntmps121
   go_upto_region 1 with fail;rw[<- hW];clear hW;go_wp2_with (go_at_fn gG;refine bA.out.mono ?_;rintro e w2 ⟨u,v2,rfl,aF,aI,a3⟩)
   have bR:=aI.size;have bE:=HB.out.size;have bC:¬ v.ownBlock=some W.heap.size:=fun e=>by have:=(H1.out.O.lt _ e).2;have:=aU.out _ e;omega
   have aZ:=H1.out.next HV.out aO bC aI;have q3:w2.cell? ⟨BP,0,none⟩=some (.slice aP P.length cP):=by simp[World.cell?,aF.p]
   have q4:w2.cell? ⟨BG,0,none⟩=some (.func (.func gG) #[] #[.pointer (some ⟨BP,0,none⟩),.pointer (some ⟨BO,0,none⟩),.pointer (some ⟨BG,0,none⟩)]):=by simp[World.cell?,aF.g]
   obtain⟨s5,a5,n5,k5,x0,x1,-,-,aW⟩:=aZ.cells;have aQ:i<(zP P).length:=by rw[Qbe];exact aH
   obtain⟨bb,aJ,rfl,bS,aX⟩:=aF.pr.at aQ;obtain⟨s7,a7,n7,k7,y0,y1,-,hy⟩:=aX.pow aQ;rw[Qd7,HZ.out] at hy;have j0:(0:Int)<=(i:Int):=by omega
   obtain⟨N,hN⟩:∃ N,P.length=N:=⟨_,rfl⟩;rw[hN] at q3;have j1:(i:Int)<(N:Int):=by omega
   have bK:=Qh aF;have bQ:=Qh aI;have a6:=Qh a3;have HY:=Qh hy;have a4:=Qh aW;have HN:=Qh hN;have aM:sz d<=2199023255552:=by omega
   have aL:sz (Z:Int)<=2199023255552:=by omega
   clear aF aI a3 hy aW aX hN aZ q0 q2 aQ bI bA HV HD p0 p1;go_upto_region 4 with fail;refine QaT (by kernel_rfl) [10] (S:=fun w'=>w'.cell? ⟨BG,0,none⟩=some (.func (.func gG) #[] #[.pointer (some ⟨BP,0,none⟩),.pointer (some ⟨BO,0,none⟩),.pointer (some ⟨BG,0,none⟩)])/\w'.cell? ⟨W.heap.size,0,none⟩=some (.bool s5)/\w'.cell? ⟨W.heap.size,1,none⟩=some (.slice a5 n5 k5)/\w'.cell? ⟨BP,0,none⟩=some (.slice (some ⟨bb,aJ,none⟩) N cP)/\w'.cell? ⟨bb,aJ+i*3,none⟩=some (.bool s7)/\w'.cell? ⟨bb,aJ+i*3+1,none⟩=some (.slice a7 n7 k7)) ⟨q4,x0,x1,q3,y0,y1⟩ (fun aB=>?_);(refine kL 0 rfl ?_;refine kL 1 rfl ?_;refine kL 2 rfl ?_;refine kL 3 rfl ?_;refine kL 4 rfl ?_;refine kL 5 rfl ?_;refine kL 6 rfl ?_;refine kL 8 rfl ?_;refine kL 9 rfl ?_)
   (refine oL 7 rfl fun K hK=>tL ?_;go_simp);refine(Qbm _ _ d (Z:Int) _ a4.out.drew HY.out.drew aM aL).mono ?_;rintro e w3 ⟨v3,rfl,aK,aA⟩;obtain⟨s8,a8,n8,c8,rfl⟩:=aK.shape;have aT:=(bK.out.up (Below.refl _ _).drew).up aA;have aC:=Bl.up (Below.refl _ _).drew aA;have bD:=aC.size;have a9:=Qh (bM.out (i+1) _ (d*(Z:Int)) v2 (out++glI d (ks (P.drop (i+1)))) w3 aT aK (by omega) (by have:=QM d (Z:Int);omega) (by rw[List.length_append,bO.out];omega));have bU:=Qh aT;have aV:=Qh aC;replace q4:=QaD aA (Qa7 q4);replace x0:=QaD aA (Qa7 x0);replace x1:=QaD aA (Qa7 x1);replace q3:=QaD aA (Qa7 q3);replace y0:=QaD aA (Qa7 y0);replace y1:=QaD aA (Qa7 y1);clear aT aA aC aK HY a4 bB;(go_wp2_with fail;clear aB;refine nxL hK ⟨q4,x0,x1,q3,y0,y1⟩ fun aB=>tL ?_;clear hK);(refine oL 10 rfl fun K hK=>tL ?_;go_simp);refine a9.out.mono ?_;rintro e w4 ⟨u2,v4,rfl,a0,aD,a2⟩
   have aE:ButS (fun g=>g=BO\/v.ownBlock=some g) W w4:=by
    have h3:ButS (fun g=>g=BO\/v.ownBlock=some g) W w3:=((ButS.of HB.out _).trans bQ.out).trans (ButS.of aV.out _);refine⟨aD.os.trans h3.os,aD.tape.trans h3.tape,aD.output.trans h3.output,Qt h3.size aD.size,fun g hg hn=>(aD.block g (Nat.lt_of_lt_of_le hg h3.size) (fun e=>?_)).trans (h3.block g hg hn)⟩;rcases e with e|e
    ·exact hn (.inl e)
    ·rcases a6.out g e with h|h
     ·exact hn (.inr h)
     ·omega
   have bJ:=Qh a0;have bP:=Qh aE;have bL:=Qh a2;clear a0 aD a2 aE q4 x0 x1 q3 y0 y1 a9;(go_wp2_with fail;refine xL hK (tL ?_);clear hK);refine dT ?_;go_wp2_with fail;refine bodyPost_end (results_none rfl _ _ _) rfl ?_;refine⟨_,v4,rfl,?_,bP.out,fun g hg=>?_⟩
   ·rw[bN.out,<- List.append_assoc];exact bJ.out
   ·rcases bL.out g hg with h|h
    ·exact(a6.out g h).imp id (fun h=>by omega)
    ·exact .inr (by omega)
theorem Qak {l:List (Nat×Nat)} (h:∀ x∈l,3<=x.1/\1<=x.2):3 ^ l.length<=pk l:=by
 induction l with
 | nil=>exact Nat.le_refl _
 | cons x l ih =>
   have ih:=ih (fun y hy=>h y (List.mem_cons_of_mem _ hy));have hx:=h x List.mem_cons_self;rw[Qo,List.length_cons,Nat.pow_succ,Nat.mul_comm];exact Nat.mul_le_mul (Qt (Nat.pow_le_pow_left hx.1 1) (Nat.pow_le_pow_right (by omega) hx.2)) ih
theorem Facs.few {N:Nat} {P:List (Nat×Nat)} (h:Facs N P) (hN:N<1099511627776):P.length<=25:=by
 cases P with
 | nil=>exact Nat.zero_le _
 | cons x l =>
   have h1:=h.2.1;have h2:=List.pairwise_cons.1 h1;have hx:=h.1 x List.mem_cons_self;have h3:=Qak (l:=l) (fun y hy=>⟨by have:=h2.1 y hy;have:=hx.1.1;omega,(h.1 y (List.mem_cons_of_mem _ hy)).2⟩);have h4:2 ^ 1<=x.1 ^ x.2:=Qt (Nat.pow_le_pow_left hx.1.1 1) (Nat.pow_le_pow_right (by have:=hx.1.1;omega) hx.2);have h5:2*3 ^ l.length<=N:=by rw[h.2.2,Qo];exact Nat.mul_le_mul h4 h3
   rw[List.length_cons];by_cases hl:l.length<=24
   ·omega
   ·have h6:3 ^ 25<=3 ^ l.length:=Nat.pow_le_pow_right (by decide) (by omega);have h7:(3:Nat) ^ 25=847288609443:=by decide
    omega
theorem QZ {N:Nat} {l:List Int} (hN1:1<=N) (hN:N<1099511627776) (h:∀ d:Int,d∈l->d.natAbs∣N):∀ x∈l,sz x<=2:=fun x hx=>
 Qf (Nat.lt_of_le_of_lt (Nat.le_of_dvd hN1 (h x hx)) (Nat.lt_of_lt_of_le hN (by decide)))
theorem Qb1 (va:Value) (x:Int) (w:World) (hx:It w va x) (h0:x≠0) (hlt:x.natAbs<1099511627776) :
  Calls Tryz.prog 64 #[va] w fun e w'=>∃ v l P,e=.returned v/\So eI w' w.heap.size v l/\Cand x.natAbs l/\Facs x.natAbs P/\l.length=2*2 ^ P.length/\Below w.heap.size w w':=by
 obtain⟨W,s1,a1,n1,c1,rfl,hW,b,vX,a7,p0,p1,aS⟩:=Qh6 w hx;clear hx;go_enter Tryz.func64,Tryz.ntmps64
 go_upto_region 1 with fail;rw[<- hW];clear hW vX;go_wp2_with fail;refine(QcL _ x W aS h0 hlt).mono ?_;rintro e w1 ⟨v,P,rfl,hP,hF,aM⟩;obtain⟨aP,cP,rfl,-⟩:=id hP;have a5:=aM.size;replace b:=Bl.up b aM;clear aM p0 p1 aS;rw[Qbe] at hP |-;go_upto_region 4 with fail;have hA:=Qc w1 (.cells #[.slice aP P.length cP] 144);have dA:=Zk1 w1 (.cells #[.slice aP P.length cP] 144);have hB:=Qc (w1.alloc (.cells #[.slice aP P.length cP] 144)) (.cells #[.slice none 0 0] 46);have dB:=Zk1 (w1.alloc (.cells #[.slice aP P.length cP] 144)) (.cells #[.slice none 0 0] 46);have hC:=Qc ((w1.alloc (.cells #[.slice aP P.length cP] 144)).alloc (.cells #[.slice none 0 0] 46)) (.cells #[Value.nilFunc] 179);have dC:=Zk1 ((w1.alloc (.cells #[.slice aP P.length cP] 144)).alloc (.cells #[.slice none 0 0] 46)) (.cells #[Value.nilFunc] 179);replace dA:=((Bl.up hB hC).block _ (Ql dA).1).trans dA;replace dB:=(hC.block _ (Ql dB).1).trans dB;rw[Zk2] at dB;rw[Zk2,Zk2] at dC;have aL:=Bl.up hA (Bl.up hB hC);have a0:=hP.up aL;have aB:=hP.lt;replace b:=Bl.up b aL;clear hA hB hC aL hP;generalize ((w1.alloc (.cells #[.slice aP P.length cP] 144)).alloc (.cells #[.slice none 0 0] 46)).alloc (.cells #[Value.nilFunc] 179)=w3 at *;generalize w1.heap.size=BP at *;have a6:w.heap.size<=BP:=by omega
 have gc:w3.cell? ⟨BP+1+1,0,none⟩=some Value.nilFunc:=by simp[World.cell?,dC]
 have gf:w3.frozen? ⟨BP+1+1,0,none⟩=false:=by simp[World.frozen?,dC]
 have aE:=ButS.set w3 (BP+1+1) 0 (.func (.func gG) #[] #[.pointer (some ⟨BP,0,none⟩),.pointer (some ⟨BP+1,0,none⟩),.pointer (some ⟨BP+1+1,0,none⟩)])
 have aT:∀ g,g=BP+1+1->NoW w3 g:=by
  rintro g rfl o y hy;simp only[World.cell?,dC] at hy;rcases o with _|o <;> simp at hy
 have hG:GrS (w3.setCell ⟨BP+1+1,0,none⟩ (.func (.func gG) #[] #[.pointer (some ⟨BP,0,none⟩),.pointer (some ⟨BP+1,0,none⟩),.pointer (some ⟨BP+1+1,0,none⟩)])) BP (BP+1) (BP+1+1) aP cP P (.slice none 0 0) []:=by
  refine⟨(aE.block _ (Ql dA).1 (by omega)).trans dA,a0.fr aE aT (fun hl g hg e=>?_),(aE.block _ (Ql dB).1 (by omega)).trans dB,So.nil eI _ _,?_,by omega,by omega,fun hl g hg=>aB hl g hg⟩
  ·have:=aB hl g hg;omega
  ·simp[World.setCell,Array.getElem?_modify,dC]
 have aZ:=ButS.below b aE b.size (fun g e=>by omega);have HF:=Qh hF;have HG:=Qh hG;have HB:=Qh aZ;clear hF hG aZ aE aT dA dB dC a0 aB b a7 a5;go_upto_region 5 with fail;generalize w3.setCell ⟨BP+1+1,0,none⟩ (.func (.func gG) #[] #[.pointer (some ⟨BP,0,none⟩),.pointer (some ⟨BP+1,0,none⟩),.pointer (some ⟨BP+1+1,0,none⟩)])=w4 at *;clear gc gf;have gc:w4.cell? ⟨BP+1+1,0,none⟩=some (.func (.func gG) #[] #[.pointer (some ⟨BP,0,none⟩),.pointer (some ⟨BP+1,0,none⟩),.pointer (some ⟨BP+1+1,0,none⟩)]):=by simp[World.cell?,HG.out.g]
 refine QaT (by kernel_rfl) [] (S:=fun w'=>w'.cell? ⟨BP+1+1,0,none⟩=some (.func (.func gG) #[] #[.pointer (some ⟨BP,0,none⟩),.pointer (some ⟨BP+1,0,none⟩),.pointer (some ⟨BP+1+1,0,none⟩)])) gc (fun aA=>?_);(refine kL 0 rfl ?_)
 (refine oL 1 rfl fun K hK=>tL ?_;go_simp);refine(Qbi 1 _ (by decide) (by decide)).mono ?_;rintro e w5 ⟨v5,rfl,aI,aH⟩;obtain⟨s8,a8,n8,c8,rfl⟩:=aI.shape;have aF:=Bl.up (Below.refl _ _).drew aH;have aQ:=HG.out.up aF;have aD:=HF.out.few hlt
 have bB:2*2 ^ P.length<=1000000000:=by
  have:=Nat.pow_le_pow_right (show 0<2 by decide) aD;have h2:(2:Nat) ^ 25=33554432:=by decide
  omega
 have HC:=Qh (Qi7 BP (BP+1) (BP+1+1) aP cP P (by omega) (fun y hy=>by
  have h1:=(HF.out.prs.2 y.1).1 (List.mem_map.2 ⟨y,hy,rfl⟩);exact Qf (Nat.lt_of_le_of_lt (Nat.le_of_dvd (by omega) h1.2) (Nat.lt_of_lt_of_le hlt (by decide)))) P.length 0 _ 1 _ [] w5 aQ aI (by omega) (by decide) (by simpa using bB))
 have bD:=Qh aQ;have aR:=Qh (Bl.up (Bl.drew HB.out) aH);replace gc:=QaD aH (Qa7 gc);clear aH aF aI aQ HB HG;have eg:∀ args w,(callFunc gG args).run Tryz.prog w=.ok (.enter gG args) w:=enters_of Tryz.func121 (by kernel_rfl) rfl;(go_wp2_with fail;clear aA;refine nxL hK gc fun aA=>tL ?_;clear hK);(refine oL 2 rfl fun K hK=>tL ?_;go_simp);refine HC.out.mono ?_;rintro e w6 ⟨u6,v6,rfl,aG,a2,bA⟩;rw[List.nil_append,List.drop_zero] at aG;have g6:=aG.o;have a4:=Qh (ButS.below aR.out a2 aR.out.size (fun g e=>by rcases e with e|e;omega;simp[Value.ownBlock] at e));have g7:w6.cell? ⟨BP+1+1,0,none⟩=some (.func (.func gG) #[] #[.pointer (some ⟨BP,0,none⟩),.pointer (some ⟨BP+1,0,none⟩),.pointer (some ⟨BP+1+1,0,none⟩)]):=by simp[World.cell?,aG.g]
 have aC:=Qh aG;clear HC gc aG a2 bA bD aR;(go_wp2_with fail;clear aA;refine nxL hK g7 fun aA=>tL ?_;clear hK);refine dT ?_;clear g7 aA;have gv:w6.cell? ⟨BP+1,0,none⟩=some v6:=by simp[World.cell?,g6]
 have aY:(glI 1 (ks P)).length=2*2 ^ P.length:=by rw[J6];unfold ks;rw[List.length_map]
 have a3:=Qh aY
 have aX:=QZ (N:=x.natAbs) (by omega) hlt (l:=glI 1 (ks P)) (fun d hd=>by
  have h1:=(Qaq.1 hd);have hp:=HF.out.prs
  have hc:=Qhp (n:=x.natAbs) (by omega) hp (l:=(glI 1 (ks P)).mergeSort (fun a b=>decide (a<=b))) (List.mergeSort_perm _ _) (by
   have:=List.pairwise_mergeSort (le:=fun (a b:Int)=>decide (a<=b)) (fun a b c h1 h2=>by simp at *;omega) (fun a b=>by simp;omega) (glI 1 (ks P));exact this.imp (fun h=>by simpa using h))
  exact((hc.2 d).1 ((List.mergeSort_perm _ _).mem_iff.2 hd)).2.2)
 have bE:=Qh aX;clear aY aX g6 aD;have bG:=aC.out.og;obtain⟨aO,cO,rfl,-⟩:=aC.out.O.slice;go_wp2_with fail;refine(Qg3 aC.out.O (fun y hy=>Qt (bE.out y hy) (by decide)) (by rw[a3.out];omega)).mono ?_;rintro e w7 ⟨rfl,l,aK,aW,aV,aJ⟩;have a9:=aC.out.ltG;have bH:=Yc aJ (by omega) (fun e=>by have:=(aC.out.O.lt _ e).1;omega) gv;have HL:=Qh (ButS.below a4.out aJ a4.out.size (fun g e=>by have:=(aC.out.O.lt g e).1;omega));have HO:=Qh (aV.base (show w.heap.size<=BP+1+1+1 by omega));have bF:=Qh (Qhp (n:=x.natAbs) (by omega) HF.out.prs aK aW);have aU:l.length=(glI 1 (ks P)).length:=aK.length_eq;have bC:=Qh (show l.length=2*2 ^ P.length by rw[aU,a3.out]);clear aK aW aV aJ gv aU;go_wp2_with fail;go_ret
 exact⟨_,l,P,rfl,HO.out,bF.out,HF.out,bC.out,HL.out⟩
theorem Qcn {fn:Func} {R:Ending->World->Prop} {t:Tmp} {T:TypeId} {a:Act} {w:World} {B:Nat} {v:Value} (hr:fn.results = #[.cell t T]) (ht:a.tmps.getD t undef=.pointer (some ⟨B,0,none⟩)) (hd:a.defers=[])
  (hl:(loadVar T ⟨B,0,none⟩).run Tryz.prog w=.ok v w) (hR:R (.returned v) w):bodyPost Tryz.prog fn R .ret a w:=by
 refine bodyPost_ret ?_ hd hR;have aA:a.tmps[t]?.getD undef=.pointer (some ⟨B,0,none⟩):=by simpa using ht
 have hA:(asAddr (.pointer (some ⟨B,0,none⟩))).run Tryz.prog w=.ok ⟨B,0,none⟩ w:=rfl;simp[results,hr,aA,hl,hA]
theorem Qcw {w:World} {B T:Nat} {fr:Nat×Nat} {x0 x1 x2 x3:Value} (h:w.heap[B]? = some (.cells #[x0,x1,x2,x3] T fr)) (y0 y1 y2 y3:Value) :
  ((((w.setCell ⟨B,0,none⟩ y0).setCell ⟨B,1,none⟩ y1).setCell ⟨B,2,none⟩ y2).setCell ⟨B,3,none⟩ y3).heap[B]? = some (.cells #[y0,y1,y2,y3] T fr):=by
 simp[World.setCell,Array.getElem?_modify,h]
theorem QgH (w:World) (B:Nat) (y0 y1 y2 y3:Value):ButS (fun k=>k=B) w ((((w.setCell ⟨B,0,none⟩ y0).setCell ⟨B,1,none⟩ y1).setCell ⟨B,2,none⟩ y2).setCell ⟨B,3,none⟩ y3):=
 (((ButS.set w B 0 _).trans (ButS.set _ B 1 _)).trans (ButS.set _ B 2 _)).trans (ButS.set _ B 3 _)
theorem Qky (w:World) (B T:Nat) (fr:Nat×Nat) (x0 x1 x2 x3:Value) (h:w.heap[B]? = some (.cells #[x0,x1,x2,x3] T fr)):(loadVar 125 ⟨B,0,none⟩).run Tryz.prog w=.ok (.agg #[x0,x1,x2,x3]) w:=by
 simp[go_sem,World.cell?,h]
theorem Qjj {k:Nat} {x y:Int} (h0:sz x<=k) (h1:sz y<=k):∀ z∈[x,y],sz z<=k:=by
 intro z hz;simp only[List.mem_cons,List.not_mem_nil,or_false] at hz;rcases hz with rfl|rfl <;> assumption
theorem QkZ {k:Nat} {x y u:Int} (h0:sz x<=k) (h1:sz y<=k) (h2:sz u<=k):∀ z∈[x,y,u],sz z<=k:=by
 intro z hz;simp only[List.mem_cons,List.not_mem_nil,or_false] at hz;rcases hz with rfl|rfl|rfl <;> assumption
theorem Qjm (x y:Int):Qfl [x,y]=x*y:=by simp[Qfl]
theorem QkW (x y u:Int):Qfl [x,y,u]=x*y*u:=by simp[Qfl]
theorem nw4 {w:World} {B T:Nat} {fr:Nat×Nat} {s1 s2:Bool} {a1 a2:Option Addr} {n1 n2 c1 c2:Nat} (h:w.heap[B]? = some (.cells #[.bool s1,.slice a1 n1 c1,.bool s2,.slice a2 n2 c2] T fr)):∀ g,g=B->NoW w g:=by
 rintro g rfl o y hy;simp only[World.cell?,h] at hy;rcases o with _|_|_|_|o <;> simp at hy
theorem QbT (va:Value) (a b:Int) (w:World) (h:Qx w va a b) (ha:sz a<=1000000) (hb:sz b<=1000000) :
  Calls Tryz.prog 88 #[va] w fun e w'=>∃ v,e=.returned v/\Qx w' v (-2*a) (a*a-4*b)/\Below w.heap.size w w':=by
 obtain⟨s1,a1,n1,c1,s2,a2,n2,c2,rfl,hA,hB⟩:=h;go_enter Tryz.func88,Tryz.ntmps88
 go_upto_region 1 with fail;have b0:=Qc w (Qls 125 s1 a1 n1 c1 s2 a2 n2 c2);have hD:=Zk1 w (Qls 125 s1 a1 n1 c1 s2 a2 n2 c2);have b1:=Qc (w.alloc (Qls 125 s1 a1 n1 c1 s2 a2 n2 c2)) (Qls 125 false none 0 0 false none 0 0);have hR:=Zk1 (w.alloc (Qls 125 s1 a1 n1 c1 s2 a2 n2 c2)) (Qls 125 false none 0 0 false none 0 0);replace hD:=(b1.block _ (Ql hD).1).trans hD;rw[Zk2] at hR;have bl:=Bl.up b0 b1;replace hA:=hA.up bl;replace hB:=hB.up bl;clear b0 b1;generalize (w.alloc (Qls 125 s1 a1 n1 c1 s2 a2 n2 c2)).alloc (Qls 125 false none 0 0 false none 0 0)=W at *;obtain⟨p0,p1,p2,p3⟩:=Qa3 hD;have HA:=Qh hA;have HB:=Qh hB;have HL:=Qh bl;have HR:=Qh hR;clear hD hA hB bl hR;refine QaT (by kernel_rfl) [18] (S:=fun w'=>w'.cell? ⟨w.heap.size,0,none⟩=some (.bool s1)/\w'.cell? ⟨w.heap.size,1,none⟩=some (.slice a1 n1 c1)/\w'.cell? ⟨w.heap.size,2,none⟩=some (.bool s2)/\w'.cell? ⟨w.heap.size,3,none⟩=some (.slice a2 n2 c2)) ⟨p0,p1,p2,p3⟩ (fun aA=>?_);(refine kL 1 rfl ?_;refine kL 2 rfl ?_;refine kL 5 rfl ?_;refine kL 6 rfl ?_;refine kL 7 rfl ?_;refine kL 8 rfl ?_;refine kL 12 rfl ?_;refine kL 13 rfl ?_)
 clear aA;refine Qa5 [(0,some 3),(3,some 6),(4,some 7),(9,some 12),(10,some 13),(11,some 14),(14,some 17),(15,some 18),(16,some 19)] 2 (FlV (kvR (fun i=>if i=0 then .int (-2) else if i=3 then .row [-2,a] else if i=4 then .int (-2*a) else if i=9 then .row [a,a] else if i=10 then .int (a*a) else if i=11 then .int 4 else if i=14 then .row [4,b] else if i=15 then .int (4*b) else if i=16 then .int (a*a-4*b) else .any) []) W) rfl (by kernel_rfl) (by decide) (by kernel_rfl) (by kernel_rfl) (by kernel_rfl) (fun bb xx wz h=>(fun hb'=>⟨QaD hb' p0,QaD hb' p1,QaD hb' p2,QaD hb' p3⟩) h.bl) (fun xx=>FlV.start _ _ _) ?_ ?_
 ·intro i hi;have aX:i=0\/i=3\/i=4\/i=9\/i=10\/i=11\/i=14\/i=15\/i=16:=by simpa using hi
  clear hi;rcases aX with rfl|rfl|rfl|rfl|rfl|rfl|rfl|rfl|rfl
  ·refine⟨_,rfl,fun bb xx wz hJ hbf hw K hK=>?_⟩;clear hbf hw;simp only[Qba] at hK |-;go_simp;refine(Qbi (-2) wz (by decide) (by decide)).mono ?_;rintro e w8 ⟨v,rfl,hv,hb⟩;exact hK.out _ _ (kvR.put hJ 0 rfl hv hb)
  ·refine⟨_,rfl,fun bb xx wz hJ hbf hw K hK=>?_⟩;have aC:=(kvR.int hJ (i:=0) rfl (hw 0 (by kernel_rfl))).ip;have aB:=Classical.choose_spec aC;generalize Classical.choose aC=q0 at aB;have aE:=aB.e;have aP:=Qh aB.h;clear aC aB;clear hw;simp only[Qba,aE] at hK |-;clear aE;go_simp;exact hK.out _ _ (kvR.put hJ 3 rfl (sr2 (p0:=q0) (p1:=(s1,a1,n1,c1)) aP.out (HA.out.up hJ.bl)) (Qc _ _))
  ·refine⟨_,rfl,fun bb xx wz hJ hbf hw K hK=>?_⟩;have hr:=kvR.row hJ (i:=3) rfl (hw 3 (by kernel_rfl));clear hbf hw;simp only[Qba] at hK |-;go_simp;refine(Qbd _ _ wz hr (by simp) (Qjj (by decide) (Qt ha (by decide)))).mono ?_;rintro e w8 ⟨v,rfl,hv,hb⟩;rw[Qjm] at hv;exact hK.out _ _ (kvR.put hJ 4 rfl hv hb)
  ·refine⟨_,rfl,fun bb xx wz hJ hbf hw K hK=>?_⟩;clear hw;simp only[Qba] at hK |-;go_simp;exact hK.out _ _ (kvR.put hJ 9 rfl (sr2 (p0:=(s1,a1,n1,c1)) (p1:=(s1,a1,n1,c1)) (HA.out.up hJ.bl) (HA.out.up hJ.bl)) (Qc _ _))
  ·refine⟨_,rfl,fun bb xx wz hJ hbf hw K hK=>?_⟩;have hr:=kvR.row hJ (i:=9) rfl (hw 9 (by kernel_rfl));clear hbf hw;simp only[Qba] at hK |-;go_simp;refine(Qbd _ _ wz hr (by simp) (Qjj (Qt ha (by decide)) (Qt ha (by decide)))).mono ?_;rintro e w8 ⟨v,rfl,hv,hb⟩;rw[Qjm] at hv;exact hK.out _ _ (kvR.put hJ 10 rfl hv hb)
  ·refine⟨_,rfl,fun bb xx wz hJ hbf hw K hK=>?_⟩;clear hbf hw;simp only[Qba] at hK |-;go_simp;refine(Qbi 4 wz (by decide) (by decide)).mono ?_;rintro e w8 ⟨v,rfl,hv,hb⟩;exact hK.out _ _ (kvR.put hJ 11 rfl hv hb)
  ·refine⟨_,rfl,fun bb xx wz hJ hbf hw K hK=>?_⟩;have aC:=(kvR.int hJ (i:=11) rfl (hw 11 (by kernel_rfl))).ip;have aB:=Classical.choose_spec aC;generalize Classical.choose aC=q0 at aB;have aE:=aB.e;have aP:=Qh aB.h;clear aC aB;clear hw;simp only[Qba,aE] at hK |-;clear aE;go_simp;exact hK.out _ _ (kvR.put hJ 14 rfl (sr2 (p0:=q0) (p1:=(s2,a2,n2,c2)) aP.out (HB.out.up hJ.bl)) (Qc _ _))
  ·refine⟨_,rfl,fun bb xx wz hJ hbf hw K hK=>?_⟩;have hr:=kvR.row hJ (i:=14) rfl (hw 14 (by kernel_rfl));clear hbf hw;simp only[Qba] at hK |-;go_simp;refine(Qbd _ _ wz hr (by simp) (Qjj (by decide) (Qt hb (by decide)))).mono ?_;rintro e w8 ⟨v,rfl,hv,hb⟩;rw[Qjm] at hv;exact hK.out _ _ (kvR.put hJ 15 rfl hv hb)
  ·refine⟨_,rfl,fun bb xx wz hJ hbf hw K hK=>?_⟩;have hr:=kvR.int hJ (i:=10) rfl (hw 10 (by kernel_rfl));have aV:=kvR.int hJ (i:=15) rfl (hw 15 (by kernel_rfl));clear hbf hw;simp only[Qba] at hK |-;go_simp;refine(Qe6 _ _ _ _ wz hr aV (by have:=QM a a;omega) (by have:=QM 4 b;have h4:sz 4<=1:=(by decide);omega)).mono ?_;rintro e w8 ⟨v,rfl,hv,hb⟩;exact hK.out _ _ (kvR.put hJ 16 rfl hv hb)
 intro bb xx wz aO hJ;have aW:=(kvR.int hJ (i:=4) rfl (aO 4 (by decide))).ip;have aK:=(kvR.int hJ (i:=16) rfl (aO 16 (by decide))).ip;obtain⟨⟨s4,a4,n4,c4⟩,e4,h4⟩:=aW;obtain⟨⟨s5,a5,n5,c5⟩,e5,h5⟩:=aK;have aD:=hJ.bl;clear aO hJ;obtain⟨u0,aR⟩:∃ u,u=xx 0:=⟨_,rfl⟩;obtain⟨u3,aQ⟩:∃ u,u=xx 3:=⟨_,rfl⟩;obtain⟨u9,hu9⟩:∃ u,u=xx 9:=⟨_,rfl⟩;obtain⟨u10,aI⟩:∃ u,u=xx 10:=⟨_,rfl⟩;obtain⟨u11,aH⟩:∃ u,u=xx 11:=⟨_,rfl⟩;obtain⟨u14,aG⟩:∃ u,u=xx 14:=⟨_,rfl⟩;obtain⟨u15,aF⟩:∃ u,u=xx 15:=⟨_,rfl⟩;simp only[QfQ,show xx 4=_ from e4,show xx 16=_ from e5,<- aR,<- aQ,<- hu9,<- aI,<- aH,<- aG,<- aF];clear e4 e5 aR aQ hu9 aI aH aG aF;have aJ:=(aD.block _ (Ql HR.out).1).trans HR.out;obtain⟨d0,d1,d2,d3⟩:=Qa3 aJ;obtain⟨f0,f1,f2,f3⟩:=Qcf aJ;have aA:wz.cell? ⟨w.heap.size,0,none⟩=some (.bool s1)/\wz.cell? ⟨w.heap.size,1,none⟩=some (.slice a1 n1 c1)/\wz.cell? ⟨w.heap.size,2,none⟩=some (.bool s2)/\wz.cell? ⟨w.heap.size,3,none⟩=some (.slice a2 n2 c2):=⟨QaD aD p0,QaD aD p1,QaD aD p2,QaD aD p3⟩;have aT:=Qh aJ;have H4:=Qh h4;have H5:=Qh h5;have aU:=Qh (Bl.up HL.out aD);clear aJ h4 h5 aD p0 p1 p2 p3;refine pL 17 rfl ?_;(refine oL 18 rfl fun K hK=>tL ?_;go_simp);(go_wp2_with fail;refine xL hK (tL ?_);clear hK);refine dT ?_;clear aA d0 d1 d2 d3 f0 f1 f2 f3;have hh:=Qcw aT.out (.bool s4) (.slice a4 n4 c4) (.bool s5) (.slice a5 n5 c5);have aM:=QgH wz (w.heap.size+1) (.bool s4) (.slice a4 n4 c4) (.bool s5) (.slice a5 n5 c5);have aS:=nw4 aT.out;have k4:=H4.out.fr aM aS;have k5:=H5.out.fr aM aS;have aL:=ButS.below aU.out aM aU.out.size (fun g e=>by omega);go_wp2_with fail;exact Qcn (B:=w.heap.size+1) rfl rfl rfl (Qky _ _ _ _ _ _ _ _ hh) ⟨_,rfl,⟨s4,a4,n4,c4,s5,a5,n5,c5,rfl,k4,k5⟩,aL⟩
