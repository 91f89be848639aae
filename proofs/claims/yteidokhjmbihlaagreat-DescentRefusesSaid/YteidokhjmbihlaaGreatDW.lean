/-
  A region with a call of two results, of which the first goes into a new variable.
-/
import Derived.Test.YteidokhjmbihlaaGreatDC
import Derived.Test.YteidokhjmbihlaaGreatDV
set_option linter.all false
namespace Go.Proofs.YteidokhjmbihlaaGreat
open Go.RowKit
structure FlS (Y:Nat->Value->World->Prop) (X:Value->World->Prop) (cd:Value) (q:Nat) (W0:World) (b:Nat->Bool) (x:Nat->Value) (W:World):Prop where
 bl:Below W0.heap.size W0 W
 pre:∀ i,i<q->b i=true->Y i (x i) W
 tq:∀ i,i=q\/i=q+1->b i=true->∃ u,x i=.tuple #[u,cd]/\X u W
 e0:b (q+2)=true->X (x (q+2)) W
 e1:b (q+3)=true->x (q+3)=cd
 vr:b (q+4)=true->∃ B c0 c1 c2 c3 c4 c5,x (q+4)=.pointer (some ⟨B,0,none⟩)/\W0.heap.size<=B/\W.heap[B]? = some (.cells #[c0,c1,c2,c3,c4,c5] 53 (0,0))/\NoW W B/\(b (q+5)=true->x (q+2)=.agg #[c0,c1,c2,c3,c4,c5])
 so:b (q+5)=true->b (q+4)=true/\b (q+2)=true
section
variable {Y:Nat->Value->World->Prop} {X:Value->World->Prop} {cd:Value} {q:Nat} {W0 W W':World} {b:Nat->Bool} {x:Nat->Value}
theorem FlS.start (Y:Nat->Value->World->Prop) (X:Value->World->Prop) (cd:Value) (q:Nat) (W0:World) (x:Nat->Value):FlS Y X cd q W0 (fun _=>false) x W0:=
 ⟨Below.refl _ _,(fun _ _ h=>nomatch h),(fun _ _ h=>nomatch h),(fun h=>nomatch h),(fun h=>nomatch h),(fun h=>nomatch h),fun h=>nomatch h⟩
theorem FlS.put (h:FlS Y X cd q W0 b x W) (hY:∀ i v,Kp (Y i v)) (hX:∀ v,Kp (X v)) {i:Nat} (hi:i<q+4) (hb0:b (q+5)=true->i≠q+2) {v:Value} (hb:Below W.heap.size W W') (h0:i<q->Y i v W') (h1:i=q\/i=q+1->∃ u,v=.tuple #[u,cd]/\X u W') (h2:i=q+2->X v W') (h3:i=q+3->v=cd) :
  FlS Y X cd q W0 (Qn b i true) (Qn x i v) W':=by
 refine⟨h.bl.trans (hb.mono h.bl.size),fun k hk hbk=>?_,fun k hk hbk=>?_,fun hbk=>?_,fun hbk=>?_,fun hbk=>?_,fun hbk=>?_⟩
 ·by_cases e:k=i
  ·subst e;rw[Qb];exact h0 hk
  ·rw[Qa _ _ e] at hbk |-;exact(hY _ _).up (h.pre k hk hbk) hb
 ·by_cases e:k=i
  ·subst e;rw[Qb];exact h1 hk
  ·rw[Qa _ _ e] at hbk |-;obtain⟨u,k1,k2⟩:=h.tq k hk hbk;exact⟨u,k1,(hX u).up k2 hb⟩
 ·by_cases e:q+2=i
  ·rw[e,Qb];exact h2 e.symm
  ·rw[Qa _ _ e] at hbk |-;exact(hX _).up (h.e0 hbk) hb
 ·by_cases e:q+3=i
  ·rw[e,Qb];exact h3 e.symm
  ·rw[Qa _ _ e] at hbk |-;exact h.e1 hbk
 ·rw[Qa _ _ (show q+4≠i by omega)] at hbk |-;obtain⟨B,c0,c1,c2,c3,c4,c5,k1,k2,k3,k4,k5⟩:=h.vr hbk;refine⟨B,c0,c1,c2,c3,c4,c5,k1,k2,(Kp.blk _ _).up k3 hb,k4.fr (ButS.of hb (fun _=>False)) (Ql k3).1 (fun h=>h),fun e=>?_⟩;rw[Qa _ _ (show q+5≠i by omega)] at e;rw[Qa _ _ (Ne.symm (hb0 e))];exact k5 e
 ·rw[Qa _ _ (show q+5≠i by omega)] at hbk;obtain⟨k1,k2⟩:=h.so hbk;refine⟨by rw[Qa _ _ (show q+4≠i by omega)];exact k1,?_⟩;rw[Qa _ _ (Ne.symm (hb0 hbk))];exact k2
theorem FlS.var (h:FlS Y X cd q W0 b x W) (hY:∀ i v,Kp (Y i v)) (hX:∀ v,Kp (X v)) (h4:b (q+4)=false) :
  FlS Y X cd q W0 (Qn b (q+4) true) (Qn x (q+4) (.pointer (some ⟨W.heap.size,0,none⟩))) (W.alloc (Qlt 53 false none 0 0 false none 0 0 false none 0 0)):=by
 have hb:=Qc W (Qlt 53 false none 0 0 false none 0 0 false none 0 0)
 have h5:b (q+5)=false:=by
  cases e:b (q+5) with
  | false=>rfl
  | true=>have:=(h.so e).1;rw[h4] at this;cases this
 refine⟨h.bl.trans (hb.mono h.bl.size),fun k hk hbk=>?_,fun k hk hbk=>?_,fun hbk=>?_,fun hbk=>?_,fun hbk=>?_,fun hbk=>?_⟩
 ·rw[Qa _ _ (show k≠q+4 by omega)] at hbk |-;exact(hY _ _).up (h.pre k hk hbk) hb
 ·rw[Qa _ _ (show k≠q+4 by omega)] at hbk |-;obtain⟨u,k1,k2⟩:=h.tq k hk hbk;exact⟨u,k1,(hX u).up k2 hb⟩
 ·rw[Qa _ _ (show q+2≠q+4 by omega)] at hbk |-;exact(hX _).up (h.e0 hbk) hb
 ·rw[Qa _ _ (show q+3≠q+4 by omega)] at hbk |-;exact h.e1 hbk
 ·rw[Qb];refine⟨_,_,_,_,_,_,_,rfl,h.bl.size,Zk1 _ _,NoW.new _ _ _ (by decide),fun e=>?_⟩;rw[Qa _ _ (show q+5≠q+4 by omega),h5] at e
  cases e
 ·rw[Qa _ _ (show q+5≠q+4 by omega),h5] at hbk
  cases hbk
theorem FlS.sto (h:FlS Y X cd q W0 b x W) (hS:∀ v w,X v w->∃ s1 a1 n1 k1 s2 a2 n2 k2 s3 a3 n3 k3,v=.agg #[.bool s1,.slice a1 n1 k1,.bool s2,.slice a2 n2 k2,.bool s3,.slice a3 n3 k3]) (h4:b (q+4)=true) (h2:b (q+2)=true) :
  ∃ p:Nat×(Bool×Option Addr×Nat×Nat)×(Bool×Option Addr×Nat×Nat)×(Bool×Option Addr×Nat×Nat)×Value×Value×Value×Value×Value×Value,x (q+4)=.pointer (some ⟨p.1,0,none⟩)/\x (q+2)=.agg #[.bool p.2.1.1,.slice p.2.1.2.1 p.2.1.2.2.1 p.2.1.2.2.2,.bool p.2.2.1.1,.slice p.2.2.1.2.1 p.2.2.1.2.2.1 p.2.2.1.2.2.2,.bool p.2.2.2.1.1,.slice p.2.2.2.1.2.1 p.2.2.2.1.2.2.1 p.2.2.2.1.2.2.2] /\
   W.heap[p.1]? = some (.cells #[p.2.2.2.2.1,p.2.2.2.2.2.1,p.2.2.2.2.2.2.1,p.2.2.2.2.2.2.2.1,p.2.2.2.2.2.2.2.2.1,p.2.2.2.2.2.2.2.2.2] 53 (0,0)):=by
 obtain⟨B,c0,c1,c2,c3,c4,c5,k1,k2,k3,k4,k5⟩:=h.vr h4;obtain⟨s1,a1,n1,g1,s2,a2,n2,g2,s3,a3,n3,g3,e⟩:=hS _ _ (h.e0 h2);exact⟨(B,(s1,a1,n1,g1),(s2,a2,n2,g2),(s3,a3,n3,g3),c0,c1,c2,c3,c4,c5),k1,e,k3⟩
theorem FlS.st (h:FlS Y X cd q W0 b x W) (hY:∀ i v,Kq (fun _=>False) (Y i v)) (hX:∀ v,Kq (fun _=>False) (X v)) (h4:b (q+4)=true) (h2:b (q+2)=true) {B:Nat} {s1 s2 s3:Bool} {a1 a2 a3:Option Addr} {n1 n2 n3 k1 k2 k3:Nat} (e4:x (q+4)=.pointer (some ⟨B,0,none⟩)) (e2:x (q+2)=.agg #[.bool s1,.slice a1 n1 k1,.bool s2,.slice a2 n2 k2,.bool s3,.slice a3 n3 k3]) {d:Value} :
  FlS Y X cd q W0 (Qn b (q+5) true) (Qn x (q+5) d) (Qas W B (.bool s1) (.slice a1 n1 k1) (.bool s2) (.slice a2 n2 k2) (.bool s3) (.slice a3 n3 k3)):=by
 obtain⟨B',c0,c1,c2,c3,c4,c5,g1,g2,g3,g4,g5⟩:=h.vr h4;have eB:B'=B:=by rw[e4] at g1;injection g1 with g1;injection g1 with g1;injection g1 with g1;exact g1.symm
 subst eB;have aA:=QaN W B' (.bool s1) (.slice a1 n1 k1) (.bool s2) (.slice a2 n2 k2) (.bool s3) (.slice a3 n3 k3);have hn:∀ g,g=B'->NoW W g:=fun g e=>by subst e;exact g4
 refine⟨ButS.below h.bl aA h.bl.size (fun g e=>by omega),fun k hk hbk=>?_,fun k hk hbk=>?_,fun hbk=>?_,fun hbk=>?_,fun hbk=>?_,fun hbk=>?_⟩
 ·rw[Qa _ _ (show k≠q+5 by omega)] at hbk |-;exact(hY _ _).fr (h.pre k hk hbk) aA hn (fun _ h=>h.elim)
 ·rw[Qa _ _ (show k≠q+5 by omega)] at hbk |-;obtain⟨u,m1,m2⟩:=h.tq k hk hbk;exact⟨u,m1,(hX u).fr m2 aA hn (fun _ h=>h.elim)⟩
 ·rw[Qa _ _ (show q+2≠q+5 by omega)] at hbk |-;exact(hX _).fr (h.e0 hbk) aA hn (fun _ h=>h.elim)
 ·rw[Qa _ _ (show q+3≠q+5 by omega)] at hbk |-;exact h.e1 hbk
 ·rw[Qa _ _ (show q+4≠q+5 by omega),Qa _ _ (show q+2≠q+5 by omega)];have hh:=QaF g3 (.bool s1) (.slice a1 n1 k1) (.bool s2) (.slice a2 n2 k2) (.bool s3) (.slice a3 n3 k3);exact⟨B',_,_,_,_,_,_,e4,g2,hh,nw6 hh _ rfl,fun _=>e2⟩
 ·rw[Qa _ _ (show q+4≠q+5 by omega),Qa _ _ (show q+2≠q+5 by omega)];exact⟨h4,h2⟩
theorem FlS.out (h:FlS Y X cd q W0 b x W) (h0:b q=true) (h1:b (q+1)=true) (h2:b (q+2)=true) (h3:b (q+3)=true) (h4:b (q+4)=true) (h5:b (q+5)=true) :
  ∃ t u B c0 c1 c2 c3 c4 c5,x q=t/\x (q+1)=u/\x (q+2)=.agg #[c0,c1,c2,c3,c4,c5]/\X (.agg #[c0,c1,c2,c3,c4,c5]) W/\x (q+3)=cd/\x (q+4)=.pointer (some ⟨B,0,none⟩)/\W.heap[B]? = some (.cells #[c0,c1,c2,c3,c4,c5] 53 (0,0))/\Below W0.heap.size W0 W:=by
 obtain⟨B,c0,c1,c2,c3,c4,c5,k1,k2,k3,k4,k5⟩:=h.vr h4;have e:=k5 h5;exact⟨_,_,B,c0,c1,c2,c3,c4,c5,rfl,rfl,e,e▸h.e0 h2,h.e1 h3,k1,k3,h.bl⟩
end
