/-
  The reference: Gcd.
-/
import Derived.Test.YteidokhjmbihlaaGreatFE1
import Derived.Test.YteidokhjmbihlaaGreatFM
import Derived.Test.YteidokhjmbihlaaGreatFL1
set_option linter.all false
set_option maxRecDepth 100000
set_option maxHeartbeats 2000000
namespace Go.Proofs.YteidokhjmbihlaaGreat
open Go.RowKit
attribute [local go_sem ↓] Go.wp_at_zero Go.wp_at_succ
def Qkm {α : Type} (p : α -> Bool) (l:List α):Int:=if l.findIdx p<l.length then (l.findIdx p:Int) else -1
theorem Qi1 {α : Type} {p : α -> Bool} {l:List α} {d : α} {i:Nat} (hi:i<l.length) (h:p (l.getD i d)=true) (hn:∀ j,j<i->p (l.getD j d)=false):Qkm p l=i:=by
 have hg:l.getD i d=l[i]:=by simp[Zk3,hi]
 have:l.findIdx p=i:=by
  rw[List.findIdx_eq hi];refine⟨by rw[<- hg];exact h,fun j hj=>?_⟩;have:=hn j hj;rw[Zk3,Zk4 (by omega)] at this;exact this
 unfold Qkm;rw[this,if_pos hi]
theorem Qh3 {α : Type} {p : α -> Bool} {l:List α} {d : α} (hn:∀ j,j<l.length->p (l.getD j d)=false):Qkm p l = -1:=by
 unfold Qkm;rw[if_neg];intro h;have h1:=List.findIdx_getElem (w:=h);have:=hn _ h;rw[Zk3,Zk4 h] at this;simp only[Option.getD_some] at this;rw[h1] at this
 cases this
theorem Qja {α : Type} (p : α -> Bool) (l:List α):decide (0<=Qkm p l)=l.any p:=by
 unfold Qkm;rw[Bool.eq_iff_iff];simp only[decide_eq_true_eq,List.any_eq_true];rw[<- List.findIdx_lt_length];split <;> simp_all
def Fp1 (g:Nat) (lb:Array Value) (w:World) (l:List Int) (p:Int->Bool):Prop:=
 ∀ i,i<l.length->∀ (W:World) (v:Value),Below w.heap.size w W->It W v (l.getD i 0) ->
  Calls Tryz.prog g (#[v]++lb) W fun e w'=>e=.returned (.bool (p (l.getD i 0)))/\Below W.heap.size W w'
theorem Qij (va:Value) (l:List Int) (g:Nat) (lb:Array Value) (p:Int->Bool) (w:World) (eg:∀ args w,(callFunc g args).run Tryz.prog w=.ok (.enter g args) w)
  (ha:Rw w va l) (hN:l.length<=1099511627776) (hf:Fp1 g lb w l p) :
  Calls Tryz.prog 170 #[va,.func (.func g) #[] lb] w fun e w'=>e=.returned (.int .i64 (Qkm p l))/\Below w.heap.size w w':=by
 obtain⟨a,ca,rfl,aI,aE⟩:=ha;go_enter Tryz.func170,Tryz.ntmps170
 go_wp2_with fail
 go_loopw [5,8] (fun s5 s wr=>∃ (i:Nat),i<=l.length/\s=.int .i64 i/\(∀ j,j<i->p (l.getD j 0)=false)/\Below w.heap.size w wr)
  (fun _ s _=>l.length-(intOf s).toNat)
 case atStart=>exact⟨0,Nat.zero_le _,rfl,fun j hj=>absurd hj (Nat.not_lt_zero _),Below.refl _ _⟩
 case round=>
  obtain⟨i,hi,rfl,aC,aB⟩:=hrel;have HV:=Qh aC;clear aC;by_cases hlt:i<l.length
  ·obtain⟨ba,aG,rfl,aJ,aF⟩:=aE.at hlt;obtain⟨s1,a1,n1,k1,p0,p1,p2⟩:=aF i hlt;clear aF aE;replace p0:=QaD aB p0;replace p1:=QaD aB p1;replace p2:=p2.up aB;have aA:=hf i hlt _ _ aB p2;clear hf p2
   cases hq:p (l.getD i 0) with
   | true =>
     rw[hq] at aA;have HQ:=Qh hq;clear hq;go_wp2_with (go_at_fn g;refine aA.mono ?_;rintro e w2 ⟨rfl,aD⟩)
     go_ret
     exact⟨Qa2 (by rw[Qi1 (d:=0) hlt HQ.out HV.out];rfl),Bl.up aB aD⟩
   | false =>
     rw[hq] at aA;have HQ:=Qh hq;clear hq;go_wp2_with (go_at_fn g;refine aA.mono ?_;rintro e w2 ⟨rfl,aD⟩)
     go_roundw
     case rel=>
      refine⟨i+1,by omega,by go_num,fun j hj=>?_,Bl.up aB aD⟩;by_cases e:j=i
      ·subst e;exact HQ.out
      ·exact HV.out j (by omega)
     case measure=>simp[intOf];omega
  ·have aH:i=l.length:=by omega
   subst aH;go_wp2_with fail;go_ret
   exact⟨Qa2 (by rw[Qh3 (d:=0) HV.out];rfl),aB⟩
theorem Qim (va:Value) (l:List Int) (g:Nat) (lb:Array Value) (p:Int->Bool) (w:World) (eg:∀ args w,(callFunc g args).run Tryz.prog w=.ok (.enter g args) w)
  (ha:Rw w va l) (hN:l.length<=1099511627776) (hf:Fp1 g lb w l p) :
  Calls Tryz.prog 124 #[va,.func (.func g) #[] lb] w fun e w'=>e=.returned (.bool (l.any p))/\Below w.heap.size w w':=by
 rw[<- Qja];go_enter Tryz.func124,Tryz.ntmps124
 go_wp2_with fail;refine(Qij va l g lb p w eg ha hN hf).mono ?_;rintro e w1 ⟨rfl,hb⟩;go_wp2_with fail;go_ret
 exact⟨rfl,hb⟩
theorem Qiz (va vb:Value) (x y:Int) (w:World) (hx:It w va x) (hy:It w vb y) (hsx:sz x<=4611686018427387904) (hsy:sz y<=4611686018427387904) :
  Calls Tryz.prog 37 #[va,vb] w fun e w'=>e=.returned (.int .i64 (QaW x y))/\Below w.heap.size w w':=by
 obtain⟨a,ca,f,rfl,h1,h2,h3,h4,h5⟩:=hx.parts;obtain⟨b,cb,g,rfl,k1,k2,k3,k4,k5⟩:=hy.parts;have H5:=Qh h5;have K5:=Qh k5;clear h5 k5 hx hy;obtain⟨W,hW,hw,d1,d2,n1,n2,-⟩:=Qcu w (decide (x<0)) (decide (y<0)) a b (sz x) (sz y) ca cb 33;replace h2:=h2.up hw;replace k2:=k2.up hw;have p0:=d1.c0;have p1:=d1.c1;have q0:=d2.c0;have q1:=d2.c1;by_cases c1:x<0
 ·by_cases c2:y<0
  ·have e1:decide (x<0)=true:=decide_eq_true c1;have e2:decide (y<0)=true:=decide_eq_true c2;simp only[e1,e2] at hW p0 q0 |-;clear e1 e2;go_enter Tryz.func37,Tryz.ntmps37
   go_wp2_with fail;rw[<- hW];clear hW;refine(Qco b a (sz y) (sz x) cb ca g f _ hsy hsx k2 h2 k3 h3 k4 h4).mono ?_;rintro e w5 ⟨rfl,nk,rfl⟩;rw[K5.out,H5.out];clear p0 p1 q0 q1;go_wp2_with fail;go_ret
   refine⟨Qa2 ?_,Below.drewN hw nk⟩;show Value.int .i64 (QaW (y.natAbs:Int) (x.natAbs:Int))=_
   congr 1
   unfold QaW;split <;> split <;> (try split) <;> (try split) <;> omega
  ·have e1:decide (x<0)=true:=decide_eq_true c1;have e2:decide (y<0)=false:=decide_eq_false c2;simp only[e1,e2] at hW p0 q0 |-;clear e1 e2;go_enter Tryz.func37,Tryz.ntmps37
   go_wp2_with fail;rw[<- hW];go_ret
   exact⟨Qa2 (by rw[Qbb (by omega)];rfl),hw⟩
 ·by_cases c2:y<0
  ·have e1:decide (x<0)=false:=decide_eq_false c1;have e2:decide (y<0)=true:=decide_eq_true c2;simp only[e1,e2] at hW p0 q0 |-;clear e1 e2;go_enter Tryz.func37,Tryz.ntmps37
   go_wp2_with fail;rw[<- hW];go_ret
   exact⟨Qa2 (by rw[Qbc (by omega)];rfl),hw⟩
  ·have e1:decide (x<0)=false:=decide_eq_false c1;have e2:decide (y<0)=false:=decide_eq_false c2;simp only[e1,e2] at hW p0 q0 |-;clear e1 e2;go_enter Tryz.func37,Tryz.ntmps37
   go_wp2_with fail;rw[<- hW];clear hW;refine(Qco a b (sz x) (sz y) ca cb f g _ hsx hsy h2 k2 h3 k3 h4 k4).mono ?_;rintro e w5 ⟨rfl,nk,rfl⟩;rw[K5.out,H5.out];clear p0 p1 q0 q1;go_wp2_with fail;go_ret
   refine⟨Qa2 ?_,Below.drewN hw nk⟩;show Value.int .i64 (QaW (x.natAbs:Int) (y.natAbs:Int))=_
   congr 1
   unfold QaW;split <;> split <;> (try split) <;> (try split) <;> omega
theorem Qix (va vb:Value) (x y:Int) (w:World) (hx:It w va x) (hy:It w vb y) (hsx:sz x<=1099511627776) (hsy:sz y<=1099511627776) :
  Calls Tryz.prog 54 #[va,vb] w fun e w'=>∃ v,e=.returned v/\It w' v (Int.gcd x y)/\Below w.heap.size w w':=by
 obtain⟨W,s1,a1,n1,c1,s2,a2,n2,c2,rfl,rfl,hW,b,vX,vY,vR,hs,p0,p1,q0,q1,aT,aY⟩:=Qch w hx hy;clear hx hy;go_enter Tryz.func54,Tryz.ntmps54
 go_wp2_with fail;rw[<- hW];clear hW;refine(QcN _ x W aT (by omega)).mono ?_;rintro e w1 ⟨v1,rfl,aM,aF⟩;have aA:=vX.up aF;have aC:=vY.up aF;have aD:=vR.up aF;have aX:=aY.up aF;have aW:=Bl.up b aF;obtain⟨s3,a3,n3,c3,rfl⟩:=aM.shape;obtain⟨s5,a5,n5,c5,j0,j1,j2,j3,-⟩:=aA.cells;obtain⟨s4,a4,n4,c4,r0,r1,r2,r3,ir⟩:=aC.cells;clear p0 p1 q0 q1 aT vX vY vR b aF;have aH:=Vx.put aA.va aM;have aB:=aC.other aA.va (s:=s3) (a:=a3) (n:=n3) (c:=c3) (by omega);have aI:=aD.other aA.va (s:=s3) (a:=a3) (n:=n3) (c:=c3) (by omega);have aK:=Bl.st aW (s:=s3) (a:=a3) (n:=n3) (c:=c3) (Nat.le_refl _);obtain⟨s6,a6,n6,c6,k0,k1,k2,k3,iy⟩:=aB.cells;have aO:=aD.lt;go_wp2_with fail;clear aW aA aC aD aX aM j0 j1 j2 j3 r0 r1 r2 r3 ir;generalize (w1.setCell ⟨w.heap.size,0,none⟩ (.bool s3)).setCell ⟨w.heap.size,1,none⟩ (.slice a3 n3 c3)=W2 at *;refine(QcN _ y W2 iy (by omega)).mono ?_;rintro e w3 ⟨v3,rfl,aL,aG⟩;replace aH:=aH.up aG;replace aB:=aB.up aG;replace aI:=aI.up aG;replace aK:=Bl.up aK aG;obtain⟨s7,a7,n7,c7,rfl⟩:=aL.shape;clear k0 k1 k2 k3 iy aG aO;obtain⟨s6,a6,n6,c6,k0,k1,k2,k3,iy⟩:=aB.cells;have aR:=aH.other aB.va (s:=s7) (a:=a7) (n:=n7) (c:=c7) (by omega);have aQ:=Vx.put aB.va aL;have aS:=aI.other aB.va (s:=s7) (a:=a7) (n:=n7) (c:=c7) (by omega);have aV:=Bl.st aK (s:=s7) (a:=a7) (n:=n7) (c:=c7) (Nat.le_succ _);go_wp2_with fail;clear aH aB aI aK aL k0 k1 k2 k3 iy;generalize (w3.setCell ⟨w.heap.size+1,0,none⟩ (.bool s7)).setCell ⟨w.heap.size+1,1,none⟩ (.slice a7 n7 c7)=W4 at *;have e0:Int.gcd (x.natAbs:Int) (y.natAbs:Int)=Int.gcd x y:=by unfold Int.gcd;simp
 go_loopg [] (y.natAbs) (fun k wr=>∃ p q:Nat,k=q/\Below w.heap.size w wr/\Vx wr w.heap.size (p:Int)/\Vx wr (w.heap.size+1) (q:Int)/\Vx wr (w.heap.size+1+1) 0/\Int.gcd (p:Int) (q:Int)=Int.gcd x y/\sz (p:Int)<=1099511627776/\sz (q:Int)<=1099511627776)
 case atStart=>exact⟨x.natAbs,y.natAbs,rfl,aV,aR,aQ,aS,e0,Qt (Y2 (by simp)) hsx,Qt (Y2 (by simp)) hsy⟩
 case round=>
  clear aR aQ aS aV e0;obtain⟨p,q,hk,hb,vp,vq,vr,hg,aZ,aP⟩:=hrel;have HG:=Qh hg;have HK:=Qh hk;clear hg hk;obtain⟨ap,cp,p0,p1,p2,p3,ip⟩:=vp.szs;obtain⟨aq,cq,q0,q1,q2,q3,iq⟩:=vq.szs;by_cases hq0:q=0
  ·subst hq0;rw[show sz ((0:Nat):Int)=0 from rfl] at *;obtain⟨ar,cr,r0,r1,r2,r3,ir⟩:=vr.szs;have e1:(p:Int)=Int.gcd x y:=by rw[<- HG.out];simp[Int.gcd]
   have HE:=Qh e1;clear e1 ir;go_wp2_with fail;refine Qbl (B:=w.heap.size+1+1) (z:=(p:Int)) rfl rfl rfl ?_ (fun v hv=>⟨v,rfl,by rw[<- HE.out];exact hv,?_⟩)
   ·exact Vx.put vr.va ip
   ·exact Bl.st hb (by omega)
  ·have aJ:(q:Int)≠0:=by omega
   have hz:(0:Int)<(sz (q:Int):Int):=by have:=mt QbF.1 aJ;omega
   go_wp2_with fail;refine(QiR _ _ (p:Int) (q:Int) _ ip iq aJ aZ aP).mono ?_;rintro e w4 ⟨v4,rfl,aU,aE⟩;replace vp:=vp.up aE;replace vq:=vq.up aE;replace vr:=vr.up aE;replace hb:=Bl.up hb aE;obtain⟨s4,a4,n4,c4,rfl⟩:=aU.shape;have a0:=iq.up aE;clear p0 p1 p2 p3 ip q0 q1 q2 q3 iq aE hz;obtain⟨ap,cp,p0,p1,p2,p3,ip⟩:=vp.szs;obtain⟨aq,cq,q0,q1,q2,q3,iq⟩:=vq.szs;have z4:=vr.lt;have y4:=Nat.lt_of_succ_lt z4;have x4:=Nat.lt_of_succ_lt y4;go_wp2_with fail;have em:((p:Int)%(q:Int))=((p%q:Nat):Int):=by simp
   have eg:Int.gcd (q:Int) ((p%q:Nat):Int)=Int.gcd x y:=by rw[<- em];exact(QfX (p:Int) (q:Int) aJ).trans HG.out
   have es:sz ((p%q:Nat):Int)<=1099511627776:=Qt (Y2 (by rw[<- em];exact Nat.le_of_lt (Qeh _ _ aJ))) aP;rw[em] at aU;clear em;go_roundg (p%q)
   all_goals first
    | (show p%q<gk;rw[HK.out];exact Nat.mod_lt _ (by omega))
    | (refine⟨q,p%q,rfl,?_,?_,?_,?_,eg,aP,es⟩ <;> exact QbY)
