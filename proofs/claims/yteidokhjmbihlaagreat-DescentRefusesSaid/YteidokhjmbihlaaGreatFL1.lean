/-
  A factorization in a variable.
-/
import Derived.Test.YteidokhjmbihlaaGreatFD1
import Derived.Test.YteidokhjmbihlaaGreatFE1
import Derived.Test.YteidokhjmbihlaaGreatFJ1
set_option linter.all false
set_option maxHeartbeats 1000000
namespace Go.Proofs.YteidokhjmbihlaaGreat
open Go.RowKit
attribute [local go_sem ↓] Go.wp_at_zero Go.wp_at_succ
theorem QhS (a:Option Addr) (n cap:Nat) (f:Nat->Nat) (w:World) (hn:n<=cap) (hN:n<=4611686018427387904) (hw:Wd w a n f) (hf:Wf f n) :
  Calls Tryz.prog 113 #[.slice a n cap] w fun e w'=>e=.returned (.slice a (tr f n) cap)/\w=w':=by
 go_enter Tryz.func113,Tryz.ntmps113
 go_wp2
 go_loop [0] (fun v=>∃ k:Nat,k<=n/\v=.slice a k cap/\tr f k=tr f n) (fun v=>QiH v)
 case atStart=>exact⟨n,Nat.le_refl _,rfl,rfl⟩
 case round=>
  obtain⟨k,hk,rfl,ht⟩:=hrel;have HT:=Qh ht;clear ht;rcases k with _|k
  ·go_wp2
   go_ret
   have ht:=HT.out;simp only[tr] at ht;exact⟨by rw[<- ht];rfl,rfl⟩
  ·obtain⟨b,aA,rfl,hb,hc⟩:=hw.at (i:=k) (by omega);have aC:=hc k (by omega);have aB:=hf k (by omega);go_wp2
   ·have h0:((f k:Int) == 0)=true:=by assumption
    have h1:f k=0:=by simpa using h0
    go_round
    case rel=>exact⟨k,by omega,rfl,by have ht:=HT.out;rw[tr,if_pos h1] at ht;exact ht⟩
    case measure=>simp[QiH]
   ·have h0:((f k:Int) == 0)=false:=by assumption
    have h1:¬ f k=0:=by simpa using h0
    have ht:=HT.out;rw[tr,if_neg h1] at ht;go_ret
    exact⟨by rw[<- ht];rfl,rfl⟩
theorem Qbu (s:Bool) (a:Option Addr) (n cap:Nat) (f:Nat->Nat) (w:World) (hn:n<=cap) (hN:n<=4611686018427387904) (hw:Wd w a n f) (hf:Wf f n) :
  Calls Tryz.prog 53 #[.bool s,.slice a n cap] w fun e w'=>∃ v,e=.returned v/\It w' v (sg s (nv f n))/\Below w.heap.size w w':=by
 have aD:=Qhj f n;have aB:=Vx.new0 (w:=w) (T:=33) rfl;go_enter Tryz.func53,Tryz.ntmps53
 go_wp2_with fail;refine(QhS a n cap f _ hn hN (hw.up (Qc _ _)) hf).mono ?_;rintro e w' ⟨rfl,rfl⟩;rcases Nat.eq_zero_or_pos (tr f n) with h0|h0
 ·have hv:nv f n=0:=by rw[<- Qe5 f n,h0];rfl
  have HV:=Qh hv;rw[h0];clear hv h0;go_wp2_with fail;exact Qbl (B:=w.heap.size) (z:=0) rfl rfl rfl (by exact QbY) (fun v hv=>⟨v,rfl,by rw[HV.out];cases s <;> exact hv,by exact QbY⟩)
 ·have aC:((tr f n:Int) == 0)=false:=by rw[beq_eq_false_iff_ne];omega
  have aA:It w (.agg #[.bool s,.slice a (tr f n) cap]) (sg s (nv f n)):=by
   refine Qf0 (QcM hn hw hf) ?_;rw[<- Qe5 f n];rcases QfR f n with c|c
   ·omega
   ·have:=QbS (f:=f) (n:=tr f n) (i:=tr f n-1) (by omega);have h2:0<f (tr f n-1)*4294967296 ^ (tr f n-1):=Nat.mul_pos (by omega) (QdE _);omega
  go_wp2_with fail;have hx:=Vx.new (T:=33) rfl aA;exact Qbl (B:=w.heap.size) (z:=sg s (nv f n)) rfl rfl rfl (by first|exact hx|exact QbY) (fun v hv=>⟨v,rfl,hv,by exact QbY⟩)
theorem QaX (n:Int) (w:World) (h1 : -9223372036854775808<=n) (h2:n<=9223372036854775807) :
  Calls Tryz.prog 30 #[.int .i64 n] w fun e w'=>∃ v,e=.returned v/\It w' v n/\Below w.heap.size w w':=by
 obtain⟨v1,v2⟩:=Qfu n h1 h2;have e0:((n.natAbs:Int)%4294967296)=((n.natAbs%4294967296:Nat):Int):=by omega
 have e1:((n.natAbs:Int)/4294967296%4294967296)=((n.natAbs/4294967296:Nat):Int):=by omega
 have aB:=(Qc w (Qlr 33 false none 0 0));have aA:=aB.alloc aB.size (.cells #[.int .u32 ((n.natAbs%4294967296:Nat):Int),.int .u32 ((n.natAbs/4294967296:Nat):Int)] 139)
 have hO:=Own.lit (w.alloc (Qlr 33 false none 0 0)) #[.int .u32 ((n.natAbs%4294967296:Nat):Int),.int .u32 ((n.natAbs/4294967296:Nat):Int)] 139 2 (wv fun i=>if i=0 then n.natAbs%4294967296 else n.natAbs/4294967296) rfl
  (fun i hi=>by rcases i with _|_|i;rfl;rfl;omega)
 have hx:=(Vx.new0 (w:=w) (T:=33) rfl).alloc (.cells #[.int .u32 ((n.natAbs%4294967296:Nat):Int),.int .u32 ((n.natAbs/4294967296:Nat):Int)] 139);simp only[Zk2] at hO;have H0:=Qh e0;have H1:=Qh e1;have HX:=Qh hx;clear e0 e1 aB hx;by_cases hn:n<0
 ·have hm:IntKind.u64.wrap (-IntKind.u64.wrap n)=(n.natAbs:Int):=by
   simp[IntKind.wrap,IntKind.bits,IntKind.signed]
   omega
  have HM:=Qh hm;clear hm;go_enter Tryz.func30,Tryz.ntmps30
  go_wp2_with fail;rw[HM.out,H0.out,H1.out];refine(Qbu true _ 2 2 _ _ (Nat.le_refl _) (by omega) hO.wd v2).mono ?_;rintro e w1 ⟨v,rfl,hv,hb⟩;rw[v1,show sg true n.natAbs=n by unfold sg;simp;omega] at hv;replace hx:=HX.out.up hb;replace aA:=aA.trans (hb.mono aA.size);obtain⟨s',a',n',aC,rfl⟩:=hv.shape;clear hO hb;obtain⟨s,a,k,c,c0,c1,f0,f1,-⟩:=hx.cells;go_wp2_with fail;exact Qbl (B:=w.heap.size) rfl rfl rfl (Vx.put hx.va hv) (fun v hv=>⟨_,rfl,hv,Bl.st aA (Nat.le_refl _)⟩)
 ·have hm:n%4294967296=((n.natAbs%4294967296:Nat):Int):=by omega
  have aD:n/4294967296=((n.natAbs/4294967296:Nat):Int):=by omega
  have HM:=Qh hm;have aE:=Qh aD;clear hm aD;go_enter Tryz.func30,Tryz.ntmps30
  go_wp2_with fail;rw[HM.out,aE.out];refine(Qbu false _ 2 2 _ _ (Nat.le_refl _) (by omega) hO.wd v2).mono ?_;rintro e w1 ⟨v,rfl,hv,hb⟩;rw[v1,show sg false n.natAbs=n by unfold sg;simp;omega] at hv;replace hx:=HX.out.up hb;replace aA:=aA.trans (hb.mono aA.size);obtain⟨s',a',n',aC,rfl⟩:=hv.shape;clear hO hb;obtain⟨s,a,k,c,c0,c1,f0,f1,-⟩:=hx.cells;go_wp2_with fail;exact Qbl (B:=w.heap.size) rfl rfl rfl (Vx.put hx.va hv) (fun v hv=>⟨_,rfl,hv,Bl.st aA (Nat.le_refl _)⟩)
theorem Qco (a b:Option Addr) (n m ca cb:Nat) (f h:Nat->Nat) (w:World) (hn:n<=4611686018427387904) (hm:m<=4611686018427387904)
  (hwf:Wd w a n f) (hwh:Wd w b m h) (Hf:Wf f n) (Hh:Wf h m) (Cf:Can f n) (Ch:Can h m) :
  Calls Tryz.prog 63 #[.slice a n ca,.slice b m cb] w fun e w'=>e=.returned (.int .i64 (QaW (nv f n) (nv h m)))/\∃ k,w'=w.drewN k:=by
 rcases Nat.lt_trichotomy n m with hnm|hnm|hnm
 ·have aF:=QbC Hf Hh Ch hnm;have hb:((n:Int) != (m:Int))=true:=by rw[bne_iff_ne];omega
  have hl:(n:Int)<(m:Int):=by omega
  go_enter Tryz.func63,Tryz.ntmps63
  go_wp2_with fail;go_ret
  exact⟨Qa2 (by rw[Qbb (x:=(nv f n:Int)) (by omega)];rfl),0,rfl⟩
 ·subst hnm;have hb:((n:Int) != (n:Int))=false:=by simp
  go_enter Tryz.func63,Tryz.ntmps63
  go_wp2_with fail;go_loopw [5] (fun s wr=>∃ k q:Nat,k<=n/\s=.int .i64 ((k:Int)-1)/\(∀ j,k<=j->j<n->f j=h j)/\wr=w.drewN q) (fun s _=>(intOf s+1).toNat)
  case atStart=>exact⟨n,0,Nat.le_refl _,rfl,fun j h1 h2=>absurd h2 (by omega),rfl⟩
  case round=>
   obtain⟨k,q,hk,rfl,aC,aB⟩:=hrel;have aA:=Qh aB;clear aB;have HE:=Qh aC;clear aC;rcases k with _|k
   ·go_wp2_with fail;go_ret
    exact⟨Qa2 (by rw[Qbx (by rw[Qbg (fun i hi=>HE.out i (Nat.zero_le _) hi)])];rfl),q,aA.out⟩
   ·obtain⟨ba,oa,rfl,aI,aE⟩:=hwf.at (i:=k) (by omega);obtain⟨bb,ob,rfl,aH,aD⟩:=hwh.at (i:=k) (by omega);have c1:wr.cell? ⟨ba,oa+k,none⟩=some (.int .u32 (f k:Int)):=by rw[aA.out];exact aE k (by omega)
    have c2:wr.cell? ⟨bb,ob+k,none⟩=some (.int .u32 (h k:Int)):=by rw[aA.out];exact aD k (by omega)
    have b1:=Hf k (by omega);have b2:=Hh k (by omega);clear aE aD;rw[show ((k+1:Nat):Int)-1=(k:Int) by omega];have p1:(0:Int)<=(k:Int):=by omega
    have p2:(k:Int)<(n:Int):=by omega
    rcases Nat.lt_trichotomy (f k) (h k) with c|c|c
    ·have hd:decide (f k<h k)=true:=by simp;omega
     go_upto_region 8 with fail;go_quiet (fail)
     go_wp2_with fail;go_ret
     exact⟨Qa2 (by rw[Qhd f h n k Hf Hh (by omega) (fun j a b=>HE.out j (by omega) b) (by rw[Qbb (by omega)];decide),Qbb (by omega)];rfl),_,by(simp only[aA.out,World.drewN_drewN];rfl)⟩
    ·have hd:decide (f k<h k)=false:=by simp;omega
     have aG:decide (h k<f k)=false:=by simp;omega
     have C:=Qh c;clear c;go_upto_region 8 with fail;go_quiet (fail)
     go_upto_region 10 with fail;go_quiet (fail)
     go_wp2_with fail;go_roundw
     case rel=>
      refine⟨k,_,by omega,rfl,?_,by(simp only[aA.out,World.drewN_drewN];rfl)⟩;intro j a b;by_cases e:j=k
      ·subst e;exact C.out
      ·exact HE.out j (by omega) b
     case measure=>simp[intOf]
    ·have hd:decide (f k<h k)=false:=by simp;omega
     have aG:decide (h k<f k)=true:=by simp;omega
     go_upto_region 8 with fail;go_quiet (fail)
     go_upto_region 10 with fail;go_quiet (fail)
     go_wp2_with fail;go_ret
     exact⟨Qa2 (by rw[Qhd f h n k Hf Hh (by omega) (fun j a b=>HE.out j (by omega) b) (by rw[Qbc (by omega)];decide),Qbc (by omega)];rfl),_,by(simp only[aA.out,World.drewN_drewN];rfl)⟩
 ·have aF:=QbC Hh Hf Cf hnm;have hb:((n:Int) != (m:Int))=true:=by rw[bne_iff_ne];omega
  have hl:¬ (n:Int)<(m:Int):=by omega
  go_enter Tryz.func63,Tryz.ntmps63
  go_wp2_with fail;go_ret
  exact⟨Qa2 (by rw[Qbc (x:=(nv f n:Int)) (by omega)];rfl),0,rfl⟩
theorem Qe8 (w:World) (k:Nat):Below w.heap.size w (w.drewN k):=⟨rfl,rfl,rfl,Nat.le_refl _,fun _ _=>rfl⟩
def Qdd (x y:Int):Bool:=decide (x=y)
theorem Qgv (x y:Int) (h:(decide (x<0) == decide (y<0))=false):Qdd x y=false:=by
 unfold Qdd;rw[decide_eq_false_iff_not];rintro rfl;simp at h
theorem Qha (x y:Int) (h:(decide (x<0) == decide (y<0))=true):(QaW (x.natAbs:Int) (y.natAbs:Int) == 0)=Qdd x y:=by
 unfold Qdd;rw[Bool.eq_iff_iff];simp only[beq_iff_eq,decide_eq_true_eq,Qa4] at *;constructor
 ·intro e;by_cases h1:x<0 <;> by_cases h2:y<0 <;> simp[h1,h2] at h <;> omega
 ·rintro rfl;rfl
theorem Qc6 (va vb:Value) (x y:Int) (w:World) (hx:It w va x) (hy:It w vb y) (hsx:sz x<=4611686018427387904) (hsy:sz y<=4611686018427387904) :
  Calls Tryz.prog 18 #[va,vb] w fun e w'=>e=.returned (.bool (Qdd x y))/\Below w.heap.size w w':=by
 obtain⟨a,ca,f,rfl,h1,h2,h3,h4,h5⟩:=hx.parts;obtain⟨b,cb,g,rfl,k1,k2,k3,k4,k5⟩:=hy.parts;have H5:=Qh h5;have K5:=Qh k5;clear h5 k5;obtain⟨W,hW,hw,d1,d2,n1,n2,-⟩:=Qcu w (decide (x<0)) (decide (y<0)) a b (sz x) (sz y) ca cb 33;replace h2:=h2.up hw;replace k2:=k2.up hw;have p0:=d1.c0;have p1:=d1.c1;have q0:=d2.c0;have q1:=d2.c1;clear d1 d2 n1 n2 hx hy;by_cases hs:(decide (x<0) == decide (y<0))=false
 ·rw[Qgv x y hs];generalize decide (x<0)=sx at *;generalize decide (y<0)=sy at *;go_enter Tryz.func18,Tryz.ntmps18
  go_wp2_with fail;rw[<- hW];go_ret
  exact⟨rfl,hw⟩
 ·rw[Bool.not_eq_false] at hs;rw[<- Qha x y hs];have hC:=Qco a b (sz x) (sz y) ca cb f g W hsx hsy h2 k2 h3 k3 h4 k4;rw[H5.out,K5.out] at hC;generalize decide (x<0)=sx at *;generalize decide (y<0)=sy at *;go_enter Tryz.func18,Tryz.ntmps18
  go_wp2_with fail;rw[<- hW];clear hW;refine hC.mono ?_;rintro e w1 ⟨rfl,k,rfl⟩;go_wp2_with fail;go_ret
  exact⟨rfl,hw.trans ((Qe8 W k).mono hw.size)⟩
structure Fb (w:World) (B:Nat) (s:Bool) (a:Option Addr) (n c:Nat) (aP:Option Addr) (cP:Nat) (aR:Option Addr) (cR:Nat) (f:Fz):Prop where
 hb:w.heap[B]? = some (.cells #[.bool s,.slice a n c,.slice aP f.P.length cP,.slice aR f.R.length cR,.int .i64 f.B] 191 (0,0))
 hN:It w (Qlv s a n c) f.N
 hP:Sr eP w (.slice aP f.P.length cP) f.P
 hR:Sr eP w (.slice aR f.R.length cR) f.R
section
variable {w w':World} {B:Nat} {s:Bool} {a:Option Addr} {n c:Nat} {aP:Option Addr} {cP:Nat} {aR:Option Addr} {cR:Nat} {f:Fz}
theorem Fb.lt (h:Fb w B s a n c aP cP aR cR f):B<w.heap.size:=(Ql h.hb).1
theorem Fb.up (h:Fb w B s a n c aP cP aR cR f) (hb:Below w.heap.size w w'):Fb w' B s a n c aP cP aR cR f:=
 ⟨(hb.block B h.lt).trans h.hb,h.hN.up hb,h.hP.up hb,h.hR.up hb⟩
theorem Fb.alloc (h:Fb w B s a n c aP cP aR cR f) (o:Obj):Fb (w.alloc o) B s a n c aP cP aR cR f:=h.up (Qc w o)
theorem Fb.drew (h:Fb w B s a n c aP cP aR cR f):Fb w.drew B s a n c aP cP aR cR f:=⟨h.hb,h.hN.drew,h.hP.drew,h.hR.drew⟩
theorem Fb.cells (h:Fb w B s a n c aP cP aR cR f):w.cell? ⟨B,0,none⟩=some (.bool s)/\w.cell? ⟨B,1,none⟩=some (.slice a n c)/\w.cell? ⟨B,2,none⟩=some (.slice aP f.P.length cP)/\w.cell? ⟨B,3,none⟩=some (.slice aR f.R.length cR)/\w.cell? ⟨B,4,none⟩=some (.int .i64 f.B):=by
 refine⟨?_,?_,?_,?_,?_⟩ <;> simp[World.cell?,h.hb]
theorem Fb.fx (h:Fb w B s a n c aP cP aR cR f):Fx w (.agg #[.bool s,.slice a n c,.slice aP f.P.length cP,.slice aR f.R.length cR,.int .i64 f.B]) f:=⟨s,a,n,c,_,_,rfl,h.hN,h.hP,h.hR⟩
end
theorem Fx.box {w:World} {v:Value} {f:Fz} (h:Fx w v f):∃ s a n c aP cP aR cR,v=.agg #[.bool s,.slice a n c,.slice aP f.P.length cP,.slice aR f.R.length cR,.int .i64 f.B] /\
  ∀ W,Below w.heap.size w W->∀ B,W.heap[B]? = some (.cells #[.bool s,.slice a n c,.slice aP f.P.length cP,.slice aR f.R.length cR,.int .i64 f.B] 191 (0,0))->Fb W B s a n c aP cP aR cR f:=by
 obtain⟨s,a,n,c,vP,vR,rfl,hN,hP,hR⟩:=h;obtain⟨aP,cP,rfl,-⟩:=id hP;obtain⟨aR,cR,rfl,-⟩:=id hR;exact⟨s,a,n,c,aP,cP,aR,cR,rfl,fun W hb B hB=>⟨hB,hN.up hb,hP.up hb,hR.up hb⟩⟩
theorem Qlg (w:World) {va:Value} {f:Fz} (h:Fx w va f):∃ W s a n c aP cP aR cR,va=.agg #[.bool s,.slice a n c,.slice aP f.P.length cP,.slice aR f.R.length cR,.int .i64 f.B] /\
  W=w.alloc (.cells #[.bool s,.slice a n c,.slice aP f.P.length cP,.slice aR f.R.length cR,.int .i64 f.B] 191)/\Below w.heap.size w W/\W.heap.size=w.heap.size+1/\Fb W w.heap.size s a n c aP cP aR cR f:=by
 obtain⟨s,a,n,c,aP,cP,aR,cR,rfl,hb⟩:=h.box;exact⟨_,s,a,n,c,aP,cP,aR,cR,rfl,rfl,Qc _ _,by simp,hb _ (Qc _ _) _ (Zk1 _ _)⟩
theorem ButS.dr {S:Nat->Prop} {a b:World} (h:ButS S a b):ButS S a b.drew:=h.up (Below.refl _ _).drew
theorem ButS.al {S:Nat->Prop} {a b:World} (h:ButS S a b) (o:Obj):ButS S a (b.alloc o):=h.up (Qc _ _)
theorem QhQ {x y:Int}:Qdd x y=true↔x=y:=by unfold Qdd;exact decide_eq_true_iff
def szL (l:List (Int×Int)):Prop:=l.length<=1099511627776/\∀ x∈l,sz x.1<=1099511627776
theorem szL.at {l:List (Int×Int)} (h:szL l) {i:Nat} (hi:i<l.length):sz (l.getD i (0,0)).1<=1099511627776:=by
 refine h.2 _ ?_;rw[Zk3,Zk4 hi];exact List.getElem_mem hi
