/-
  descent: Space.
-/
import Derived.Test.YteidokhjmbihlaaGreatDE
set_option linter.all false
set_option maxRecDepth 100000
set_option maxHeartbeats 4000000
namespace Go.Proofs.YteidokhjmbihlaaGreat
open Go.RowKit
attribute [local go_sem ↓] Go.wp_at_zero Go.wp_at_succ
def QaK (x y z p k:Int):Bool×Int:=
 if x=0\/z=0 then (false,1) else if p=0/\k=0 then (Qau x y z,0) else if p<2\/k<1 then (false,1) else
 if 4096<p.toNat ^ min k.toNat 20 then (false,2) else if QaP p.toNat=false then (false,1) else (QaI x y z p.toNat (p.toNat ^ min k.toNat 20),0)
theorem Qcc (x:Int):(QaW x 0 == 0)=decide (x=0):=by
 rw[Bool.eq_iff_iff];simp[Qa4]
theorem QcC (va:Value) (x y z p k:Int) (w:World) (h:Sx w va x y z) (hsx:sz x<=1000000) (hsy:sz y<=1000000) (hsz:sz z<=1000000)
  (hp1 : -9223372036854775808<=p) (hp2:p<=9223372036854775807) (hk1 : -9223372036854775808<=k) (hk2:k<=9223372036854775807) :
  Calls Tryz.prog 25 #[va,.int .i64 p,.int .i64 k] w fun e' w'=>e'=.returned (.tuple #[.bool (QaK x y z p k).1,.int .i64 (QaK x y z p k).2])/\Below w.heap.size w w':=by
 have aD:=Qh h;obtain⟨s1,a1,n1,c1,s2,a2,n2,c2,s3,a3,n3,c3,rfl,hX,hY,hZ⟩:=h;go_enter Tryz.func25,Tryz.ntmps25
 go_upto_region 1 with fail;have bl:=Qc w (Qlt 53 s1 a1 n1 c1 s2 a2 n2 c2 s3 a3 n3 c3);have dA:=Zk1 w (Qlt 53 s1 a1 n1 c1 s2 a2 n2 c2 s3 a3 n3 c3);replace hX:=hX.up bl;replace hY:=hY.up bl;replace hZ:=hZ.up bl;replace aD:=Qh (aD.out.up bl);generalize w.alloc (Qlt 53 s1 a1 n1 c1 s2 a2 n2 c2 s3 a3 n3 c3)=W at *;obtain⟨p0,p1,p2,p3,p4,p5⟩:=QbG dA;clear dA;go_wp2_with fail;refine(Qa9 _ x W hX).mono ?_;rintro e w1 ⟨rfl,aA⟩;replace bl:=Bl.up bl aA;replace hX:=hX.up aA;replace hY:=hY.up aA;replace hZ:=hZ.up aA;replace p0:=QaD aA p0;replace p1:=QaD aA p1;replace p2:=QaD aA p2;replace p3:=QaD aA p3;replace p4:=QaD aA p4;replace p5:=QaD aA p5;replace aD:=Qh (aD.out.up aA);clear aA;have aH:=Qcc x;by_cases hx0:x=0
 ·have hR:QaK x y z p k=(false,1):=by unfold QaK;rw[if_pos (.inl hx0)]
  have HR:=Qh hR;have aT:QaW x 0=0:=Qa4.2 hx0;clear aH hR hx0;go_wp2_with fail;go_ret2
  exact⟨by rw[HR.out];rfl,bl⟩
 have aT:¬ QaW x 0=0:=fun h=>hx0 (Qa4.1 h);have aS:(QaW x 0 == 0)=false:=by rw[aH];exact decide_eq_false hx0
 have aW:=Qh hx0;clear aH hx0;go_wp2_with fail;refine(Qa9 _ z w1 hZ).mono ?_;rintro e w2 ⟨rfl,aA⟩;replace bl:=Bl.up bl aA;replace hX:=hX.up aA;replace hY:=hY.up aA;replace hZ:=hZ.up aA;replace p0:=QaD aA p0;replace p1:=QaD aA p1;replace p2:=QaD aA p2;replace p3:=QaD aA p3;replace p4:=QaD aA p4;replace p5:=QaD aA p5;replace aD:=Qh (aD.out.up aA);clear aA;have aG:=Qcc z;by_cases hz0:z=0
 ·have hR:QaK x y z p k=(false,1):=by unfold QaK;rw[if_pos (.inr hz0)]
  have HR:=Qh hR;have aR:QaW z 0=0:=Qa4.2 hz0;clear aG hR hz0;go_wp2_with fail;go_ret2
  exact⟨by rw[HR.out];rfl,bl⟩
 have aR:¬ QaW z 0=0:=fun h=>hz0 (Qa4.1 h);have aQ:(QaW z 0 == 0)=false:=by rw[aG];exact decide_eq_false hz0
 have aB:=Qh (show QaK x y z p k=if p=0/\k=0 then (Qau x y z,0) else if p<2\/k<1 then (false,1) else
  if 4096<p.toNat ^ min k.toNat 20 then (false,2) else if QaP p.toNat=false then (false,1) else (QaI x y z p.toNat (p.toNat ^ min k.toNat 20),0) by
   unfold QaK;rw[if_neg (fun h=>h.elim aW.out hz0)])
 have aC:=Qh bl;clear aG hz0 bl hX hY hZ;by_cases hpk:p=0/\k=0
 ·obtain⟨rfl,rfl⟩:=hpk;have HR:=Qh (aB.out.trans (if_pos ⟨rfl,rfl⟩));clear aB;go_wp2_with fail;refine(QfC _ x y z w2 aD.out hsx hsy hsz).mono ?_;rintro e w3 ⟨rfl,aA⟩;replace aC:=Qh (Bl.up aC.out aA);clear aA;go_wp2_with fail;go_ret2
  exact⟨by rw[HR.out];rfl,aC.out⟩
 replace aB:=Qh (aB.out.trans (if_neg hpk));by_cases hlt:p<2\/k<1
 ·have HR:=Qh (aB.out.trans (if_pos hlt));clear aB;by_cases aE:p=0
  ·have aP:¬ k=0:=fun e=>hpk ⟨aE,e⟩;subst aE;have aO:(k == 0)=false:=by rw[beq_eq_false_iff_ne];exact aP
   clear hpk hlt;go_wp2_with fail;go_ret2
   exact⟨by rw[HR.out];rfl,aC.out⟩
  ·have aF:(p == 0)=false:=by rw[beq_eq_false_iff_ne];exact aE
   by_cases aK:p<2
   ·clear hpk hlt;go_wp2_with fail;go_ret2
    exact⟨by rw[HR.out];rfl,aC.out⟩
   ·have aM:k<1:=by omega
    clear hpk hlt;go_wp2_with fail;go_ret2
    exact⟨by rw[HR.out];rfl,aC.out⟩
 ·have aK:¬ p<2:=by omega
  have aM:¬ k<1:=by omega
  replace aB:=Qh (aB.out.trans (if_neg hlt));obtain⟨P,hP⟩:∃ P:Nat,p=(P:Int):=⟨p.toNat,by omega⟩;obtain⟨K,hK⟩:∃ K:Nat,k=(K:Int):=⟨k.toNat,by omega⟩;subst hP hK;rw[Int.toNat_natCast,Int.toNat_natCast] at aB;have aF:((P:Int) == 0)=false:=by rw[beq_eq_false_iff_ne];omega
  have aE:¬ (P:Int)=0:=by omega
  clear hpk hlt;obtain⟨L,hL⟩:∃ L,min K 20=L:=⟨_,rfl⟩;have aL:min (K:Int) 20=(L:Int):=by omega
  have aY:1<=L:=by omega
  have aV:L<=20:=by omega
  rw[hL] at aB;clear hL;go_wp2_with fail;refine(Qdp P L w2 (by omega) (by omega) aV).mono ?_;rintro e w3 ⟨rfl,rfl⟩;by_cases hbig:4096<P ^ L
  ·have HR:=Qh (aB.out.trans (if_pos hbig));have hd:=decide_eq_false (show ¬ P ^ L<=4096 by omega);rw[hd];clear hbig hd aB;go_wp2_with fail;go_ret2
   exact⟨by rw[HR.out];rfl,aC.out⟩
  replace aB:=Qh (aB.out.trans (if_neg hbig));have hd:=decide_eq_true (show P ^ L<=4096 by omega);have aU:P<=P ^ L:=Nat.le_self_pow (by omega) P;have aI:pw4 P L=P ^ L:=if_pos (by omega);rw[hd,aI];have aX:P<=4096:=by omega
  obtain⟨q,hq⟩:∃ q,P ^ L=q:=⟨_,rfl⟩;rw[hq] at aB aU hbig |-;have aJ:q<=4096:=by omega
  clear hd aI hq hbig;go_wp2_with fail;refine(Qeq P w3 (by omega)).mono ?_;rintro e w4 ⟨rfl,rfl⟩;by_cases hpr:QaP P=false
  ·have HR:=Qh (aB.out.trans (if_pos hpr));rw[hpr];clear hpr aB;go_wp2_with fail;go_ret2
   exact⟨by rw[HR.out];rfl,aC.out⟩
  have HR:=Qh (aB.out.trans (if_neg hpr));rw[Bool.not_eq_false] at hpr;rw[hpr];clear hpr aB;go_wp2_with fail;refine(QcG _ x y z P q w4 aD.out (by omega) aJ (by omega) (by omega) hsx hsy hsz).mono ?_;rintro e w5 ⟨rfl,aA⟩;replace aC:=Qh (Bl.up aC.out aA);clear aA;go_wp2_with fail;go_ret2
  exact⟨by rw[HR.out];rfl,aC.out⟩
theorem QgK (n:Nat) (h:1<n):Nat.log2 n=Nat.log2 (n/2)+1:=by
 rw[Nat.log2_def,if_pos (by omega)]
theorem QfY (n:Int) (w:World) (h1 : -9223372036854775808<=n) (h2:n<=1099511627776) :
  Calls Tryz.prog 100 #[.int .i64 n] w fun e w'=>e=.returned (.int .i64 ((Nat.log2 n.toNat:Nat):Int))/\w'=w:=by
 have aA:∀ m:Nat,Nat.log2 m<=m:=fun m=>by
  by_cases e:m=0
  ·subst e;decide
  ·exact Nat.le_of_lt ((Nat.log2_lt e).2 Nat.lt_two_pow_self)
 have aB:=Qh aA;clear aA;go_enter Tryz.func100,Tryz.ntmps100
 go_wp2_with fail
 go_loopw [0,3] (fun s0 s3 wr=>∃ (m:Int) (k:Nat),s0=.int .i64 m/\s3=.int .i64 (k:Int) /\ -9223372036854775808<=m/\m<=1099511627776/\k<=1099511627776/\Hid (k+Nat.log2 m.toNat=Nat.log2 n.toNat)/\wr=w)
  (fun s0 _ _=>(intOf s0).toNat)
 case atStart=>exact⟨n,0,rfl,rfl,h1,h2,by omega,Nat.zero_add _,rfl⟩
 case round=>
  obtain⟨m,k,rfl,rfl,aD,aC,hk,HK,rfl⟩:=hrel;by_cases hlt:1<m
  ·obtain⟨M,hM⟩:∃ M:Nat,m=(M:Int):=⟨m.toNat,by omega⟩;subst hM;have e1:=Qgn M 2;have e2:(M:Int).tdiv 2=((M/2:Nat):Int):=by rw[Int.tdiv_eq_ediv_of_nonneg (by omega)];rfl
   have e3:=HK.out;rw[Int.toNat_natCast,QgK M (by omega)] at e3
   have aE:k+1<=1099511627776:=by
    have:=aB.out n.toNat;omega
   have HE:=Qh e3;obtain⟨d,hd⟩:∃ d,M/2=d:=⟨_,rfl⟩;have aF:d<M:=by omega
   rw[hd] at e2 HE;clear hd e3 e1;go_wp2_with fail;go_roundw
   case rel=>exact⟨(d:Int),k+1,rfl,by go_num,by omega,by omega,by omega,Qh (show k+1+Nat.log2 (d:Int).toNat=_ by rw[Int.toNat_natCast];have:=HE.out;omega),by first|rfl|trivial⟩
   case measure=>simp[intOf];omega
  ·have hl:Nat.log2 m.toNat=0:=by
    have:m.toNat=0\/m.toNat=1:=by omega
    rcases this with e|e <;> rw[e] <;> decide
   have HF:=Qh (show Nat.log2 n.toNat=k by rw[<- HK.out,hl];omega);clear hl;go_wp2_with fail;go_ret
   exact⟨by rw[HF.out];rfl,rfl⟩
def Fnd (w:World) (v:Value) (b m e n:Int):Prop:=∃ s1 a1 n1 c1 s2 a2 n2 c2 s3 a3 n3 c3 s4 a4 n4 c4,v=.agg #[.bool s1,.slice a1 n1 c1,.bool s2,.slice a2 n2 c2,.bool s3,.slice a3 n3 c3,.bool s4,.slice a4 n4 c4]/\It w (Qlv s1 a1 n1 c1) b/\It w (Qlv s2 a2 n2 c2) m/\It w (Qlv s3 a3 n3 c3) e/\It w (Qlv s4 a4 n4 c4) n
theorem Fnd.up {w w':World} {v:Value} {b m e n:Int} (h:Fnd w v b m e n) (hb:Below w.heap.size w w'):Fnd w' v b m e n:=by
 obtain⟨s1,a1,n1,c1,s2,a2,n2,c2,s3,a3,n3,c3,s4,a4,n4,c4,e,h1,h2,h3,h4⟩:=h;exact⟨s1,a1,n1,c1,s2,a2,n2,c2,s3,a3,n3,c3,s4,a4,n4,c4,e,h1.up hb,h2.up hb,h3.up hb,h4.up hb⟩
def YT (x y z b m e n:Int):Bool:=decide (Int.gcd m e=1) && (decide (x=b) && decide (n*n=JH x y z m e))
theorem Qd1 (x y:Int):(QaW x y == 0)=decide (x=y):=by
 rw[Bool.eq_iff_iff];simp[Qa4]
theorem Qkf {x y z m e:Int} (hsx:sz x<=1000000) (hsy:sz y<=1000000) (hsz:sz z<=1000000) (hsm:sz m<=1000000) (hse:sz e<=1000000):sz (JH x y z m e)<=100000000:=by
 unfold JH;have h1:=JI (x*(m*m)*(m*m)+y*(m*m)*(e*e)) (z*(e*e)*(e*e));have h2:=JI (x*(m*m)*(m*m)) (y*(m*m)*(e*e));have h3:=QM (x*(m*m)) (m*m);have h4:=QM x (m*m);have h5:=QM m m;have h6:=QM (y*(m*m)) (e*e);have h7:=QM y (m*m);have h8:=QM e e;have h9:=QM (z*(e*e)) (e*e);have aA:=QM z (e*e);omega
theorem Qcd (va vf:Value) (x y z b m e n:Int) (w:World) (h:Sx w va x y z) (hf:Fnd w vf b m e n) (hsx:sz x<=1000000) (hsy:sz y<=1000000) (hsz:sz z<=1000000)
  (hsb:sz b<=1000000) (hsm:sz m<=1000000) (hse:sz e<=1000000) (hsn:sz n<=1000000) :
  Calls Tryz.prog 52 #[va,vf] w fun e' w'=>e'=.returned (.bool (YT x y z b m e n))/\Below w.heap.size w w':=by
 have aG:=Qh h;obtain⟨s1,a1,n1,c1,s2,a2,n2,c2,s3,a3,n3,c3,rfl,hX,hY,hZ⟩:=h;obtain⟨s4,a4,n4,c4,s5,a5,n5,c5,s6,a6,n6,c6,s7,a7,n7,c7,rfl,hB,hM,hE,hN⟩:=hf;go_enter Tryz.func52,Tryz.ntmps52
 go_upto_region 1 with fail;have b0:=Qc w (Qlt 53 s1 a1 n1 c1 s2 a2 n2 c2 s3 a3 n3 c3);have dA:=Zk1 w (Qlt 53 s1 a1 n1 c1 s2 a2 n2 c2 s3 a3 n3 c3);have b1:=Qc (w.alloc (Qlt 53 s1 a1 n1 c1 s2 a2 n2 c2 s3 a3 n3 c3)) (Qlu 78 s4 a4 n4 c4 s5 a5 n5 c5 s6 a6 n6 c6 s7 a7 n7 c7);have dB:=Zk1 (w.alloc (Qlt 53 s1 a1 n1 c1 s2 a2 n2 c2 s3 a3 n3 c3)) (Qlu 78 s4 a4 n4 c4 s5 a5 n5 c5 s6 a6 n6 c6 s7 a7 n7 c7);replace dA:=(b1.block _ (Ql dA).1).trans dA;rw[Zk2] at dB;have bl:=Bl.up b0 b1;replace hX:=hX.up bl;replace hB:=hB.up bl;replace hM:=hM.up bl;replace hE:=hE.up bl;replace hN:=hN.up bl;replace aG:=Qh (aG.out.up bl);clear b0 b1 hY hZ;generalize (w.alloc (Qlt 53 s1 a1 n1 c1 s2 a2 n2 c2 s3 a3 n3 c3)).alloc (Qlu 78 s4 a4 n4 c4 s5 a5 n5 c5 s6 a6 n6 c6 s7 a7 n7 c7)=W at *;obtain⟨p0,p1,p2,p3,p4,p5⟩:=QbG dA;obtain⟨q0,q1,q2,q3,q4,q5,q6,q7⟩:=QbM dB;clear dA dB;go_wp2_with fail;refine(QdZ _ _ m e W hM hE (by omega) (by omega)).mono ?_;rintro e' w1 ⟨v,rfl,hg,aA⟩;obtain⟨s8,a8,n8,c8,rfl⟩:=hg.shape;replace p0:=QaD aA p0;replace p1:=QaD aA p1;replace p2:=QaD aA p2;replace p3:=QaD aA p3;replace p4:=QaD aA p4;replace p5:=QaD aA p5;replace q0:=QaD aA q0;replace q1:=QaD aA q1;replace q2:=QaD aA q2;replace q3:=QaD aA q3;replace q4:=QaD aA q4;replace q5:=QaD aA q5;replace q6:=QaD aA q6;replace q7:=QaD aA q7;have HX:=Qh (hX.up aA);have HB:=Qh (hB.up aA);have HM:=Qh (hM.up aA);have aL:=Qh (hE.up aA);have HN:=Qh (hN.up aA);replace aG:=Qh (aG.out.up aA);have HL:=Qh (Bl.up bl aA);have HG:=Qh hg;clear hX hB hM hE hN bl aA hg;go_wp2_with fail;refine(Qbi 1 w1 (by decide) (by decide)).mono ?_;rintro e' w2 ⟨v,rfl,hv,aA⟩;obtain⟨s9,a9,n9,c9,rfl⟩:=hv.shape;replace p0:=QaD aA p0;replace p1:=QaD aA p1;replace p2:=QaD aA p2;replace p3:=QaD aA p3;replace p4:=QaD aA p4;replace p5:=QaD aA p5;replace q0:=QaD aA q0;replace q1:=QaD aA q1;replace q2:=QaD aA q2;replace q3:=QaD aA q3;replace q4:=QaD aA q4;replace q5:=QaD aA q5;replace q6:=QaD aA q6;replace q7:=QaD aA q7;replace HX:=Qh (HX.out.up aA);replace HB:=Qh (HB.out.up aA);replace HM:=Qh (HM.out.up aA);replace aL:=Qh (aL.out.up aA);replace HN:=Qh (HN.out.up aA);replace aG:=Qh (aG.out.up aA);replace HG:=Qh (HG.out.up aA);replace HL:=Qh (Bl.up HL.out aA);have HV:=Qh hv
 have bS:sz ((Int.gcd m e:Nat):Int)<=1099511627776:=by
  by_cases hm0:m=0
  ·subst hm0;rw[show Int.gcd 0 e=e.natAbs by simp];rw[QeS];omega
  ·refine Qt (Y2 (y:=m) ?_) (by omega);have h1:=Int.gcd_dvd_left m e;have h2:=Nat.le_of_dvd (by omega) (Int.natAbs_dvd_natAbs.2 h1);exact h2
 clear hv aA;go_wp2_with fail;refine(Qbz _ _ ((Int.gcd m e:Nat):Int) 1 w2 HG.out HV.out (by omega) (by decide)).mono ?_;rintro e' w3 ⟨rfl,aA⟩;replace p0:=QaD aA p0;replace p1:=QaD aA p1;replace p2:=QaD aA p2;replace p3:=QaD aA p3;replace p4:=QaD aA p4;replace p5:=QaD aA p5;replace q0:=QaD aA q0;replace q1:=QaD aA q1;replace q2:=QaD aA q2;replace q3:=QaD aA q3;replace q4:=QaD aA q4;replace q5:=QaD aA q5;replace q6:=QaD aA q6;replace q7:=QaD aA q7;replace HX:=Qh (HX.out.up aA);replace HB:=Qh (HB.out.up aA);replace HM:=Qh (HM.out.up aA);replace aL:=Qh (aL.out.up aA);replace HN:=Qh (HN.out.up aA);replace aG:=Qh (aG.out.up aA);replace HL:=Qh (Bl.up HL.out aA);have aH:=Qd1 ((Int.gcd m e:Nat):Int) 1;clear aA HG HV bS;by_cases aM:¬ Int.gcd m e=1
 ·have aF:(QaW ((Int.gcd m e:Nat):Int) 1 == 0)=false:=by rw[aH];exact decide_eq_false (by omega)
  have aP:¬ QaW ((Int.gcd m e:Nat):Int) 1=0:=fun h=>by rw[beq_eq_false_iff_ne] at aF;exact aF h
  have HP:=Qh (show YT x y z b m e n=false by unfold YT;rw[decide_eq_false aM];rfl);clear aH aM;go_upto_region 2 with fail;refine QaT (by kernel_rfl) [] (S:=fun w'=>w'.cell? ⟨w.heap.size,0,none⟩=some (.bool s1)/\w'.cell? ⟨w.heap.size,1,none⟩=some (.slice a1 n1 c1)/\w'.cell? ⟨w.heap.size,2,none⟩=some (.bool s2)/\w'.cell? ⟨w.heap.size,3,none⟩=some (.slice a2 n2 c2)/\w'.cell? ⟨w.heap.size,4,none⟩=some (.bool s3)/\w'.cell? ⟨w.heap.size,5,none⟩=some (.slice a3 n3 c3)/\w'.cell? ⟨w.heap.size+1,0,none⟩=some (.bool s4)/\w'.cell? ⟨w.heap.size+1,1,none⟩=some (.slice a4 n4 c4)/\w'.cell? ⟨w.heap.size+1,2,none⟩=some (.bool s5)/\w'.cell? ⟨w.heap.size+1,3,none⟩=some (.slice a5 n5 c5)/\w'.cell? ⟨w.heap.size+1,4,none⟩=some (.bool s6)/\w'.cell? ⟨w.heap.size+1,5,none⟩=some (.slice a6 n6 c6)/\w'.cell? ⟨w.heap.size+1,6,none⟩=some (.bool s7)/\w'.cell? ⟨w.heap.size+1,7,none⟩=some (.slice a7 n7 c7)) ⟨p0,p1,p2,p3,p4,p5,q0,q1,q2,q3,q4,q5,q6,q7⟩ (fun aB=>?_);(refine kL 0 rfl ?_;refine kL 1 rfl ?_)
  (refine uL 2 rfl ?_;refine uL 3 rfl ?_;refine uL 4 rfl ?_;refine uL 5 rfl ?_;refine uL 6 rfl ?_;refine uL 7 rfl ?_)
  (refine kL 8 rfl ?_;refine kL 9 rfl ?_)
  (refine uL 10 rfl ?_;refine uL 11 rfl ?_;refine uL 12 rfl ?_;refine uL 13 rfl ?_;refine uL 14 rfl ?_;refine uL 15 rfl ?_;refine uL 16 rfl ?_;refine uL 17 rfl ?_;refine uL 18 rfl ?_;refine uL 19 rfl ?_;refine uL 20 rfl ?_;refine uL 21 rfl ?_;refine uL 22 rfl ?_;refine uL 23 rfl ?_)
  (refine kL 24 rfl ?_;refine kL 25 rfl ?_)
  refine dT ?_;clear aB;go_wp2_with fail;go_ret
  exact⟨by rw[HP.out];rfl,Bl.drew HL.out⟩
 replace aM:=Decidable.not_not.1 aM;have aF:(QaW ((Int.gcd m e:Nat):Int) 1 == 0)=true:=by rw[aH];exact decide_eq_true (by omega)
 have aP:QaW ((Int.gcd m e:Nat):Int) 1=0:=by simpa using aF
 have aQ:=Qh (show YT x y z b m e n=(decide (x=b) && decide (n*n=JH x y z m e)) by unfold YT;rw[decide_eq_true aM];rfl);clear aH aM;go_upto_region 2 with fail;clear aF aP;refine QaT (by kernel_rfl) [] (S:=fun w'=>w'.cell? ⟨w.heap.size,0,none⟩=some (.bool s1)/\w'.cell? ⟨w.heap.size,1,none⟩=some (.slice a1 n1 c1)/\w'.cell? ⟨w.heap.size,2,none⟩=some (.bool s2)/\w'.cell? ⟨w.heap.size,3,none⟩=some (.slice a2 n2 c2)/\w'.cell? ⟨w.heap.size,4,none⟩=some (.bool s3)/\w'.cell? ⟨w.heap.size,5,none⟩=some (.slice a3 n3 c3)/\w'.cell? ⟨w.heap.size+1,0,none⟩=some (.bool s4)/\w'.cell? ⟨w.heap.size+1,1,none⟩=some (.slice a4 n4 c4)/\w'.cell? ⟨w.heap.size+1,2,none⟩=some (.bool s5)/\w'.cell? ⟨w.heap.size+1,3,none⟩=some (.slice a5 n5 c5)/\w'.cell? ⟨w.heap.size+1,4,none⟩=some (.bool s6)/\w'.cell? ⟨w.heap.size+1,5,none⟩=some (.slice a6 n6 c6)/\w'.cell? ⟨w.heap.size+1,6,none⟩=some (.bool s7)/\w'.cell? ⟨w.heap.size+1,7,none⟩=some (.slice a7 n7 c7)) ⟨p0,p1,p2,p3,p4,p5,q0,q1,q2,q3,q4,q5,q6,q7⟩ (fun aB=>?_);(refine kL 0 rfl ?_;refine kL 1 rfl ?_;refine kL 2 rfl ?_;refine kL 3 rfl ?_;refine kL 4 rfl ?_;refine kL 5 rfl ?_)
 (refine oL 6 rfl fun K hK=>tL ?_;go_simp);refine(Qbz _ _ x b _ HX.out.drew HB.out.drew (by omega) (by omega)).mono ?_;rintro e' w4 ⟨rfl,aA⟩;have aD:=Bl.up (Below.refl _ _).drew aA;replace p0:=QaD aD p0;replace p1:=QaD aD p1;replace p2:=QaD aD p2;replace p3:=QaD aD p3;replace p4:=QaD aD p4;replace p5:=QaD aD p5;replace q0:=QaD aD q0;replace q1:=QaD aD q1;replace q2:=QaD aD q2;replace q3:=QaD aD q3;replace q4:=QaD aD q4;replace q5:=QaD aD q5;replace q6:=QaD aD q6;replace q7:=QaD aD q7;replace HX:=Qh (HX.out.up aD);replace HB:=Qh (HB.out.up aD);replace HM:=Qh (HM.out.up aD);replace aL:=Qh (aL.out.up aD);replace HN:=Qh (HN.out.up aD);replace aG:=Qh (aG.out.up aD);replace HL:=Qh (Bl.up HL.out aD);have aH:=Qd1 x b;clear aA aD;(go_wp2_with fail;clear aB;refine nxL hK ⟨p0,p1,p2,p3,p4,p5,q0,q1,q2,q3,q4,q5,q6,q7⟩ fun aB=>tL ?_;clear hK);by_cases aI:¬ x=b
 ·have aF:(QaW x b == 0)=false:=by rw[aH];exact decide_eq_false aI
  have aP:¬ QaW x b=0:=fun h=>by rw[beq_eq_false_iff_ne] at aF;exact aF h
  have HP:=Qh (show YT x y z b m e n=false by rw[aQ.out,decide_eq_false aI];rfl);clear aH aI;(refine kL 7 rfl ?_;refine kL 8 rfl ?_;refine kL 9 rfl ?_)
  (refine uL 10 rfl ?_;refine uL 11 rfl ?_;refine uL 12 rfl ?_;refine uL 13 rfl ?_;refine uL 14 rfl ?_;refine uL 15 rfl ?_;refine uL 16 rfl ?_;refine uL 17 rfl ?_;refine uL 18 rfl ?_;refine uL 19 rfl ?_;refine uL 20 rfl ?_;refine uL 21 rfl ?_;refine uL 22 rfl ?_;refine uL 23 rfl ?_)
  (refine kL 24 rfl ?_;refine kL 25 rfl ?_)
  refine dT ?_;clear aB;go_wp2_with fail;go_ret
  exact⟨by rw[HP.out];rfl,HL.out⟩
 replace aI:=Decidable.not_not.1 aI;have aF:(QaW x b == 0)=true:=by rw[aH];exact decide_eq_true aI
 have aP:QaW x b=0:=by simpa using aF
 replace aQ:=Qh (show YT x y z b m e n=decide (n*n=JH x y z m e) by rw[aQ.out,decide_eq_true aI];rfl);clear aH aI;(refine kL 7 rfl ?_;refine kL 8 rfl ?_;refine kL 9 rfl ?_;refine kL 10 rfl ?_;refine kL 11 rfl ?_;refine kL 12 rfl ?_;refine kL 13 rfl ?_;refine kL 16 rfl ?_;refine kL 17 rfl ?_;refine kL 18 rfl ?_;refine kL 19 rfl ?_;refine kL 20 rfl ?_)
 clear aB aF aP;refine Qa5 [(14,some 28),(15,some 29),(21,some 35)] 4 (FlV (kvR (fun i=>if i=14 then .row [n,n] else if i=15 then .int (n*n) else if i=21 then .int (JH x y z m e) else .any) []) w4) rfl (by kernel_rfl) (by decide) (by kernel_rfl) (by kernel_rfl) (by kernel_rfl) (fun bb xx wz h=>(fun hb'=>⟨QaD hb' p0,QaD hb' p1,QaD hb' p2,QaD hb' p3,QaD hb' p4,QaD hb' p5,QaD hb' q0,QaD hb' q1,QaD hb' q2,QaD hb' q3,QaD hb' q4,QaD hb' q5,QaD hb' q6,QaD hb' q7⟩) h.bl) (fun xx=>FlV.start0 _ _ _) ?_ ?_
 ·intro i hi;have bR:i=14\/i=15\/i=21:=by simpa using hi
  clear hi;rcases bR with rfl|rfl|rfl
  ·refine⟨_,rfl,fun bb xx wz hJ hbf hw K hK=>?_⟩;clear hw;simp only[Qba] at hK |-;go_simp;exact hK.out _ _ (kvR.put hJ 14 rfl (sr2 (p0:=(s7,a7,n7,c7)) (p1:=(s7,a7,n7,c7)) (HN.out.up hJ.bl) (HN.out.up hJ.bl)) (Qc _ _))
  ·refine⟨_,rfl,fun bb xx wz hJ hbf hw K hK=>?_⟩;have hr:=kvR.row hJ (i:=14) rfl (hw 14 (by kernel_rfl));clear hbf hw;simp only[Qba] at hK |-;go_simp;refine(Qbd _ _ wz hr (by simp) (Qjj (Qt hsn (by decide)) (Qt hsn (by decide)))).mono ?_;rintro e w8 ⟨v,rfl,hv,hb⟩;rw[Qjm] at hv;exact hK.out _ _ (kvR.put hJ 15 rfl hv hb)
  ·refine⟨_,rfl,fun bb xx wz hJ hbf hw K hK=>?_⟩;clear hbf hw;simp only[Qba] at hK |-;go_simp;refine(Qdt _ _ _ x y z m e wz (aG.out.up hJ.bl) (HM.out.up hJ.bl) (aL.out.up hJ.bl) hsx hsy hsz hsm hse).mono ?_;rintro e w8 ⟨v,rfl,hv,hb⟩;exact hK.out _ _ (kvR.put hJ 21 rfl hv hb)
 intro bb xx wz aR hJ;obtain⟨⟨aX,bC,aZ,bA⟩,aV,aK⟩:=(kvR.int hJ (i:=15) rfl (aR 15 (by decide))).ip;obtain⟨⟨aW,bB,aY,a0⟩,aU,aJ⟩:=(kvR.int hJ (i:=21) rfl (aR 21 (by decide))).ip;have aE:=hJ.bl;clear aR hJ;obtain⟨u14,aO⟩:∃ u,u=xx 14:=⟨_,rfl⟩;simp only[QfQ,show xx 15=_ from aV,show xx 21=_ from aU,<- aO];clear aV aU aO;have aB:wz.cell? ⟨w.heap.size,0,none⟩=some (.bool s1)/\wz.cell? ⟨w.heap.size,1,none⟩=some (.slice a1 n1 c1)/\wz.cell? ⟨w.heap.size,2,none⟩=some (.bool s2)/\wz.cell? ⟨w.heap.size,3,none⟩=some (.slice a2 n2 c2)/\wz.cell? ⟨w.heap.size,4,none⟩=some (.bool s3)/\wz.cell? ⟨w.heap.size,5,none⟩=some (.slice a3 n3 c3)/\wz.cell? ⟨w.heap.size+1,0,none⟩=some (.bool s4)/\wz.cell? ⟨w.heap.size+1,1,none⟩=some (.slice a4 n4 c4)/\wz.cell? ⟨w.heap.size+1,2,none⟩=some (.bool s5)/\wz.cell? ⟨w.heap.size+1,3,none⟩=some (.slice a5 n5 c5)/\wz.cell? ⟨w.heap.size+1,4,none⟩=some (.bool s6)/\wz.cell? ⟨w.heap.size+1,5,none⟩=some (.slice a6 n6 c6)/\wz.cell? ⟨w.heap.size+1,6,none⟩=some (.bool s7)/\wz.cell? ⟨w.heap.size+1,7,none⟩=some (.slice a7 n7 c7):=⟨QaD aE p0,QaD aE p1,QaD aE p2,QaD aE p3,QaD aE p4,QaD aE p5,QaD aE q0,QaD aE q1,QaD aE q2,QaD aE q3,QaD aE q4,QaD aE q5,QaD aE q6,QaD aE q7⟩;dsimp only at aK aJ;have bU:=Qh aK;have bT:=Qh aJ;have aC:=aE;replace HL:=Qh (Bl.up HL.out aE);clear aK aJ aE;(refine oL 22 rfl fun K hK=>tL ?_;go_simp);refine(Qbz _ _ (n*n) (JH x y z m e) wz bU.out bT.out (by have:=QM n n;omega) (by have:=Qkf hsx hsy hsz hsm hse;omega)).mono ?_;rintro e' w5 ⟨rfl,aA⟩;replace HL:=Qh (Bl.up HL.out aA);have bQ:=QaD aA (QaD aC p0);have bP:=QaD aA (QaD aC p1);have bO:=QaD aA (QaD aC p2);have bN:=QaD aA (QaD aC p3);have bM:=QaD aA (QaD aC p4);have bL:=QaD aA (QaD aC p5);have bK:=QaD aA (QaD aC q0);have bJ:=QaD aA (QaD aC q1);have bI:=QaD aA (QaD aC q2);have bH:=QaD aA (QaD aC q3);have bG:=QaD aA (QaD aC q4);have bF:=QaD aA (QaD aC q5);have bE:=QaD aA (QaD aC q6);have bD:=QaD aA (QaD aC q7);clear aA aC;(go_wp2_with fail;clear aB;refine nxL hK ⟨bQ,bP,bO,bN,bM,bL,bK,bJ,bI,bH,bG,bF,bE,bD⟩ fun aB=>tL ?_;clear hK);have aS:YT x y z b m e n=(QaW (n*n) (JH x y z m e) == 0):=by rw[aQ.out,Qd1]
 have HP:=Qh aS;obtain⟨cc,aT⟩:∃ c,QaW (n*n) (JH x y z m e)=c:=⟨_,rfl⟩;rw[aT] at HP |-;clear aT aS;(refine kL 23 rfl ?_;refine kL 24 rfl ?_;refine kL 25 rfl ?_)
 refine dT ?_;clear aB;go_wp2_with fail;go_ret
 exact⟨by rw[HP.out];rfl,HL.out⟩
theorem Qbo {fn:Func} {R:Ending->World->Prop} {t t2:Tmp} {T:TypeId} {a:Act} {w:World} {B:Nat} {v:Value} (hr:fn.results = #[.cell t T,.tmp t2]) (ht:a.tmps.getD t undef=.pointer (some ⟨B,0,none⟩)) (hd:a.defers=[])
  (hl:(loadVar T ⟨B,0,none⟩).run Tryz.prog w=.ok v w) (hR:R (.returned (.tuple #[v,a.tmps.getD t2 undef])) w):bodyPost Tryz.prog fn R .ret a w:=by
 refine bodyPost_ret ?_ hd hR;have aA:a.tmps[t]?.getD undef=.pointer (some ⟨B,0,none⟩):=by simpa using ht
 have hA:(asAddr (.pointer (some ⟨B,0,none⟩))).run Tryz.prog w=.ok ⟨B,0,none⟩ w:=rfl;simp[results,hr,aA,hl,hA]
theorem QhM {n:Nat} {l:List Int} (h:Cand n l) (hn:n≠0) (hb:n<1099511627776):∀ x∈l,sz x<=2199023255552:=by
 intro x hx;obtain⟨-,-,h3⟩:=(h.2 x).1 hx;have h4:=Nat.le_of_dvd (by omega) h3;exact Qt (Y2 (y:=1099511627776) (by omega)) (by decide)
def SpcTo (a b x u v t code:Int):Prop:=
 (Yy a b≠0/\u=0/\v=0/\t=0/\code=Yy a b)\/(Yy a b=0/\∃ l,Cand b.natAbs l/\((x∉l/\u=0/\v=0/\t=0/\code=1)\/(x∈l/\u=x/\v=a/\t=b/x/\code=0)))
theorem SpcTo.uniq {a b x u v t c u' v' t' c':Int} (h:SpcTo a b x u v t c) (h':SpcTo a b x u' v' t' c'):u=u'/\v=v'/\t=t'/\c=c':=by
 rcases h with ⟨h1,rfl,rfl,rfl,rfl⟩|⟨h1,l,hl,h⟩ <;> rcases h' with ⟨k1,rfl,rfl,rfl,rfl⟩|⟨k1,m,hm,h'⟩
 ·exact⟨rfl,rfl,rfl,rfl⟩
 ·exact absurd k1 h1
 ·exact absurd h1 k1
 ·have:=hl.uniq hm;subst this;rcases h with ⟨g1,e1,e2,e3,e4⟩|⟨g1,e1,e2,e3,e4⟩ <;> rcases h' with ⟨k1,f1,f2,f3,f4⟩|⟨k1,f1,f2,f3,f4⟩
  ·exact⟨e1.trans f1.symm,e2.trans f2.symm,e3.trans f3.symm,e4.trans f4.symm⟩
  ·exact absurd k1 g1
  ·exact absurd g1 k1
  ·exact⟨e1.trans f1.symm,e2.trans f2.symm,e3.trans f3.symm,e4.trans f4.symm⟩
theorem Yj {a b:Int} (h:Yy a b=0):b≠0/\a*a-4*b≠0/\b.natAbs<1099511627776/\(a*a-4*b).natAbs<1099511627776:=by
 unfold Yy at h;split at h
 ·exact absurd h (by decide)
 ·rename_i h1
  split at h
  ·exact absurd h (by decide)
  ·rename_i h2
   exact⟨fun e=>h1 (.inl e),fun e=>h1 (.inr e),by omega,by omega⟩
theorem Qdy (va vb vx:Value) (a b x:Int) (w:World) (hA:It w va a) (hB:It w vb b) (hX:It w vx x) (ha:sz a<=1000000) (hb:sz b<=1000000) (hx:sz x<=1000000) :
  Calls Tryz.prog 23 #[va,vb,vx] w fun e w'=>∃ v u y t code,e=.returned (.tuple #[v,.int .i64 code])/\Sx w' v u y t/\SpcTo a b x u y t code/\Below w.heap.size w w':=by
 obtain⟨s1,a1,n1,c1,rfl⟩:=hA.shape;obtain⟨s2,a2,n2,c2,rfl⟩:=hB.shape;obtain⟨s3,a3,n3,c3,rfl⟩:=hX.shape;go_enter Tryz.func23,Tryz.ntmps23
 go_upto_region 1 with fail;have b0:=Qc w (Qlr 33 s1 a1 n1 c1);have d0:=Zk1 w (Qlr 33 s1 a1 n1 c1);have b1:=Qc (w.alloc (Qlr 33 s1 a1 n1 c1)) (Qlr 33 s2 a2 n2 c2);have d1:=Zk1 (w.alloc (Qlr 33 s1 a1 n1 c1)) (Qlr 33 s2 a2 n2 c2);have b2:=Qc ((w.alloc (Qlr 33 s1 a1 n1 c1)).alloc (Qlr 33 s2 a2 n2 c2)) (Qlr 33 s3 a3 n3 c3);have d2:=Zk1 ((w.alloc (Qlr 33 s1 a1 n1 c1)).alloc (Qlr 33 s2 a2 n2 c2)) (Qlr 33 s3 a3 n3 c3);have b3:=Qc (((w.alloc (Qlr 33 s1 a1 n1 c1)).alloc (Qlr 33 s2 a2 n2 c2)).alloc (Qlr 33 s3 a3 n3 c3)) (Qlt 53 false none 0 0 false none 0 0 false none 0 0);have d3:=Zk1 (((w.alloc (Qlr 33 s1 a1 n1 c1)).alloc (Qlr 33 s2 a2 n2 c2)).alloc (Qlr 33 s3 a3 n3 c3)) (Qlt 53 false none 0 0 false none 0 0 false none 0 0);replace d0:=((Bl.up b1 (Bl.up b2 (b3))).block _ (Ql d0).1).trans d0;replace d1:=((Bl.up b2 (b3)).block _ (Ql d1).1).trans d1;replace d2:=((b3).block _ (Ql d2).1).trans d2;rw[Zk2] at d1;rw[Zk2,Zk2] at d2;rw[Zk2,Zk2,Zk2] at d3;have bl:=Bl.up b0 (Bl.up b1 (Bl.up b2 b3));replace hA:=hA.up bl;replace hB:=hB.up bl;replace hX:=hX.up bl;have aL:((((w.alloc (Qlr 33 s1 a1 n1 c1)).alloc (Qlr 33 s2 a2 n2 c2)).alloc (Qlr 33 s3 a3 n3 c3)).alloc (Qlt 53 false none 0 0 false none 0 0 false none 0 0)).heap.size=w.heap.size+1+1+1+1:=by simp only[Zk2]
 clear b0 b1 b2 b3;generalize (((w.alloc (Qlr 33 s1 a1 n1 c1)).alloc (Qlr 33 s2 a2 n2 c2)).alloc (Qlr 33 s3 a3 n3 c3)).alloc (Qlt 53 false none 0 0 false none 0 0 false none 0 0)=W at *;obtain⟨p0,p1⟩:=Qa1 d0;obtain⟨q0,q1⟩:=Qa1 d1;obtain⟨r0,r1⟩:=Qa1 d2;have HC:=Qh d3;have HS:=Qh aL;clear d0 d1 d2 d3;go_upto_region 2 with fail;have b4:=Qc W (Qls 125 s1 a1 n1 c1 s2 a2 n2 c2);have d4:=Zk1 W (Qls 125 s1 a1 n1 c1 s2 a2 n2 c2);rw[HS.out] at d4;have HQ:=Qh (show Qx (W.alloc (Qls 125 s1 a1 n1 c1 s2 a2 n2 c2)) (Qlw s1 a1 n1 c1 s2 a2 n2 c2) a b from ⟨s1,a1,n1,c1,s2,a2,n2,c2,rfl,hA.up b4,hB.up b4⟩);have HB:=Qh (hB.up b4);have HX:=Qh (hX.up b4);have HL:=Qh (Bl.up bl b4);replace HC:=Qh ((b4.block _ (Ql HC.out).1).trans HC.out);replace q0:=QaD b4 q0;replace q1:=QaD b4 q1;replace r0:=QaD b4 r0;replace r1:=QaD b4 r1;clear b4 bl hA hB hX p0 p1 aL HS;generalize W.alloc (Qls 125 s1 a1 n1 c1 s2 a2 n2 c2)=W2 at *;obtain⟨e0,e1,e2,e3⟩:=Qa3 d4;clear d4;go_wp2_with fail;refine(QbD _ a b W2 HQ.out ha hb).mono ?_;rintro e' w1 ⟨rfl,aC⟩;replace q0:=QaD aC q0;replace q1:=QaD aC q1;replace r0:=QaD aC r0;replace r1:=QaD aC r1;replace e0:=QaD aC e0;replace e1:=QaD aC e1;replace e2:=QaD aC e2;replace e3:=QaD aC e3;replace HQ:=Qh (HQ.out.up aC);replace HB:=Qh (HB.out.up aC);replace HX:=Qh (HX.out.up aC);replace HL:=Qh (Bl.up HL.out aC);replace HC:=Qh ((aC.block _ (Ql HC.out).1).trans HC.out);clear aC;obtain⟨z,hz⟩:∃ z,Yy a b=z:=⟨_,rfl⟩;rw[hz];go_upto_region 3 with fail;by_cases aH:¬ z=0
 ·have a0:(z == 0)=false:=by rw[beq_eq_false_iff_ne];exact aH
  have HZ:=Qh hz;have aW:=Qh aH;clear hz;refine QaT (by kernel_rfl) [] (S:=fun w'=>w'.cell? ⟨w.heap.size+1,0,none⟩=some (.bool s2)/\w'.cell? ⟨w.heap.size+1,1,none⟩=some (.slice a2 n2 c2)/\w'.cell? ⟨w.heap.size+1+1,0,none⟩=some (.bool s3)/\w'.cell? ⟨w.heap.size+1+1,1,none⟩=some (.slice a3 n3 c3)/\w'.cell? ⟨w.heap.size+1+1+1+1,0,none⟩=some (.bool s1)/\w'.cell? ⟨w.heap.size+1+1+1+1,1,none⟩=some (.slice a1 n1 c1)/\w'.cell? ⟨w.heap.size+1+1+1+1,2,none⟩=some (.bool s2)/\w'.cell? ⟨w.heap.size+1+1+1+1,3,none⟩=some (.slice a2 n2 c2)) ⟨q0,q1,r0,r1,e0,e1,e2,e3⟩ (fun aB=>?_);(refine kL 0 rfl ?_;refine kL 1 rfl ?_;refine kL 2 rfl ?_)
  (refine uL 3 rfl ?_;refine uL 4 rfl ?_;refine uL 5 rfl ?_;refine uL 6 rfl ?_;refine uL 7 rfl ?_)
  (refine kL 8 rfl ?_)
  refine dT ?_;clear aB;replace HL:=Qh (Bl.drew HL.out);generalize hwd:w1.drew=w9 at *;have aG:=Qh (show w9.heap[w.heap.size+1+1+1]? = some (Qlt 53 false none 0 0 false none 0 0 false none 0 0) by rw[<- hwd];exact HC.out);clear hwd HC;have aD:=aG.out;obtain⟨d0,d1,d2,d3,d4,d5⟩:=QbG aD;obtain⟨f0,f1,f2,f3,f4,f5⟩:=QcU aD;clear aD;go_wp2_with fail;have hh:=QaF aG.out (.bool false) (.slice none 0 0) (.bool false) (.slice none 0 0) (.bool false) (.slice none 0 0);have aF:=QaN w9 (w.heap.size+1+1+1) (.bool false) (.slice none 0 0) (.bool false) (.slice none 0 0) (.bool false) (.slice none 0 0);have aE:=ButS.below HL.out aF HL.out.size (fun g e=>by omega);exact Qbo (B:=w.heap.size+1+1+1) rfl rfl rfl (Qiq _ _ _ _ _ _ _ _ _ _ hh) ⟨_,0,0,0,z,rfl,⟨false,none,0,0,false,none,0,0,false,none,0,0,rfl,QaY _,QaY _,QaY _⟩,.inl ⟨by rw[HZ.out];exact aW.out,rfl,rfl,rfl,HZ.out.symm⟩,aE⟩
 replace aH:=Decidable.not_not.1 aH;subst aH;obtain⟨aU,-,aC,-⟩:=Yj hz;have HZ:=Qh hz;clear hz;refine QaT (by kernel_rfl) [] (S:=fun w'=>w'.cell? ⟨w.heap.size+1,0,none⟩=some (.bool s2)/\w'.cell? ⟨w.heap.size+1,1,none⟩=some (.slice a2 n2 c2)/\w'.cell? ⟨w.heap.size+1+1,0,none⟩=some (.bool s3)/\w'.cell? ⟨w.heap.size+1+1,1,none⟩=some (.slice a3 n3 c3)/\w'.cell? ⟨w.heap.size+1+1+1+1,0,none⟩=some (.bool s1)/\w'.cell? ⟨w.heap.size+1+1+1+1,1,none⟩=some (.slice a1 n1 c1)/\w'.cell? ⟨w.heap.size+1+1+1+1,2,none⟩=some (.bool s2)/\w'.cell? ⟨w.heap.size+1+1+1+1,3,none⟩=some (.slice a2 n2 c2)) ⟨q0,q1,r0,r1,e0,e1,e2,e3⟩ (fun aB=>?_);(refine kL 0 rfl ?_;refine kL 1 rfl ?_;refine kL 2 rfl ?_;refine kL 3 rfl ?_;refine kL 5 rfl ?_)
 (refine oL 4 rfl fun K hK=>tL ?_;go_simp);refine(Qb1 _ b _ HB.out.drew aU aC).mono ?_;rintro e' w2 ⟨v,l,P,rfl,hO,hC,hP,aJ,aA⟩;replace aA:=Bl.up (Below.refl _ _).drew aA;replace q0:=QaD aA q0;replace q1:=QaD aA q1;replace r0:=QaD aA r0;replace r1:=QaD aA r1;replace e0:=QaD aA e0;replace e1:=QaD aA e1;replace e2:=QaD aA e2;replace e3:=QaD aA e3;replace HQ:=Qh (HQ.out.up aA);replace HB:=Qh (HB.out.up aA);replace HX:=Qh (HX.out.up aA);replace HL:=Qh (Bl.up HL.out aA);replace HC:=Qh ((aA.block _ (Ql HC.out).1).trans HC.out);have aR:=Qh hO.sr;have aK:=Qh hC;have aQ:=Qh (QhM hC (by omega) aC)
 have aS:=Qh (show l.length<=1099511627776 from by
  have h1:=hP.few aC;have h2:2 ^ P.length<=2 ^ 25:=Nat.pow_le_pow_right (by decide) h1;omega)
 clear aA hO hC hP aJ;(go_wp2_with fail;clear aB;refine nxL hK ⟨q0,q1,r0,r1,e0,e1,e2,e3⟩ fun aB=>tL ?_;clear hK);(refine oL 6 rfl fun K hK=>tL ?_;go_simp);refine(QcO _ _ l x _ aR.out HX.out aS.out aQ.out (by omega)).mono ?_;rintro e' w9 ⟨rfl,aA⟩;replace q0:=QaD aA q0;replace q1:=QaD aA q1;replace r0:=QaD aA r0;replace r1:=QaD aA r1;replace e0:=QaD aA e0;replace e1:=QaD aA e1;replace e2:=QaD aA e2;replace e3:=QaD aA e3;replace HQ:=Qh (HQ.out.up aA);replace HB:=Qh (HB.out.up aA);replace HX:=Qh (HX.out.up aA);replace HL:=Qh (Bl.up HL.out aA);replace HC:=Qh ((aA.block _ (Ql HC.out).1).trans HC.out);clear aA aR aQ aS;(go_wp2_with fail;clear aB;refine nxL hK ⟨q0,q1,r0,r1,e0,e1,e2,e3⟩ fun aB=>tL ?_;clear hK);have aG:=HC;have aD:=aG.out;by_cases hm:x∈l
 ·rw[decide_eq_true hm];have HM:=Qh hm;clear hm;(refine kL 7 rfl ?_;refine kL 8 rfl ?_)
  refine dT ?_;clear aB;go_upto_region 7 with fail;obtain⟨d0,d1,d2,d3,d4,d5⟩:=QbG aD;obtain⟨f0,f1,f2,f3,f4,f5⟩:=QcU aD;clear aD;have a7:=Qh (HQ.out);go_wp2_with fail;refine(Qcb _ _ a b x w9 HQ.out HX.out (fun e=>by subst e;exact absurd ((aK.out.2 0).1 HM.out).1 (by decide)) hb hx).mono ?_;rintro e' w8 ⟨v8,rfl,aV,aA⟩;obtain⟨s4,a4,n4,c4,s5,a5,n5,c5,s6,a6,n6,c6,rfl,aP,aO,aM⟩:=aV;replace HL:=Qh (Bl.up HL.out aA);have aD:=(aA.block _ (Ql aG.out).1).trans aG.out;clear d0 d1 d2 d3 d4 d5 f0 f1 f2 f3 f4 f5 aA q0 q1 r0 r1 e0 e1 e2 e3;have aZ:=Qh aP;have aY:=Qh aO;have aX:=Qh aM;clear aP aO aM;obtain⟨d0,d1,d2,d3,d4,d5⟩:=QbG aD;obtain⟨f0,f1,f2,f3,f4,f5⟩:=QcU aD;have aT:=Qh aD;clear aD;go_wp2_with fail;have hh:=QaF aT.out (.bool s4) (.slice a4 n4 c4) (.bool s5) (.slice a5 n5 c5) (.bool s6) (.slice a6 n6 c6);have aF:=QaN w8 (w.heap.size+1+1+1) (.bool s4) (.slice a4 n4 c4) (.bool s5) (.slice a5 n5 c5) (.bool s6) (.slice a6 n6 c6);have aI:=nw6 aT.out;have aE:=ButS.below HL.out aF HL.out.size (fun g e=>by omega);exact Qbo (B:=w.heap.size+1+1+1) rfl rfl rfl (Qiq _ _ _ _ _ _ _ _ _ _ hh) ⟨_,x,a,b/x,0,rfl,⟨s4,a4,n4,c4,s5,a5,n5,c5,s6,a6,n6,c6,rfl,aZ.out.fr aF aI,aY.out.fr aF aI,aX.out.fr aF aI⟩,.inr ⟨HZ.out,l,aK.out,.inr ⟨HM.out,rfl,rfl,rfl,rfl⟩⟩,aE⟩
 ·rw[decide_eq_false hm];have HM:=Qh hm;clear hm;(refine kL 7 rfl ?_;refine kL 8 rfl ?_)
  refine dT ?_;clear aB;obtain⟨d0,d1,d2,d3,d4,d5⟩:=QbG aD;obtain⟨f0,f1,f2,f3,f4,f5⟩:=QcU aD;clear aD;go_wp2_with fail;have hh:=QaF aG.out (.bool false) (.slice none 0 0) (.bool false) (.slice none 0 0) (.bool false) (.slice none 0 0);have aF:=QaN w9 (w.heap.size+1+1+1) (.bool false) (.slice none 0 0) (.bool false) (.slice none 0 0) (.bool false) (.slice none 0 0);have aE:=ButS.below HL.out aF HL.out.size (fun g e=>by omega);exact Qbo (B:=w.heap.size+1+1+1) rfl rfl rfl (Qiq _ _ _ _ _ _ _ _ _ _ hh) ⟨_,0,0,0,1,rfl,⟨false,none,0,0,false,none,0,0,false,none,0,0,rfl,QaY _,QaY _,QaY _⟩,.inr ⟨HZ.out,l,aK.out,.inl ⟨HM.out,rfl,rfl,rfl,rfl⟩⟩,aE⟩
