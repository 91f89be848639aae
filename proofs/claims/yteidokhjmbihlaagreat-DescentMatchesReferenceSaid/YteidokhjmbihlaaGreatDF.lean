/-
  descent: Space.
-/
import Derived.Test.YteidokhjmbihlaaGreatDE
set_option linter.all false
set_option maxRecDepth 100000
set_option maxHeartbeats 4000000
namespace Go.Proofs.YteidokhjmbihlaaGreat
open Go.RowKit
attribute [local go_sem ↓] Go.wp_at_zero Go.wp_at_succ
def Jy (x y z p k:Int):Bool×Int:=
 if x=0\/z=0 then (false,1) else if p=0/\k=0 then (JD x y z,0) else if p<2\/k<1 then (false,1) else
 if 4096<p.toNat ^ min k.toNat 20 then (false,2) else if Qd5 p.toNat=false then (false,1) else (QdX x y z p.toNat (p.toNat ^ min k.toNat 20),0)
theorem Jn (x:Int):(Qg x 0 == 0)=decide (x=0):=by
 rw[Bool.eq_iff_iff];simp[Qp]
theorem YK (va:Value) (x y z p k:Int) (w:World) (h:Sx w va x y z) (hsx:sz x<=1000000) (hsy:sz y<=1000000) (hsz:sz z<=1000000)
  (hp1 : -9223372036854775808<=p) (hp2:p<=9223372036854775807) (hk1 : -9223372036854775808<=k) (hk2:k<=9223372036854775807) :
  Calls Tryz.prog 25 #[va,.int .i64 p,.int .i64 k] w fun e' w'=>e'=.returned (.tuple #[.bool (Jy x y z p k).1,.int .i64 (Jy x y z p k).2])/\Below w.heap.size w w':=by
 have HS0:=Qh h;obtain⟨s1,a1,n1,c1,s2,a2,n2,c2,s3,a3,n3,c3,rfl,hX,hY,hZ⟩:=h;go_enter Tryz.func25,Tryz.ntmps25
 go_upto_region 1 with fail;have bl:=Qa w (.cells #[.bool s1,.slice a1 n1 c1,.bool s2,.slice a2 n2 c2,.bool s3,.slice a3 n3 c3] 53);have dA:=heap_alloc_new w (.cells #[.bool s1,.slice a1 n1 c1,.bool s2,.slice a2 n2 c2,.bool s3,.slice a3 n3 c3] 53);replace hX:=hX.up bl;replace hY:=hY.up bl;replace hZ:=hZ.up bl;replace HS0:=Qh (HS0.out.up bl);generalize w.alloc (.cells #[.bool s1,.slice a1 n1 c1,.bool s2,.slice a2 n2 c2,.bool s3,.slice a3 n3 c3] 53)=W at *;obtain⟨p0,p1,p2,p3,p4,p5⟩:=Qw dA;clear dA;go_wp2_with fail;refine(QI _ x W hX).mono ?_;rintro e w1 ⟨rfl,hb1⟩;replace bl:=Bl.up bl hb1;replace hX:=hX.up hb1;replace hY:=hY.up hb1;replace hZ:=hZ.up hb1;replace p0:=Qb hb1 p0;replace p1:=Qb hb1 p1;replace p2:=Qb hb1 p2;replace p3:=Qb hb1 p3;replace p4:=Qb hb1 p4;replace p5:=Qb hb1 p5;replace HS0:=Qh (HS0.out.up hb1);clear hb1;have hcx:=Jn x;by_cases hx0:x=0
 ·have hR:Jy x y z p k=(false,1):=by unfold Jy;rw[if_pos (.inl hx0)]
  have HR:=Qh hR;have hc1:Qg x 0=0:=Qp.2 hx0;clear hcx hR hx0;go_wp2_with fail;go_ret2
  exact⟨by rw[HR.out];rfl,bl⟩
 have hc1:¬ Qg x 0=0:=fun h=>hx0 (Qp.1 h);have hc1':(Qg x 0 == 0)=false:=by rw[hcx];exact decide_eq_false hx0
 have HX0:=Qh hx0;clear hcx hx0;go_wp2_with fail;refine(QI _ z w1 hZ).mono ?_;rintro e w2 ⟨rfl,hb1⟩;replace bl:=Bl.up bl hb1;replace hX:=hX.up hb1;replace hY:=hY.up hb1;replace hZ:=hZ.up hb1;replace p0:=Qb hb1 p0;replace p1:=Qb hb1 p1;replace p2:=Qb hb1 p2;replace p3:=Qb hb1 p3;replace p4:=Qb hb1 p4;replace p5:=Qb hb1 p5;replace HS0:=Qh (HS0.out.up hb1);clear hb1;have hcz:=Jn z;by_cases hz0:z=0
 ·have hR:Jy x y z p k=(false,1):=by unfold Jy;rw[if_pos (.inr hz0)]
  have HR:=Qh hR;have hc2:Qg z 0=0:=Qp.2 hz0;clear hcz hR hz0;go_wp2_with fail;go_ret2
  exact⟨by rw[HR.out];rfl,bl⟩
 have hc2:¬ Qg z 0=0:=fun h=>hz0 (Qp.1 h);have hc2':(Qg z 0 == 0)=false:=by rw[hcz];exact decide_eq_false hz0
 have HR0:=Qh (show Jy x y z p k=if p=0/\k=0 then (JD x y z,0) else if p<2\/k<1 then (false,1) else
  if 4096<p.toNat ^ min k.toNat 20 then (false,2) else if Qd5 p.toNat=false then (false,1) else (QdX x y z p.toNat (p.toNat ^ min k.toNat 20),0) by
   unfold Jy;rw[if_neg (fun h=>h.elim HX0.out hz0)])
 have HBL:=Qh bl;clear hcz hz0 bl hX hY hZ;by_cases hpk:p=0/\k=0
 ·obtain⟨rfl,rfl⟩:=hpk;have HR:=Qh (HR0.out.trans (if_pos ⟨rfl,rfl⟩));clear HR0;go_wp2_with fail;refine(QeK _ x y z w2 HS0.out hsx hsy hsz).mono ?_;rintro e w3 ⟨rfl,hb1⟩;replace HBL:=Qh (Bl.up HBL.out hb1);clear hb1;go_wp2_with fail;go_ret2
  exact⟨by rw[HR.out];rfl,HBL.out⟩
 replace HR0:=Qh (HR0.out.trans (if_neg hpk));by_cases hlt:p<2\/k<1
 ·have HR:=Qh (HR0.out.trans (if_pos hlt));clear HR0;by_cases hp0:p=0
  ·have hk0:¬ k=0:=fun e=>hpk ⟨hp0,e⟩;subst hp0;have hk0':(k == 0)=false:=by rw[beq_eq_false_iff_ne];exact hk0
   clear hpk hlt;go_wp2_with fail;go_ret2
   exact⟨by rw[HR.out];rfl,HBL.out⟩
  ·have hp0':(p == 0)=false:=by rw[beq_eq_false_iff_ne];exact hp0
   by_cases hpl:p<2
   ·clear hpk hlt;go_wp2_with fail;go_ret2
    exact⟨by rw[HR.out];rfl,HBL.out⟩
   ·have hkl:k<1:=by omega
    clear hpk hlt;go_wp2_with fail;go_ret2
    exact⟨by rw[HR.out];rfl,HBL.out⟩
 ·have hpl:¬ p<2:=by omega
  have hkl:¬ k<1:=by omega
  replace HR0:=Qh (HR0.out.trans (if_neg hlt));obtain⟨P,hP⟩:∃ P:Nat,p=(P:Int):=⟨p.toNat,by omega⟩;obtain⟨K,hK⟩:∃ K:Nat,k=(K:Int):=⟨k.toNat,by omega⟩;subst hP hK;rw[Int.toNat_natCast,Int.toNat_natCast] at HR0;have hp0':((P:Int) == 0)=false:=by rw[beq_eq_false_iff_ne];omega
  have hp0:¬ (P:Int)=0:=by omega
  clear hpk hlt;obtain⟨L,hL⟩:∃ L,min K 20=L:=⟨_,rfl⟩;have hmin:min (K:Int) 20=(L:Int):=by omega
  have hL1:1<=L:=by omega
  have hL2:L<=20:=by omega
  rw[hL] at HR0;clear hL;go_wp2_with fail;refine(Qbe P L w2 (by omega) (by omega) hL2).mono ?_;rintro e w3 ⟨rfl,rfl⟩;by_cases hbig:4096<P ^ L
  ·have HR:=Qh (HR0.out.trans (if_pos hbig));have hd:=decide_eq_false (show ¬ P ^ L<=4096 by omega);rw[hd];clear hbig hd HR0;go_wp2_with fail;go_ret2
   exact⟨by rw[HR.out];rfl,HBL.out⟩
  replace HR0:=Qh (HR0.out.trans (if_neg hbig));have hd:=decide_eq_true (show P ^ L<=4096 by omega);have hPP:P<=P ^ L:=Nat.le_self_pow (by omega) P;have hpw:pw4 P L=P ^ L:=if_pos (by omega);rw[hd,hpw];have hP4:P<=4096:=by omega
  obtain⟨q,hq⟩:∃ q,P ^ L=q:=⟨_,rfl⟩;rw[hq] at HR0 hPP hbig |-;have hq4:q<=4096:=by omega
  clear hd hpw hq hbig;go_wp2_with fail;refine(QcA P w3 (by omega)).mono ?_;rintro e w4 ⟨rfl,rfl⟩;by_cases hpr:Qd5 P=false
  ·have HR:=Qh (HR0.out.trans (if_pos hpr));rw[hpr];clear hpr HR0;go_wp2_with fail;go_ret2
   exact⟨by rw[HR.out];rfl,HBL.out⟩
  have HR:=Qh (HR0.out.trans (if_neg hpr));rw[Bool.not_eq_false] at hpr;rw[hpr];clear hpr HR0;go_wp2_with fail;refine(Qab _ x y z P q w4 HS0.out (by omega) hq4 (by omega) (by omega) hsx hsy hsz).mono ?_;rintro e w5 ⟨rfl,hb1⟩;replace HBL:=Qh (Bl.up HBL.out hb1);clear hb1;go_wp2_with fail;go_ret2
  exact⟨by rw[HR.out];rfl,HBL.out⟩
theorem Qhe (n:Nat) (h:1<n):Nat.log2 n=Nat.log2 (n/2)+1:=by
 rw[Nat.log2_def,if_pos (by omega)]
theorem QeL (n:Int) (w:World) (h1 : -9223372036854775808<=n) (h2:n<=1099511627776) :
  Calls Tryz.prog 100 #[.int .i64 n] w fun e w'=>e=.returned (.int .i64 ((Nat.log2 n.toNat:Nat):Int))/\w'=w:=by
 have hlg:∀ m:Nat,Nat.log2 m<=m:=fun m=>by
  by_cases e:m=0
  ·subst e;decide
  ·exact Nat.le_of_lt ((Nat.log2_lt e).2 Nat.lt_two_pow_self)
 have HLG:=Qh hlg;clear hlg;go_enter Tryz.func100,Tryz.ntmps100
 go_wp2_with fail
 go_loopw [0,3] (fun s0 s3 wr=>∃ (m:Int) (k:Nat),s0=.int .i64 m/\s3=.int .i64 (k:Int) /\ -9223372036854775808<=m/\m<=1099511627776/\k<=1099511627776/\Hid (k+Nat.log2 m.toNat=Nat.log2 n.toNat)/\wr=w)
  (fun s0 _ _=>(intOf s0).toNat)
 case atStart=>exact⟨n,0,rfl,rfl,h1,h2,by omega,Nat.zero_add _,rfl⟩
 case round=>
  obtain⟨m,k,rfl,rfl,hm1,hm2,hk,HK,rfl⟩:=hrel;by_cases hlt:1<m
  ·obtain⟨M,hM⟩:∃ M:Nat,m=(M:Int):=⟨m.toNat,by omega⟩;subst hM;have e1:=Qcj M 2;have e2:(M:Int).tdiv 2=((M/2:Nat):Int):=by rw[Int.tdiv_eq_ediv_of_nonneg (by omega)];rfl
   have e3:=HK.out;rw[Int.toNat_natCast,Qhe M (by omega)] at e3
   have hkn:k+1<=1099511627776:=by
    have:=HLG.out n.toNat;omega
   have HE:=Qh e3;obtain⟨d,hd⟩:∃ d,M/2=d:=⟨_,rfl⟩;have hdl:d<M:=by omega
   rw[hd] at e2 HE;clear hd e3 e1;go_wp2_with fail;go_roundw
   case rel=>exact⟨(d:Int),k+1,rfl,by go_num,by omega,by omega,by omega,Qh (show k+1+Nat.log2 (d:Int).toNat=_ by rw[Int.toNat_natCast];have:=HE.out;omega),by first|rfl|trivial⟩
   case measure=>simp[intOf];omega
  ·have hl:Nat.log2 m.toNat=0:=by
    have:m.toNat=0\/m.toNat=1:=by omega
    rcases this with e|e <;> rw[e] <;> decide
   have HF:=Qh (show Nat.log2 n.toNat=k by rw[<- HK.out,hl];omega);clear hl;go_wp2_with fail;go_ret
   exact⟨by rw[HF.out];rfl,rfl⟩
def Fnd (w:World) (v:Value) (b m e n:Int):Prop:=∃ s1 a1 n1 c1 s2 a2 n2 c2 s3 a3 n3 c3 s4 a4 n4 c4,v=.agg #[.bool s1,.slice a1 n1 c1,.bool s2,.slice a2 n2 c2,.bool s3,.slice a3 n3 c3,.bool s4,.slice a4 n4 c4]/\It w (.agg #[.bool s1,.slice a1 n1 c1]) b/\It w (.agg #[.bool s2,.slice a2 n2 c2]) m/\It w (.agg #[.bool s3,.slice a3 n3 c3]) e/\It w (.agg #[.bool s4,.slice a4 n4 c4]) n
theorem Fnd.up {w w':World} {v:Value} {b m e n:Int} (h:Fnd w v b m e n) (hb:Below w.heap.size w w'):Fnd w' v b m e n:=by
 obtain⟨s1,a1,n1,c1,s2,a2,n2,c2,s3,a3,n3,c3,s4,a4,n4,c4,e,h1,h2,h3,h4⟩:=h;exact⟨s1,a1,n1,c1,s2,a2,n2,c2,s3,a3,n3,c3,s4,a4,n4,c4,e,h1.up hb,h2.up hb,h3.up hb,h4.up hb⟩
def YT (x y z b m e n:Int):Bool:=decide (Int.gcd m e=1) && (decide (x=b) && decide (n*n=Qa7 x y z m e))
theorem QbO (x y:Int):(Qg x y == 0)=decide (x=y):=by
 rw[Bool.eq_iff_iff];simp[Qp]
theorem Qko {x y z m e:Int} (hsx:sz x<=1000000) (hsy:sz y<=1000000) (hsz:sz z<=1000000) (hsm:sz m<=1000000) (hse:sz e<=1000000):sz (Qa7 x y z m e)<=100000000:=by
 unfold Qa7;have h1:=JU (x*(m*m)*(m*m)+y*(m*m)*(e*e)) (z*(e*e)*(e*e));have h2:=JU (x*(m*m)*(m*m)) (y*(m*m)*(e*e));have h3:=Qo (x*(m*m)) (m*m);have h4:=Qo x (m*m);have h5:=Qo m m;have h6:=Qo (y*(m*m)) (e*e);have h7:=Qo y (m*m);have h8:=Qo e e;have h9:=Qo (z*(e*e)) (e*e);have h10:=Qo z (e*e);omega
theorem YZ (va vf:Value) (x y z b m e n:Int) (w:World) (h:Sx w va x y z) (hf:Fnd w vf b m e n) (hsx:sz x<=1000000) (hsy:sz y<=1000000) (hsz:sz z<=1000000)
  (hsb:sz b<=1000000) (hsm:sz m<=1000000) (hse:sz e<=1000000) (hsn:sz n<=1000000) :
  Calls Tryz.prog 52 #[va,vf] w fun e' w'=>e'=.returned (.bool (YT x y z b m e n))/\Below w.heap.size w w':=by
 have HS0:=Qh h;obtain⟨s1,a1,n1,c1,s2,a2,n2,c2,s3,a3,n3,c3,rfl,hX,hY,hZ⟩:=h;obtain⟨s4,a4,n4,c4,s5,a5,n5,c5,s6,a6,n6,c6,s7,a7,n7,c7,rfl,hB,hM,hE,hN⟩:=hf;go_enter Tryz.func52,Tryz.ntmps52
 go_upto_region 1 with fail;have b0:=Qa w (.cells #[.bool s1,.slice a1 n1 c1,.bool s2,.slice a2 n2 c2,.bool s3,.slice a3 n3 c3] 53);have dA:=heap_alloc_new w (.cells #[.bool s1,.slice a1 n1 c1,.bool s2,.slice a2 n2 c2,.bool s3,.slice a3 n3 c3] 53);have b1:=Qa (w.alloc (.cells #[.bool s1,.slice a1 n1 c1,.bool s2,.slice a2 n2 c2,.bool s3,.slice a3 n3 c3] 53)) (.cells #[.bool s4,.slice a4 n4 c4,.bool s5,.slice a5 n5 c5,.bool s6,.slice a6 n6 c6,.bool s7,.slice a7 n7 c7] 78);have dB:=heap_alloc_new (w.alloc (.cells #[.bool s1,.slice a1 n1 c1,.bool s2,.slice a2 n2 c2,.bool s3,.slice a3 n3 c3] 53)) (.cells #[.bool s4,.slice a4 n4 c4,.bool s5,.slice a5 n5 c5,.bool s6,.slice a6 n6 c6,.bool s7,.slice a7 n7 c7] 78);replace dA:=(b1.block _ (Ql dA).1).trans dA;rw[World.size_alloc] at dB;have bl:=Bl.up b0 b1;replace hX:=hX.up bl;replace hB:=hB.up bl;replace hM:=hM.up bl;replace hE:=hE.up bl;replace hN:=hN.up bl;replace HS0:=Qh (HS0.out.up bl);clear b0 b1 hY hZ;generalize (w.alloc (.cells #[.bool s1,.slice a1 n1 c1,.bool s2,.slice a2 n2 c2,.bool s3,.slice a3 n3 c3] 53)).alloc (.cells #[.bool s4,.slice a4 n4 c4,.bool s5,.slice a5 n5 c5,.bool s6,.slice a6 n6 c6,.bool s7,.slice a7 n7 c7] 78)=W at *;obtain⟨p0,p1,p2,p3,p4,p5⟩:=Qw dA;obtain⟨q0,q1,q2,q3,q4,q5,q6,q7⟩:=Yr dB;clear dA dB;go_wp2_with fail;refine(Qgh _ _ m e W hM hE (by omega) (by omega)).mono ?_;rintro e' w1 ⟨v,rfl,hg,hb1⟩;obtain⟨s8,a8,n8,c8,rfl⟩:=hg.shape;replace p0:=Qb hb1 p0;replace p1:=Qb hb1 p1;replace p2:=Qb hb1 p2;replace p3:=Qb hb1 p3;replace p4:=Qb hb1 p4;replace p5:=Qb hb1 p5;replace q0:=Qb hb1 q0;replace q1:=Qb hb1 q1;replace q2:=Qb hb1 q2;replace q3:=Qb hb1 q3;replace q4:=Qb hb1 q4;replace q5:=Qb hb1 q5;replace q6:=Qb hb1 q6;replace q7:=Qb hb1 q7;have HX:=Qh (hX.up hb1);have HB:=Qh (hB.up hb1);have HM:=Qh (hM.up hb1);have HEE:=Qh (hE.up hb1);have HN:=Qh (hN.up hb1);replace HS0:=Qh (HS0.out.up hb1);have HL:=Qh (Bl.up bl hb1);have HG:=Qh hg;clear hX hB hM hE hN bl hb1 hg;go_wp2_with fail;refine(Yg 1 w1 (by decide) (by decide)).mono ?_;rintro e' w2 ⟨v,rfl,hv,hb1⟩;obtain⟨s9,a9,n9,c9,rfl⟩:=hv.shape;replace p0:=Qb hb1 p0;replace p1:=Qb hb1 p1;replace p2:=Qb hb1 p2;replace p3:=Qb hb1 p3;replace p4:=Qb hb1 p4;replace p5:=Qb hb1 p5;replace q0:=Qb hb1 q0;replace q1:=Qb hb1 q1;replace q2:=Qb hb1 q2;replace q3:=Qb hb1 q3;replace q4:=Qb hb1 q4;replace q5:=Qb hb1 q5;replace q6:=Qb hb1 q6;replace q7:=Qb hb1 q7;replace HX:=Qh (HX.out.up hb1);replace HB:=Qh (HB.out.up hb1);replace HM:=Qh (HM.out.up hb1);replace HEE:=Qh (HEE.out.up hb1);replace HN:=Qh (HN.out.up hb1);replace HS0:=Qh (HS0.out.up hb1);replace HG:=Qh (HG.out.up hb1);replace HL:=Qh (Bl.up HL.out hb1);have HV:=Qh hv
 have hgs:sz ((Int.gcd m e:Nat):Int)<=1099511627776:=by
  by_cases hm0:m=0
  ·subst hm0;rw[show Int.gcd 0 e=e.natAbs by simp];rw[QcZ];omega
  ·refine Qt (QB (y:=m) ?_) (by omega);have h1:=Int.gcd_dvd_left m e;have h2:=Nat.le_of_dvd (by omega) (Int.natAbs_dvd_natAbs.2 h1);exact h2
 clear hv hb1;go_wp2_with fail;refine(YB _ _ ((Int.gcd m e:Nat):Int) 1 w2 HG.out HV.out (by omega) (by decide)).mono ?_;rintro e' w3 ⟨rfl,hb1⟩;replace p0:=Qb hb1 p0;replace p1:=Qb hb1 p1;replace p2:=Qb hb1 p2;replace p3:=Qb hb1 p3;replace p4:=Qb hb1 p4;replace p5:=Qb hb1 p5;replace q0:=Qb hb1 q0;replace q1:=Qb hb1 q1;replace q2:=Qb hb1 q2;replace q3:=Qb hb1 q3;replace q4:=Qb hb1 q4;replace q5:=Qb hb1 q5;replace q6:=Qb hb1 q6;replace q7:=Qb hb1 q7;replace HX:=Qh (HX.out.up hb1);replace HB:=Qh (HB.out.up hb1);replace HM:=Qh (HM.out.up hb1);replace HEE:=Qh (HEE.out.up hb1);replace HN:=Qh (HN.out.up hb1);replace HS0:=Qh (HS0.out.up hb1);replace HL:=Qh (Bl.up HL.out hb1);have hcg:=QbO ((Int.gcd m e:Nat):Int) 1;clear hb1 HG HV hgs;by_cases hg1:¬ Int.gcd m e=1
 ·have hf1:(Qg ((Int.gcd m e:Nat):Int) 1 == 0)=false:=by rw[hcg];exact decide_eq_false (by omega)
  have hf2:¬ Qg ((Int.gcd m e:Nat):Int) 1=0:=fun h=>by rw[beq_eq_false_iff_ne] at hf1;exact hf1 h
  have HP:=Qh (show YT x y z b m e n=false by unfold YT;rw[decide_eq_false hg1];rfl);clear hcg hg1;go_upto_region 2 with fail;refine Qc (by kernel_rfl) [] (S:=fun w'=>w'.cell? ⟨w.heap.size,0,none⟩=some (.bool s1)/\w'.cell? ⟨w.heap.size,1,none⟩=some (.slice a1 n1 c1)/\w'.cell? ⟨w.heap.size,2,none⟩=some (.bool s2)/\w'.cell? ⟨w.heap.size,3,none⟩=some (.slice a2 n2 c2)/\w'.cell? ⟨w.heap.size,4,none⟩=some (.bool s3)/\w'.cell? ⟨w.heap.size,5,none⟩=some (.slice a3 n3 c3)/\w'.cell? ⟨w.heap.size+1,0,none⟩=some (.bool s4)/\w'.cell? ⟨w.heap.size+1,1,none⟩=some (.slice a4 n4 c4)/\w'.cell? ⟨w.heap.size+1,2,none⟩=some (.bool s5)/\w'.cell? ⟨w.heap.size+1,3,none⟩=some (.slice a5 n5 c5)/\w'.cell? ⟨w.heap.size+1,4,none⟩=some (.bool s6)/\w'.cell? ⟨w.heap.size+1,5,none⟩=some (.slice a6 n6 c6)/\w'.cell? ⟨w.heap.size+1,6,none⟩=some (.bool s7)/\w'.cell? ⟨w.heap.size+1,7,none⟩=some (.slice a7 n7 c7)) ⟨p0,p1,p2,p3,p4,p5,q0,q1,q2,q3,q4,q5,q6,q7⟩ (fun hHeld=>?_);(refine kL 0 rfl ?_;refine kL 1 rfl ?_)
  (refine uL 2 rfl ?_;refine uL 3 rfl ?_;refine uL 4 rfl ?_;refine uL 5 rfl ?_;refine uL 6 rfl ?_;refine uL 7 rfl ?_)
  (refine kL 8 rfl ?_;refine kL 9 rfl ?_)
  (refine uL 10 rfl ?_;refine uL 11 rfl ?_;refine uL 12 rfl ?_;refine uL 13 rfl ?_;refine uL 14 rfl ?_;refine uL 15 rfl ?_;refine uL 16 rfl ?_;refine uL 17 rfl ?_;refine uL 18 rfl ?_;refine uL 19 rfl ?_;refine uL 20 rfl ?_;refine uL 21 rfl ?_;refine uL 22 rfl ?_;refine uL 23 rfl ?_)
  (refine kL 24 rfl ?_;refine kL 25 rfl ?_)
  refine dT ?_;clear hHeld;go_wp2_with fail;go_ret
  exact⟨by rw[HP.out];rfl,Bl.drew HL.out⟩
 replace hg1:=Decidable.not_not.1 hg1;have hf1:(Qg ((Int.gcd m e:Nat):Int) 1 == 0)=true:=by rw[hcg];exact decide_eq_true (by omega)
 have hf2:Qg ((Int.gcd m e:Nat):Int) 1=0:=by simpa using hf1
 have HPB:=Qh (show YT x y z b m e n=(decide (x=b) && decide (n*n=Qa7 x y z m e)) by unfold YT;rw[decide_eq_true hg1];rfl);clear hcg hg1;go_upto_region 2 with fail;clear hf1 hf2;refine Qc (by kernel_rfl) [] (S:=fun w'=>w'.cell? ⟨w.heap.size,0,none⟩=some (.bool s1)/\w'.cell? ⟨w.heap.size,1,none⟩=some (.slice a1 n1 c1)/\w'.cell? ⟨w.heap.size,2,none⟩=some (.bool s2)/\w'.cell? ⟨w.heap.size,3,none⟩=some (.slice a2 n2 c2)/\w'.cell? ⟨w.heap.size,4,none⟩=some (.bool s3)/\w'.cell? ⟨w.heap.size,5,none⟩=some (.slice a3 n3 c3)/\w'.cell? ⟨w.heap.size+1,0,none⟩=some (.bool s4)/\w'.cell? ⟨w.heap.size+1,1,none⟩=some (.slice a4 n4 c4)/\w'.cell? ⟨w.heap.size+1,2,none⟩=some (.bool s5)/\w'.cell? ⟨w.heap.size+1,3,none⟩=some (.slice a5 n5 c5)/\w'.cell? ⟨w.heap.size+1,4,none⟩=some (.bool s6)/\w'.cell? ⟨w.heap.size+1,5,none⟩=some (.slice a6 n6 c6)/\w'.cell? ⟨w.heap.size+1,6,none⟩=some (.bool s7)/\w'.cell? ⟨w.heap.size+1,7,none⟩=some (.slice a7 n7 c7)) ⟨p0,p1,p2,p3,p4,p5,q0,q1,q2,q3,q4,q5,q6,q7⟩ (fun hHeld=>?_);(refine kL 0 rfl ?_;refine kL 1 rfl ?_;refine kL 2 rfl ?_;refine kL 3 rfl ?_;refine kL 4 rfl ?_;refine kL 5 rfl ?_)
 (refine oL 6 rfl fun K hK=>tL ?_;go_simp);refine(YB _ _ x b _ HX.out.drew HB.out.drew (by omega) (by omega)).mono ?_;rintro e' w4 ⟨rfl,hb1⟩;have hb3:=Bl.up (Below.refl _ _).drew hb1;replace p0:=Qb hb3 p0;replace p1:=Qb hb3 p1;replace p2:=Qb hb3 p2;replace p3:=Qb hb3 p3;replace p4:=Qb hb3 p4;replace p5:=Qb hb3 p5;replace q0:=Qb hb3 q0;replace q1:=Qb hb3 q1;replace q2:=Qb hb3 q2;replace q3:=Qb hb3 q3;replace q4:=Qb hb3 q4;replace q5:=Qb hb3 q5;replace q6:=Qb hb3 q6;replace q7:=Qb hb3 q7;replace HX:=Qh (HX.out.up hb3);replace HB:=Qh (HB.out.up hb3);replace HM:=Qh (HM.out.up hb3);replace HEE:=Qh (HEE.out.up hb3);replace HN:=Qh (HN.out.up hb3);replace HS0:=Qh (HS0.out.up hb3);replace HL:=Qh (Bl.up HL.out hb3);have hcg:=QbO x b;clear hb1 hb3;(go_wp2_with fail;clear hHeld;refine nxL hK ⟨p0,p1,p2,p3,p4,p5,q0,q1,q2,q3,q4,q5,q6,q7⟩ fun hHeld=>tL ?_;clear hK);by_cases hxb:¬ x=b
 ·have hf1:(Qg x b == 0)=false:=by rw[hcg];exact decide_eq_false hxb
  have hf2:¬ Qg x b=0:=fun h=>by rw[beq_eq_false_iff_ne] at hf1;exact hf1 h
  have HP:=Qh (show YT x y z b m e n=false by rw[HPB.out,decide_eq_false hxb];rfl);clear hcg hxb;(refine kL 7 rfl ?_;refine kL 8 rfl ?_;refine kL 9 rfl ?_)
  (refine uL 10 rfl ?_;refine uL 11 rfl ?_;refine uL 12 rfl ?_;refine uL 13 rfl ?_;refine uL 14 rfl ?_;refine uL 15 rfl ?_;refine uL 16 rfl ?_;refine uL 17 rfl ?_;refine uL 18 rfl ?_;refine uL 19 rfl ?_;refine uL 20 rfl ?_;refine uL 21 rfl ?_;refine uL 22 rfl ?_;refine uL 23 rfl ?_)
  (refine kL 24 rfl ?_;refine kL 25 rfl ?_)
  refine dT ?_;clear hHeld;go_wp2_with fail;go_ret
  exact⟨by rw[HP.out];rfl,HL.out⟩
 replace hxb:=Decidable.not_not.1 hxb;have hf1:(Qg x b == 0)=true:=by rw[hcg];exact decide_eq_true hxb
 have hf2:Qg x b=0:=by simpa using hf1
 replace HPB:=Qh (show YT x y z b m e n=decide (n*n=Qa7 x y z m e) by rw[HPB.out,decide_eq_true hxb];rfl);clear hcg hxb;(refine kL 7 rfl ?_;refine kL 8 rfl ?_;refine kL 9 rfl ?_;refine kL 10 rfl ?_;refine kL 11 rfl ?_;refine kL 12 rfl ?_;refine kL 13 rfl ?_;refine kL 16 rfl ?_;refine kL 17 rfl ?_;refine kL 18 rfl ?_;refine kL 19 rfl ?_;refine kL 20 rfl ?_)
 clear hHeld hf1 hf2;refine Qz [(14,some 28),(15,some 29),(21,some 35)] 4 (FlV (kvR (fun i=>if i=14 then .row [n,n] else if i=15 then .int (n*n) else if i=21 then .int (Qa7 x y z m e) else .any) []) w4) rfl (by kernel_rfl) (by decide) (by kernel_rfl) (by kernel_rfl) (by kernel_rfl) (fun bb xx wz h=>(fun hb'=>⟨Qb hb' p0,Qb hb' p1,Qb hb' p2,Qb hb' p3,Qb hb' p4,Qb hb' p5,Qb hb' q0,Qb hb' q1,Qb hb' q2,Qb hb' q3,Qb hb' q4,Qb hb' q5,Qb hb' q6,Qb hb' q7⟩) h.bl) (fun xx=>FlV.start0 _ _ _) ?_ ?_
 ·intro i hi;have hi':i=14\/i=15\/i=21:=by simpa using hi
  clear hi;rcases hi' with rfl|rfl|rfl
  ·refine⟨_,rfl,fun bb xx wz hJ hbf hw K hK=>?_⟩;clear hw;simp only[QE] at hK |-;go_simp;exact hK.out _ _ (kvR.put hJ 14 rfl (sr2 (p0:=(s7,a7,n7,c7)) (p1:=(s7,a7,n7,c7)) (HN.out.up hJ.bl) (HN.out.up hJ.bl)) (Qa _ _))
  ·refine⟨_,rfl,fun bb xx wz hJ hbf hw K hK=>?_⟩;have hr:=kvR.row hJ (i:=14) rfl (hw 14 (by kernel_rfl));clear hbf hw;simp only[QE] at hK |-;go_simp;refine(QR _ _ wz hr (by simp) (Qjp (Qt hsn (by decide)) (Qt hsn (by decide)))).mono ?_;rintro e w8 ⟨v,rfl,hv,hb⟩;rw[Qjq] at hv;exact hK.out _ _ (kvR.put hJ 15 rfl hv hb)
  ·refine⟨_,rfl,fun bb xx wz hJ hbf hw K hK=>?_⟩;clear hbf hw;simp only[QE] at hK |-;go_simp;refine(Qbs _ _ _ x y z m e wz (HS0.out.up hJ.bl) (HM.out.up hJ.bl) (HEE.out.up hJ.bl) hsx hsy hsz hsm hse).mono ?_;rintro e w8 ⟨v,rfl,hv,hb⟩;exact hK.out _ _ (kvR.put hJ 21 rfl hv hb)
 intro bb xx wz hbb hJ;obtain⟨⟨xs15,xa15,xn15,xc15⟩,e15,hi15⟩:=(kvR.int hJ (i:=15) rfl (hbb 15 (by decide))).ip;obtain⟨⟨xs21,xa21,xn21,xc21⟩,e21,hi21⟩:=(kvR.int hJ (i:=21) rfl (hbb 21 (by decide))).ip;have hbz:=hJ.bl;clear hbb hJ;obtain⟨u14,hu14⟩:∃ u,u=xx 14:=⟨_,rfl⟩;simp only[Qdn,show xx 15=_ from e15,show xx 21=_ from e21,<- hu14];clear e15 e21 hu14;have hHeld:wz.cell? ⟨w.heap.size,0,none⟩=some (.bool s1)/\wz.cell? ⟨w.heap.size,1,none⟩=some (.slice a1 n1 c1)/\wz.cell? ⟨w.heap.size,2,none⟩=some (.bool s2)/\wz.cell? ⟨w.heap.size,3,none⟩=some (.slice a2 n2 c2)/\wz.cell? ⟨w.heap.size,4,none⟩=some (.bool s3)/\wz.cell? ⟨w.heap.size,5,none⟩=some (.slice a3 n3 c3)/\wz.cell? ⟨w.heap.size+1,0,none⟩=some (.bool s4)/\wz.cell? ⟨w.heap.size+1,1,none⟩=some (.slice a4 n4 c4)/\wz.cell? ⟨w.heap.size+1,2,none⟩=some (.bool s5)/\wz.cell? ⟨w.heap.size+1,3,none⟩=some (.slice a5 n5 c5)/\wz.cell? ⟨w.heap.size+1,4,none⟩=some (.bool s6)/\wz.cell? ⟨w.heap.size+1,5,none⟩=some (.slice a6 n6 c6)/\wz.cell? ⟨w.heap.size+1,6,none⟩=some (.bool s7)/\wz.cell? ⟨w.heap.size+1,7,none⟩=some (.slice a7 n7 c7):=⟨Qb hbz p0,Qb hbz p1,Qb hbz p2,Qb hbz p3,Qb hbz p4,Qb hbz p5,Qb hbz q0,Qb hbz q1,Qb hbz q2,Qb hbz q3,Qb hbz q4,Qb hbz q5,Qb hbz q6,Qb hbz q7⟩;dsimp only at hi15 hi21;have HI1:=Qh hi15;have HI2:=Qh hi21;have hbz0:=hbz;replace HL:=Qh (Bl.up HL.out hbz);clear hi15 hi21 hbz;(refine oL 22 rfl fun K hK=>tL ?_;go_simp);refine(YB _ _ (n*n) (Qa7 x y z m e) wz HI1.out HI2.out (by have:=Qo n n;omega) (by have:=Qko hsx hsy hsz hsm hse;omega)).mono ?_;rintro e' w5 ⟨rfl,hb1⟩;replace HL:=Qh (Bl.up HL.out hb1);have kp0:=Qb hb1 (Qb hbz0 p0);have kp1:=Qb hb1 (Qb hbz0 p1);have kp2:=Qb hb1 (Qb hbz0 p2);have kp3:=Qb hb1 (Qb hbz0 p3);have kp4:=Qb hb1 (Qb hbz0 p4);have kp5:=Qb hb1 (Qb hbz0 p5);have kq0:=Qb hb1 (Qb hbz0 q0);have kq1:=Qb hb1 (Qb hbz0 q1);have kq2:=Qb hb1 (Qb hbz0 q2);have kq3:=Qb hb1 (Qb hbz0 q3);have kq4:=Qb hb1 (Qb hbz0 q4);have kq5:=Qb hb1 (Qb hbz0 q5);have kq6:=Qb hb1 (Qb hbz0 q6);have kq7:=Qb hb1 (Qb hbz0 q7);clear hb1 hbz0;(go_wp2_with fail;clear hHeld;refine nxL hK ⟨kp0,kp1,kp2,kp3,kp4,kp5,kq0,kq1,kq2,kq3,kq4,kq5,kq6,kq7⟩ fun hHeld=>tL ?_;clear hK);have hpb:YT x y z b m e n=(Qg (n*n) (Qa7 x y z m e) == 0):=by rw[HPB.out,QbO]
 have HP:=Qh hpb;obtain⟨cc,hcc⟩:∃ c,Qg (n*n) (Qa7 x y z m e)=c:=⟨_,rfl⟩;rw[hcc] at HP |-;clear hcc hpb;(refine kL 23 rfl ?_;refine kL 24 rfl ?_;refine kL 25 rfl ?_)
 refine dT ?_;clear hHeld;go_wp2_with fail;go_ret
 exact⟨by rw[HP.out];rfl,HL.out⟩
theorem QT {fn:Func} {R:Ending->World->Prop} {t t2:Tmp} {T:TypeId} {a:Act} {w:World} {B:Nat} {v:Value} (hr:fn.results = #[.cell t T,.tmp t2]) (ht:a.tmps.getD t undef=.pointer (some ⟨B,0,none⟩)) (hd:a.defers=[])
  (hl:(loadVar T ⟨B,0,none⟩).run Tryz.prog w=.ok v w) (hR:R (.returned (.tuple #[v,a.tmps.getD t2 undef])) w):bodyPost Tryz.prog fn R .ret a w:=by
 refine bodyPost_ret ?_ hd hR;have ht':a.tmps[t]?.getD undef=.pointer (some ⟨B,0,none⟩):=by simpa using ht
 have hA:(asAddr (.pointer (some ⟨B,0,none⟩))).run Tryz.prog w=.ok ⟨B,0,none⟩ w:=rfl;simp[results,hr,ht',hl,hA]
theorem Qhs {n:Nat} {l:List Int} (h:Cand n l) (hn:n≠0) (hb:n<1099511627776):∀ x∈l,sz x<=2199023255552:=by
 intro x hx;obtain⟨-,-,h3⟩:=(h.2 x).1 hx;have h4:=Nat.le_of_dvd (by omega) h3;exact Qt (QB (y:=1099511627776) (by omega)) (by decide)
def SpcTo (a b x u v t code:Int):Prop:=
 (JA a b≠0/\u=0/\v=0/\t=0/\code=JA a b)\/(JA a b=0/\∃ l,Cand b.natAbs l/\((x∉l/\u=0/\v=0/\t=0/\code=1)\/(x∈l/\u=x/\v=a/\t=b/x/\code=0)))
theorem SpcTo.uniq {a b x u v t c u' v' t' c':Int} (h:SpcTo a b x u v t c) (h':SpcTo a b x u' v' t' c'):u=u'/\v=v'/\t=t'/\c=c':=by
 rcases h with ⟨h1,rfl,rfl,rfl,rfl⟩|⟨h1,l,hl,h⟩ <;> rcases h' with ⟨k1,rfl,rfl,rfl,rfl⟩|⟨k1,m,hm,h'⟩
 ·exact⟨rfl,rfl,rfl,rfl⟩
 ·exact absurd k1 h1
 ·exact absurd h1 k1
 ·have:=hl.uniq hm;subst this;rcases h with ⟨g1,e1,e2,e3,e4⟩|⟨g1,e1,e2,e3,e4⟩ <;> rcases h' with ⟨k1,f1,f2,f3,f4⟩|⟨k1,f1,f2,f3,f4⟩
  ·exact⟨e1.trans f1.symm,e2.trans f2.symm,e3.trans f3.symm,e4.trans f4.symm⟩
  ·exact absurd k1 g1
  ·exact absurd g1 k1
  ·exact⟨e1.trans f1.symm,e2.trans f2.symm,e3.trans f3.symm,e4.trans f4.symm⟩
theorem QZ {a b:Int} (h:JA a b=0):b≠0/\a*a-4*b≠0/\b.natAbs<1099511627776/\(a*a-4*b).natAbs<1099511627776:=by
 unfold JA at h;split at h
 ·exact absurd h (by decide)
 ·rename_i h1
  split at h
  ·exact absurd h (by decide)
  ·rename_i h2
   exact⟨fun e=>h1 (.inl e),fun e=>h1 (.inr e),by omega,by omega⟩
theorem Qbc (va vb vx:Value) (a b x:Int) (w:World) (hA:It w va a) (hB:It w vb b) (hX:It w vx x) (ha:sz a<=1000000) (hb:sz b<=1000000) (hx:sz x<=1000000) :
  Calls Tryz.prog 23 #[va,vb,vx] w fun e w'=>∃ v u y t code,e=.returned (.tuple #[v,.int .i64 code])/\Sx w' v u y t/\SpcTo a b x u y t code/\Below w.heap.size w w':=by
 obtain⟨s1,a1,n1,c1,rfl⟩:=hA.shape;obtain⟨s2,a2,n2,c2,rfl⟩:=hB.shape;obtain⟨s3,a3,n3,c3,rfl⟩:=hX.shape;go_enter Tryz.func23,Tryz.ntmps23
 go_upto_region 1 with fail;have b0:=Qa w (.cells #[.bool s1,.slice a1 n1 c1] 33);have d0:=heap_alloc_new w (.cells #[.bool s1,.slice a1 n1 c1] 33);have b1:=Qa (w.alloc (.cells #[.bool s1,.slice a1 n1 c1] 33)) (.cells #[.bool s2,.slice a2 n2 c2] 33);have d1:=heap_alloc_new (w.alloc (.cells #[.bool s1,.slice a1 n1 c1] 33)) (.cells #[.bool s2,.slice a2 n2 c2] 33);have b2:=Qa ((w.alloc (.cells #[.bool s1,.slice a1 n1 c1] 33)).alloc (.cells #[.bool s2,.slice a2 n2 c2] 33)) (.cells #[.bool s3,.slice a3 n3 c3] 33);have d2:=heap_alloc_new ((w.alloc (.cells #[.bool s1,.slice a1 n1 c1] 33)).alloc (.cells #[.bool s2,.slice a2 n2 c2] 33)) (.cells #[.bool s3,.slice a3 n3 c3] 33);have b3:=Qa (((w.alloc (.cells #[.bool s1,.slice a1 n1 c1] 33)).alloc (.cells #[.bool s2,.slice a2 n2 c2] 33)).alloc (.cells #[.bool s3,.slice a3 n3 c3] 33)) (.cells #[.bool false,.slice none 0 0,.bool false,.slice none 0 0,.bool false,.slice none 0 0] 53);have d3:=heap_alloc_new (((w.alloc (.cells #[.bool s1,.slice a1 n1 c1] 33)).alloc (.cells #[.bool s2,.slice a2 n2 c2] 33)).alloc (.cells #[.bool s3,.slice a3 n3 c3] 33)) (.cells #[.bool false,.slice none 0 0,.bool false,.slice none 0 0,.bool false,.slice none 0 0] 53);replace d0:=((Bl.up b1 (Bl.up b2 (b3))).block _ (Ql d0).1).trans d0;replace d1:=((Bl.up b2 (b3)).block _ (Ql d1).1).trans d1;replace d2:=((b3).block _ (Ql d2).1).trans d2;rw[World.size_alloc] at d1;rw[World.size_alloc,World.size_alloc] at d2;rw[World.size_alloc,World.size_alloc,World.size_alloc] at d3;have bl:=Bl.up b0 (Bl.up b1 (Bl.up b2 b3));replace hA:=hA.up bl;replace hB:=hB.up bl;replace hX:=hX.up bl;have hsz:((((w.alloc (.cells #[.bool s1,.slice a1 n1 c1] 33)).alloc (.cells #[.bool s2,.slice a2 n2 c2] 33)).alloc (.cells #[.bool s3,.slice a3 n3 c3] 33)).alloc (.cells #[.bool false,.slice none 0 0,.bool false,.slice none 0 0,.bool false,.slice none 0 0] 53)).heap.size=w.heap.size+1+1+1+1:=by simp only[World.size_alloc]
 clear b0 b1 b2 b3;generalize (((w.alloc (.cells #[.bool s1,.slice a1 n1 c1] 33)).alloc (.cells #[.bool s2,.slice a2 n2 c2] 33)).alloc (.cells #[.bool s3,.slice a3 n3 c3] 33)).alloc (.cells #[.bool false,.slice none 0 0,.bool false,.slice none 0 0,.bool false,.slice none 0 0] 53)=W at *;obtain⟨p0,p1⟩:=Qq d0;obtain⟨q0,q1⟩:=Qq d1;obtain⟨r0,r1⟩:=Qq d2;have HC:=Qh d3;have HS:=Qh hsz;clear d0 d1 d2 d3;go_upto_region 2 with fail;have b4:=Qa W (.cells #[.bool s1,.slice a1 n1 c1,.bool s2,.slice a2 n2 c2] 125);have d4:=heap_alloc_new W (.cells #[.bool s1,.slice a1 n1 c1,.bool s2,.slice a2 n2 c2] 125);rw[HS.out] at d4;have HQ:=Qh (show Qx (W.alloc (.cells #[.bool s1,.slice a1 n1 c1,.bool s2,.slice a2 n2 c2] 125)) (.agg #[.bool s1,.slice a1 n1 c1,.bool s2,.slice a2 n2 c2]) a b from ⟨s1,a1,n1,c1,s2,a2,n2,c2,rfl,hA.up b4,hB.up b4⟩);have HB:=Qh (hB.up b4);have HX:=Qh (hX.up b4);have HL:=Qh (Bl.up bl b4);replace HC:=Qh ((b4.block _ (Ql HC.out).1).trans HC.out);replace q0:=Qb b4 q0;replace q1:=Qb b4 q1;replace r0:=Qb b4 r0;replace r1:=Qb b4 r1;clear b4 bl hA hB hX p0 p1 hsz HS;generalize W.alloc (.cells #[.bool s1,.slice a1 n1 c1,.bool s2,.slice a2 n2 c2] 125)=W2 at *;obtain⟨e0,e1,e2,e3⟩:=QG d4;clear d4;go_wp2_with fail;refine(Jd _ a b W2 HQ.out ha hb).mono ?_;rintro e' w1 ⟨rfl,hb1⟩;replace q0:=Qb hb1 q0;replace q1:=Qb hb1 q1;replace r0:=Qb hb1 r0;replace r1:=Qb hb1 r1;replace e0:=Qb hb1 e0;replace e1:=Qb hb1 e1;replace e2:=Qb hb1 e2;replace e3:=Qb hb1 e3;replace HQ:=Qh (HQ.out.up hb1);replace HB:=Qh (HB.out.up hb1);replace HX:=Qh (HX.out.up hb1);replace HL:=Qh (Bl.up HL.out hb1);replace HC:=Qh ((hb1.block _ (Ql HC.out).1).trans HC.out);clear hb1;obtain⟨z,hz⟩:∃ z,JA a b=z:=⟨_,rfl⟩;rw[hz];go_upto_region 3 with fail;by_cases hz0:¬ z=0
 ·have hz1:(z == 0)=false:=by rw[beq_eq_false_iff_ne];exact hz0
  have HZ:=Qh hz;have HZ0:=Qh hz0;clear hz;refine Qc (by kernel_rfl) [] (S:=fun w'=>w'.cell? ⟨w.heap.size+1,0,none⟩=some (.bool s2)/\w'.cell? ⟨w.heap.size+1,1,none⟩=some (.slice a2 n2 c2)/\w'.cell? ⟨w.heap.size+1+1,0,none⟩=some (.bool s3)/\w'.cell? ⟨w.heap.size+1+1,1,none⟩=some (.slice a3 n3 c3)/\w'.cell? ⟨w.heap.size+1+1+1+1,0,none⟩=some (.bool s1)/\w'.cell? ⟨w.heap.size+1+1+1+1,1,none⟩=some (.slice a1 n1 c1)/\w'.cell? ⟨w.heap.size+1+1+1+1,2,none⟩=some (.bool s2)/\w'.cell? ⟨w.heap.size+1+1+1+1,3,none⟩=some (.slice a2 n2 c2)) ⟨q0,q1,r0,r1,e0,e1,e2,e3⟩ (fun hHeld=>?_);(refine kL 0 rfl ?_;refine kL 1 rfl ?_;refine kL 2 rfl ?_)
  (refine uL 3 rfl ?_;refine uL 4 rfl ?_;refine uL 5 rfl ?_;refine uL 6 rfl ?_;refine uL 7 rfl ?_)
  (refine kL 8 rfl ?_)
  refine dT ?_;clear hHeld;replace HL:=Qh (Bl.drew HL.out);generalize hwd:w1.drew=w9 at *;have HC9:=Qh (show w9.heap[w.heap.size+1+1+1]? = some (.cells #[.bool false,.slice none 0 0,.bool false,.slice none 0 0,.bool false,.slice none 0 0] 53) by rw[<- hwd];exact HC.out);clear hwd HC;have hCz:=HC9.out;obtain⟨d0,d1,d2,d3,d4,d5⟩:=Qw hCz;obtain⟨f0,f1,f2,f3,f4,f5⟩:=YR hCz;clear hCz;go_wp2_with fail;have hh:=Qa2 HC9.out (.bool false) (.slice none 0 0) (.bool false) (.slice none 0 0) (.bool false) (.slice none 0 0);have hbt:=Qhx w9 (w.heap.size+1+1+1) (.bool false) (.slice none 0 0) (.bool false) (.slice none 0 0) (.bool false) (.slice none 0 0);have hfin:=ButS.below HL.out hbt HL.out.size (fun g e=>by omega);exact QT (B:=w.heap.size+1+1+1) rfl rfl rfl (Qc3 _ _ _ _ _ _ _ _ _ _ hh) ⟨_,0,0,0,z,rfl,⟨false,none,0,0,false,none,0,0,false,none,0,0,rfl,Qk _,Qk _,Qk _⟩,.inl ⟨by rw[HZ.out];exact HZ0.out,rfl,rfl,rfl,HZ.out.symm⟩,hfin⟩
 replace hz0:=Decidable.not_not.1 hz0;subst hz0;obtain⟨hb0,-,hb1,-⟩:=QZ hz;have HZ:=Qh hz;clear hz;refine Qc (by kernel_rfl) [] (S:=fun w'=>w'.cell? ⟨w.heap.size+1,0,none⟩=some (.bool s2)/\w'.cell? ⟨w.heap.size+1,1,none⟩=some (.slice a2 n2 c2)/\w'.cell? ⟨w.heap.size+1+1,0,none⟩=some (.bool s3)/\w'.cell? ⟨w.heap.size+1+1,1,none⟩=some (.slice a3 n3 c3)/\w'.cell? ⟨w.heap.size+1+1+1+1,0,none⟩=some (.bool s1)/\w'.cell? ⟨w.heap.size+1+1+1+1,1,none⟩=some (.slice a1 n1 c1)/\w'.cell? ⟨w.heap.size+1+1+1+1,2,none⟩=some (.bool s2)/\w'.cell? ⟨w.heap.size+1+1+1+1,3,none⟩=some (.slice a2 n2 c2)) ⟨q0,q1,r0,r1,e0,e1,e2,e3⟩ (fun hHeld=>?_);(refine kL 0 rfl ?_;refine kL 1 rfl ?_;refine kL 2 rfl ?_;refine kL 3 rfl ?_;refine kL 5 rfl ?_)
 (refine oL 4 rfl fun K hK=>tL ?_;go_simp);refine(Y3 _ b _ HB.out.drew hb0 hb1).mono ?_;rintro e' w2 ⟨v,l,P,rfl,hO,hC,hP,hlen,hb3⟩;replace hb3:=Bl.up (Below.refl _ _).drew hb3;replace q0:=Qb hb3 q0;replace q1:=Qb hb3 q1;replace r0:=Qb hb3 r0;replace r1:=Qb hb3 r1;replace e0:=Qb hb3 e0;replace e1:=Qb hb3 e1;replace e2:=Qb hb3 e2;replace e3:=Qb hb3 e3;replace HQ:=Qh (HQ.out.up hb3);replace HB:=Qh (HB.out.up hb3);replace HX:=Qh (HX.out.up hb3);replace HL:=Qh (Bl.up HL.out hb3);replace HC:=Qh ((hb3.block _ (Ql HC.out).1).trans HC.out);have HSR:=Qh hO.sr;have HCN:=Qh hC;have HSZ:=Qh (Qhs hC (by omega) hb1)
 have HLN:=Qh (show l.length<=1099511627776 from by
  have h1:=hP.few hb1;have h2:2 ^ P.length<=2 ^ 25:=Nat.pow_le_pow_right (by decide) h1;omega)
 clear hb3 hO hC hP hlen;(go_wp2_with fail;clear hHeld;refine nxL hK ⟨q0,q1,r0,r1,e0,e1,e2,e3⟩ fun hHeld=>tL ?_;clear hK);(refine oL 6 rfl fun K hK=>tL ?_;go_simp);refine(Js _ _ l x _ HSR.out HX.out HLN.out HSZ.out (by omega)).mono ?_;rintro e' w9 ⟨rfl,hb3⟩;replace q0:=Qb hb3 q0;replace q1:=Qb hb3 q1;replace r0:=Qb hb3 r0;replace r1:=Qb hb3 r1;replace e0:=Qb hb3 e0;replace e1:=Qb hb3 e1;replace e2:=Qb hb3 e2;replace e3:=Qb hb3 e3;replace HQ:=Qh (HQ.out.up hb3);replace HB:=Qh (HB.out.up hb3);replace HX:=Qh (HX.out.up hb3);replace HL:=Qh (Bl.up HL.out hb3);replace HC:=Qh ((hb3.block _ (Ql HC.out).1).trans HC.out);clear hb3 HSR HSZ HLN;(go_wp2_with fail;clear hHeld;refine nxL hK ⟨q0,q1,r0,r1,e0,e1,e2,e3⟩ fun hHeld=>tL ?_;clear hK);have HC9:=HC;have hCz:=HC9.out;by_cases hm:x∈l
 ·rw[decide_eq_true hm];have HM:=Qh hm;clear hm;(refine kL 7 rfl ?_;refine kL 8 rfl ?_)
  refine dT ?_;clear hHeld;go_upto_region 7 with fail;obtain⟨d0,d1,d2,d3,d4,d5⟩:=Qw hCz;obtain⟨f0,f1,f2,f3,f4,f5⟩:=YR hCz;clear hCz;have HQ9:=Qh (HQ.out);go_wp2_with fail;refine(Yw _ _ a b x w9 HQ.out HX.out (fun e=>by subst e;exact absurd ((HCN.out.2 0).1 HM.out).1 (by decide)) hb hx).mono ?_;rintro e' w8 ⟨v8,rfl,hS8,hb3⟩;obtain⟨s4,a4,n4,c4,s5,a5,n5,c5,s6,a6,n6,c6,rfl,hI1,hI2,hI3⟩:=hS8;replace HL:=Qh (Bl.up HL.out hb3);have hCz:=(hb3.block _ (Ql HC9.out).1).trans HC9.out;clear d0 d1 d2 d3 d4 d5 f0 f1 f2 f3 f4 f5 hb3 q0 q1 r0 r1 e0 e1 e2 e3;have HI1:=Qh hI1;have HI2:=Qh hI2;have HI3:=Qh hI3;clear hI1 hI2 hI3;obtain⟨d0,d1,d2,d3,d4,d5⟩:=Qw hCz;obtain⟨f0,f1,f2,f3,f4,f5⟩:=YR hCz;have HCZ:=Qh hCz;clear hCz;go_wp2_with fail;have hh:=Qa2 HCZ.out (.bool s4) (.slice a4 n4 c4) (.bool s5) (.slice a5 n5 c5) (.bool s6) (.slice a6 n6 c6);have hbt:=Qhx w8 (w.heap.size+1+1+1) (.bool s4) (.slice a4 n4 c4) (.bool s5) (.slice a5 n5 c5) (.bool s6) (.slice a6 n6 c6);have hnw:=nw6 HCZ.out;have hfin:=ButS.below HL.out hbt HL.out.size (fun g e=>by omega);exact QT (B:=w.heap.size+1+1+1) rfl rfl rfl (Qc3 _ _ _ _ _ _ _ _ _ _ hh) ⟨_,x,a,b/x,0,rfl,⟨s4,a4,n4,c4,s5,a5,n5,c5,s6,a6,n6,c6,rfl,HI1.out.fr hbt hnw,HI2.out.fr hbt hnw,HI3.out.fr hbt hnw⟩,.inr ⟨HZ.out,l,HCN.out,.inr ⟨HM.out,rfl,rfl,rfl,rfl⟩⟩,hfin⟩
 ·rw[decide_eq_false hm];have HM:=Qh hm;clear hm;(refine kL 7 rfl ?_;refine kL 8 rfl ?_)
  refine dT ?_;clear hHeld;obtain⟨d0,d1,d2,d3,d4,d5⟩:=Qw hCz;obtain⟨f0,f1,f2,f3,f4,f5⟩:=YR hCz;clear hCz;go_wp2_with fail;have hh:=Qa2 HC9.out (.bool false) (.slice none 0 0) (.bool false) (.slice none 0 0) (.bool false) (.slice none 0 0);have hbt:=Qhx w9 (w.heap.size+1+1+1) (.bool false) (.slice none 0 0) (.bool false) (.slice none 0 0) (.bool false) (.slice none 0 0);have hfin:=ButS.below HL.out hbt HL.out.size (fun g e=>by omega);exact QT (B:=w.heap.size+1+1+1) rfl rfl rfl (Qc3 _ _ _ _ _ _ _ _ _ _ hh) ⟨_,0,0,0,1,rfl,⟨false,none,0,0,false,none,0,0,false,none,0,0,rfl,Qk _,Qk _,Qk _⟩,.inr ⟨HZ.out,l,HCN.out,.inl ⟨HM.out,rfl,rfl,rfl,rfl⟩⟩,hfin⟩
