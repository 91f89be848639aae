/-
  law29.DescentDamage: the walk.
-/
import Derived.Test.YteidokhjmbihlaaGreatDMC
import Derived.Test.YteidokhjmbihlaaGreatDMB
import Derived.Test.YteidokhjmbihlaaGreatDP
import Derived.Test.YteidokhjmbihlaaGreatDR
import Derived.Test.YteidokhjmbihlaaGreatDS
import Derived.Test.YteidokhjmbihlaaGreatDT
set_option linter.all false
set_option maxRecDepth 100000
set_option maxHeartbeats 8000000
namespace Go.Proofs.YteidokhjmbihlaaGreat
open Go.RowKit
attribute [local go_sem ↓] Go.wp_at_zero Go.wp_at_succ
theorem QeT {α : Type} {R:Int->Option α -> Prop} {b:Int} {C:List Int} {l:List α} (hb:b≠0) (hbl:b.natAbs<1099511627776) (hC:Cand b.natAbs C) (h:LsTo R C l):l.length<=67108864:=Qt h.len (QK hC (by omega) hbl)
theorem MkTo.few {a b bd:Int} {l0 l1:List (Int×Int×Int×Int)} {m0 m1:List (Int×Int×Int)} {c:Int} (h:MkTo a b bd l0 l1 m0 m1 c):l0.length<=67108864/\l1.length<=67108864/\m0.length<=67108864/\m1.length<=67108864:=by
 rcases h with ⟨-,-,rfl,rfl,rfl,rfl⟩|⟨-,-,-,rfl,rfl,rfl,rfl⟩|⟨h1,h2,-,C0,C1,ps,c0,c1,hp,a0,a1,b0,b1⟩
 ·exact⟨by decide,by decide,by decide,by decide⟩
 ·exact⟨by decide,by decide,by decide,by decide⟩
 ·obtain⟨r1,r2,r3,r4⟩:=Q3 h1;exact⟨QeT r1 r3 c0 a0,QeT r2 r4 c1 a1,QeT r1 r3 c0 b0,QeT r2 r4 c1 b1⟩
theorem Qd0 (x y m nz:Int) (kd it at':Nat) (w:World) (h1 : -128<=x) (h2:x<=127) (h3 : -32768<=y) (h4:y<=32767) (g0:0<=m) (g1:m<=255) (g2:kd<256) (g3:it<256) (g4:at'<256) (g5 : -32768<=nz) (g6:nz<=32767) :
  Calls Tryz.prog 9 #[.agg #[.int .i8 x,.int .i16 y,.int .u8 m],.agg #[.int .u8 (kd:Int),.int .u8 (it:Int),.int .u8 (at':Int),.int .i16 nz]] w fun e' w'=>e'=.returned (.bool true)/\Below w.heap.size w w':=by
 have b0:=Qa w (.cells #[.int .i8 x,.int .i16 y,.int .u8 m] 25);have b1:=Qa (w.alloc (.cells #[.int .i8 x,.int .i16 y,.int .u8 m] 25)) (.cells #[.int .u8 (kd:Int),.int .u8 (it:Int),.int .u8 (at':Int),.int .i16 nz] 103);have d0:=Zk1 w (.cells #[.int .i8 x,.int .i16 y,.int .u8 m] 25);have d1:=Zk1 (w.alloc (.cells #[.int .i8 x,.int .i16 y,.int .u8 m] 25)) (.cells #[.int .u8 (kd:Int),.int .u8 (it:Int),.int .u8 (at':Int),.int .i16 nz] 103);rw[show (w.alloc (.cells #[.int .i8 x,.int .i16 y,.int .u8 m] 25)).heap.size=w.heap.size+1 by simp only[Zk2]] at d1;replace d0:=(Kp.blk _ _).up d0 b1;have HB:=Qh (Bl.up b0 b1);have aB:=Qh d0;have aA:=Qh d1;have bA:=Qh (And.intro g2 (And.intro g3 (And.intro g4 (And.intro g5 g6))));clear b0 b1 d0 d1 g2 g3 g4 g5 g6;go_enter Tryz.func9,Tryz.ntmps9
 go_upto_region 1 with fail;generalize ((w.alloc (.cells #[.int .i8 x,.int .i16 y,.int .u8 m] 25))).alloc (.cells #[.int .u8 (kd:Int),.int .u8 (it:Int),.int .u8 (at':Int),.int .i16 nz] 103)=W at *;go_wp2_with fail;refine mz (QjA W) fun w1 hb=>?_;replace HB:=hu hb HB;replace aB:=hu hb aB;replace aA:=hu hb aA;clear hb;obtain⟨p0,p1,p2,-⟩:=Qkr aB.out;go_wp2_with fail;refine(Qdw x y m w1 h1 h2 h3 h4).mono ?_;rintro e w2 ⟨v,a,b,rfl,hq,a4,hb⟩;obtain⟨sa,aa,na,ka,sb,ab,nb,kb,rfl,hA,hB⟩:=hq;replace HB:=hu hb HB;replace aB:=hu hb aB;replace aA:=hu hb aA;have bK:=Qh a4;clear hb p0 p1 p2 a4;go_upto_region 5 with fail;have bn:=Qa w2 (Qmb 35 sa aa na ka sb ab nb kb);replace HB:=hu bn HB;replace aB:=hu bn aB;replace aA:=hu bn aA;have aY:=Qh (Zk1 w2 (Qmb 35 sa aa na ka sb ab nb kb));have HA:=Qh (hA.up bn);have bD:=Qh (hB.up bn);obtain⟨BP,a9⟩:∃ B,w2.heap.size=B:=⟨_,rfl⟩;rw[a9] at aY |-;clear bn hA hB a9;generalize w2.alloc (Qmb 35 sa aa na ka sb ab nb kb)=w3 at *;obtain⟨p0,p1,p2,p3⟩:=Qq aY.out;obtain⟨bE,bN,bM⟩:=QjO bK.out;obtain⟨v0,v1,v2,-⟩:=Qkr aB.out;obtain⟨bd,a6⟩:∃ bd,m.tmod 8=bd:=⟨_,rfl⟩;have aT:0<=bd/\bd<8:=by rw[Int.tmod_eq_emod_of_nonneg g0] at a6;omega
 obtain⟨aV,aU⟩:=aT;have ew:IntKind.i64.wrap bd=bd:=by rw[IntKind.wrap_i64];omega
 have bI:IntKind.i64.wrap (1+bd)=1+bd:=by rw[IntKind.wrap_i64];omega
 go_wp2_with fail;refine(J4 _ _ a b (1+bd) w3 HA.out bD.out (by omega) (by omega) (by omega) (by omega)).mono ?_;rintro e w4 ⟨v,A',B',l0,l1,m0,m1,bJ,rfl,hd,aW,hm,hb⟩;have bH:=QdH hm bE (by omega);subst bH;have ea:=(aW rfl).1.symm;have eb:=(aW rfl).2.symm;subst ea eb;have HM:=Qh hm;obtain⟨s1,a1,n1,k1,s2,a2,n2,k2,d0,o0,q0,d1,o1,q1,d2,o2,q2,d3,o3,q3,rfl,hA,hB,aQ,aP,aO,aM⟩:=hd;obtain⟨rfl,-⟩:=aQ.len;obtain⟨rfl,-⟩:=aP.len;obtain⟨rfl,-⟩:=aO.len;obtain⟨rfl,-⟩:=aM.len;replace HB:=hu hb HB;replace aA:=hu hb aA;clear hb hm aW p0 p1 p2 p3 v0 v1 v2 aY HA bD aB a6 ew bI aV aU;go_upto_region 8 with fail;have bn:=Qa w4 (Qmi 87 s1 a1 n1 k1 s2 a2 n2 k2 d0 l0.length q0 d1 l1.length q1 d2 m0.length q2 d3 m1.length q3);replace HB:=hu bn HB;replace aA:=hu bn aA;have aZ:=Qh (Zk1 w4 (Qmi 87 s1 a1 n1 k1 s2 a2 n2 k2 d0 l0.length q0 d1 l1.length q1 d2 m0.length q2 d3 m1.length q3));have bB:=Qh (show Dsc (w4.alloc (Qmi 87 s1 a1 n1 k1 s2 a2 n2 k2 d0 l0.length q0 d1 l1.length q1 d2 m0.length q2 d3 m1.length q3)) (.agg #[.bool s1,.slice a1 n1 k1,.bool s2,.slice a2 n2 k2,.slice d0 l0.length q0,.slice d1 l1.length q1,.slice d2 m0.length q2,.slice d3 m1.length q3]) a b l0 l1 m0 m1 from ⟨_,_,_,_,_,_,_,_,_,_,_,_,_,_,_,_,_,_,_,_,rfl,hA.up bn,hB.up bn,aQ.up bn,aP.up bn,aO.up bn,aM.up bn⟩);obtain⟨Bd,a8⟩:∃ B,w4.heap.size=B:=⟨_,rfl⟩;rw[a8] at aZ |-;clear bn hA hB aQ aP aO aM a8;generalize w4.alloc (Qmi 87 s1 a1 n1 k1 s2 a2 n2 k2 d0 l0.length q0 d1 l1.length q1 d2 m0.length q2 d3 m1.length q3)=wd at *;obtain⟨p0,p1,p2,p3,p4,p5,p6,p7⟩:=QM aZ.out;obtain⟨v0,v1,v2,v3⟩:=Qq aA.out;obtain⟨z0,z1,z2,z3⟩:=HM.out.sz;obtain⟨x0,x1,x2,x3⟩:=HM.out.few;obtain⟨f2,f3,f4,f5,f6⟩:=bA.out;have a5:=QcF _ a b l0 l1 m0 m1 kd it at' nz wd bB.out f2 f3 f4 f5 f6 (by omega) ⟨by omega,z0.el⟩ ⟨by omega,z1.el⟩ ⟨by omega,z2.el⟩ ⟨by omega,z3.el⟩ x0 x1 x2 x3;have bC:=Qh a5;clear a5 z0 z1 z2 z3 x0 x1 x2 x3 f2 f3 f4 f5 f6;go_wp2_with fail;refine bC.out.mono ?_;rintro e w5 ⟨v,b',aF,aE,aD,aC,rfl,aS,aG,y0,y1,y2,y3,hb⟩;have HY:=Qh (And.intro y0 (And.intro y1 (And.intro y2 y3)));replace HB:=hu hb HB;have aR:=aS;obtain⟨t1,e1,o1,j1,t2,e2,o2,j2,c0,u0,r0,c1,u1,r1,c2,u2,r2,c3,u3,r3,rfl,-⟩:=aR;clear hb p0 p1 p2 p3 p4 p5 p6 p7 v0 v1 v2 v3 aZ bB aA bC bA y0 y1 y2 y3;go_upto_region 9 with fail;have bn:=Qa w5 (Qmi 87 t1 e1 o1 j1 t2 e2 o2 j2 c0 u0 r0 c1 u1 r1 c2 u2 r2 c3 u3 r3);have kE:Kp fun w'=>w'.heap[w5.heap.size]? = some (Qmi 87 t1 e1 o1 j1 t2 e2 o2 j2 c0 u0 r0 c1 u1 r1 c2 u2 r2 c3 u3 r3)/\Dsc w' (.agg #[.bool t1,.slice e1 o1 j1,.bool t2,.slice e2 o2 j2,.slice c0 u0 r0,.slice c1 u1 r1,.slice c2 u2 r2,.slice c3 u3 r3]) a b' aF aE aD aC/\Below w.heap.size w w':=(Kp.blk _ _).and ((Kp.dsc _ _ _ _ _ _ _).and (Kp.bl _));have HE:=Qh (show _/\Dsc (w5.alloc (Qmi 87 t1 e1 o1 j1 t2 e2 o2 j2 c0 u0 r0 c1 u1 r1 c2 u2 r2 c3 u3 r3)) (.agg #[.bool t1,.slice e1 o1 j1,.bool t2,.slice e2 o2 j2,.slice c0 u0 r0,.slice c1 u1 r1,.slice c2 u2 r2,.slice c3 u3 r3]) a b' aF aE aD aC/\Below w.heap.size w (w5.alloc (Qmi 87 t1 e1 o1 j1 t2 e2 o2 j2 c0 u0 r0 c1 u1 r1 c2 u2 r2 c3 u3 r3)) from And.intro (Zk1 w5 (Qmi 87 t1 e1 o1 j1 t2 e2 o2 j2 c0 u0 r0 c1 u1 r1 c2 u2 r2 c3 u3 r3)) (And.intro ((Kp.dsc _ _ _ _ _ _ _).up aS bn) (Bl.up HB.out bn)));obtain⟨Be,a7⟩:∃ B,w5.heap.size=B:=⟨_,rfl⟩;rw[a7] at HE kE |-;clear bn aS a7 HB;generalize w5.alloc (Qmi 87 t1 e1 o1 j1 t2 e2 o2 j2 c0 u0 r0 c1 u1 r1 c2 u2 r2 c3 u3 r3)=we at *;obtain⟨p0,p1,p2,p3,p4,p5,p6,p7⟩:=QM HE.out.1;go_wp2_with fail;refine(Qdx _ a b' aF aE aD aC we HE.out.2.1 (by omega) aG HY.out.1 HY.out.2.1 HY.out.2.2.1 HY.out.2.2.2).mono ?_;rintro e w6 ⟨c,rfl,aI,hb⟩;have a0:=Qh aI;replace HE:=Qh (kE.up HE.out hb);clear hb aI p0 p1 p2 p3 p4 p5 p6 p7;obtain⟨p0,p1,p2,p3,p4,p5,p6,p7⟩:=QM HE.out.1;go_wp2_with fail;refine(JR _ a b' aF aE aD aC w6 HE.out.2.1 (by omega) aG HY.out.1 HY.out.2.1 HY.out.2.2.1 HY.out.2.2.2).mono ?_;rintro e w7 ⟨lo,hi,c9,rfl,aH,hb⟩;obtain rfl:=aH.1.uniq a0.out;have aL:=Qh aH;replace HE:=Qh (kE.up HE.out hb);clear hb aH p0 p1 p2 p3 p4 p5 p6 p7;obtain⟨p0,p1,p2,p3,p4,p5,p6,p7⟩:=QM HE.out.1;go_wp2_with fail;refine(QbS _ a b' aF aE aD aC w7 HE.out.2.1 (by omega) aG HY.out.1 HY.out.2.1 HY.out.2.2.1 HY.out.2.2.2).mono ?_;rintro e w8 ⟨c8,rfl,aI,hb⟩;obtain rfl:=aI.uniq a0.out;replace HE:=Qh (kE.up HE.out hb);clear hb aI p0 p1 p2 p3 p4 p5 p6 p7;have bG:(c8 != c8)=false:=by simp
 by_cases hz:c8=0
 ·subst hz
  have a3:JG a b'=0/\Qai a b' aF aD/\Qai (-2*a) (a*a-4*b') aE aC:=by
   rcases a0.out with ⟨k1,k2⟩|⟨k1,k2,-⟩|⟨-,-,k⟩
   ·exact absurd k2.symm k1
   ·exact⟨k1,k2.1,k2.2⟩
   ·cases k
  have aX:=Qh a3;clear a3;obtain⟨p0,p1,p2,p3,p4,p5,p6,p7⟩:=QM HE.out.1;go_wp2_with fail;refine(Qcz _ a b' aF aE aD aC w8 HE.out.2.1 HY.out.1 HY.out.2.1 HY.out.2.2.1 HY.out.2.2.2 aX.out.1 aX.out.2.1 aX.out.2.2).mono ?_;rintro e w9 ⟨aJ,aK,rfl,aH,hb⟩;obtain⟨rfl,rfl,-⟩:=aH.uniq aL.out;replace HE:=Qh (kE.up HE.out hb);clear hb aH p0 p1 p2 p3 p4 p5 p6 p7 bG aL;go_upto_region 16 with fail;have bn:=Qa w9 (.cells #[.int .i64 aJ,.int .i64 aK] 96);obtain⟨p0,p1⟩:=Qz (Zk1 w9 (.cells #[.int .i64 aJ,.int .i64 aK] 96));replace HE:=Qh (kE.up HE.out bn);clear bn;have bP:(aJ == aJ)=true:=by simp
  have bO:(aK == aK)=true:=by simp
  go_wp2_with fail;go_ret
  exact⟨rfl,HE.out.2.2⟩
 ·have bL:(c8 != 0)=true:=by simp[hz]
  have bF:lo=0/\hi=0:=by
   rcases aL.out.2 with ⟨-,k1,k2⟩|⟨k,-⟩
   ·exact⟨k1,k2⟩
   ·exact absurd k hz
  obtain⟨rfl,rfl⟩:=bF;clear aL;go_wp2_with fail;go_ret
  exact⟨rfl,HE.out.2.2⟩
