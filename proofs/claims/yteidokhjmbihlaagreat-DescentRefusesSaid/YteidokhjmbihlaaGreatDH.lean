/-
  descent.point.
-/
import Derived.Test.YteidokhjmbihlaaGreatDG
set_option linter.all false
set_option maxRecDepth 100000
set_option maxHeartbeats 1000000
namespace Go.Proofs.YteidokhjmbihlaaGreat
open Go.RowKit
attribute [local go_sem ↓] Go.wp_at_zero Go.wp_at_succ
def SqrtTo (x s r code:Int):Prop:=(x<0/\s=0/\r=0/\code=1)\/(0<=x/\code=0/\∃ n:Nat,s=(n:Int)/\Isq x.toNat n/\r=x-s*s)
theorem SqrtTo.uniq {x s r c s' r' c':Int} (h:SqrtTo x s r c) (h':SqrtTo x s' r' c'):s=s'/\r=r'/\c=c':=by
 rcases h with ⟨h1,h2,h3,h4⟩|⟨h1,h2,n,h3,h4,h5⟩ <;> rcases h' with ⟨k1,k2,k3,k4⟩|⟨k1,k2,m,k3,k4,k5⟩
 ·exact⟨h2.trans k2.symm,h3.trans k3.symm,h4.trans k4.symm⟩
 ·omega
 ·omega
 ·have:=h4.uniq k4;subst this;have e:=h3.trans k3.symm;subst e;exact⟨rfl,h5.trans k5.symm,h2.trans k2.symm⟩
theorem Qjx {x:Int} {n:Nat} (h0:0<=x) (h:Isq x.toNat n):sz (n:Int)<=sz x:=by
 refine Y2 ?_;have h1:=h.1
 have h2:n<=n*n:=by
  rcases Nat.eq_zero_or_pos n with e|e
  ·subst e;decide
  ·exact Nat.le_mul_of_pos_left n e
 omega
theorem QfI {fn:Func} {R:Ending->World->Prop} {t t' t2:Tmp} {a:Act} {w:World} {B B':Nat} {z z':Int} (hr:fn.results = #[.cell t 33,.cell t' 33,.tmp t2]) (ht:a.tmps.getD t undef=.pointer (some ⟨B,0,none⟩)) (ht':a.tmps.getD t' undef=.pointer (some ⟨B',0,none⟩)) (hd:a.defers=[])
  (hB:Vx w B z) (hB':Vx w B' z') (hR:∀ v v',It w v z->It w v' z'->R (.returned (.tuple #[v,v',a.tmps.getD t2 undef])) w):bodyPost Tryz.prog fn R .ret a w:=by
 obtain⟨s,a',n,c,c0,c1,-,-,hi⟩:=hB.cells;obtain⟨s',aE,n',c',aD,aC,-,-,aA⟩:=hB'.cells;have l1:=QbP _ _ 0 _ _ c0 c1;have l2:=QbP _ _ 0 _ _ aD aC;refine bodyPost_ret ?_ hd (hR _ _ hi aA);have g1:a.tmps[t]?.getD undef=.pointer (some ⟨B,0,none⟩):=by simpa using ht
 have g2:a.tmps[t']?.getD undef=.pointer (some ⟨B',0,none⟩):=by simpa using ht'
 have hA:(asAddr (.pointer (some ⟨B,0,none⟩))).run Tryz.prog w=.ok ⟨B,0,none⟩ w:=rfl;have aB:(asAddr (.pointer (some ⟨B',0,none⟩))).run Tryz.prog w=.ok ⟨B',0,none⟩ w:=rfl;simp[results,hr,g1,g2,l1,l2,hA,aB]
theorem QhZ (va:Value) (x:Int) (w:World) (hx:It w va x) (hs:sz x<=100000000) :
  Calls Tryz.prog 146 #[va] w fun e w'=>∃ v u s r code,e=.returned (.tuple #[v,u,.int .i64 code])/\It w' v s/\It w' u r/\SqrtTo x s r code/\Below w.heap.size w w':=by
 obtain⟨s1,a1,n1,c1,rfl⟩:=hx.shape;go_enter Tryz.func146,Tryz.ntmps146
 go_upto_region 1 with fail;have b0:=Qc w (Qlr 33 s1 a1 n1 c1);have b1:=Qc (w.alloc (Qlr 33 s1 a1 n1 c1)) (Qlr 33 false none 0 0);have b2:=Qc ((w.alloc (Qlr 33 s1 a1 n1 c1)).alloc (Qlr 33 false none 0 0)) (Qlr 33 false none 0 0);have vA:=((Vx.new (w:=w) (T:=33) rfl hx).up b1).up b2;have vR:=(Vx.new0 (w:=(w.alloc (Qlr 33 s1 a1 n1 c1))) (T:=33) rfl).up b2;have vS:=Vx.new0 (w:=((w.alloc (Qlr 33 s1 a1 n1 c1)).alloc (Qlr 33 false none 0 0))) (T:=33) rfl;rw[Zk2] at vR;rw[Zk2,Zk2] at vS;have bl:=Bl.up b0 (Bl.up b1 b2);have aY:(((w.alloc (Qlr 33 s1 a1 n1 c1)).alloc (Qlr 33 false none 0 0)).alloc (Qlr 33 false none 0 0)).heap.size=w.heap.size+1+1+1:=by simp only[Zk2]
 clear b0 b1 b2 hx;generalize ((w.alloc (Qlr 33 s1 a1 n1 c1)).alloc (Qlr 33 false none 0 0)).alloc (Qlr 33 false none 0 0)=W at *;obtain⟨x1,x2,x3,x4,p0,p1,-,-,ip⟩:=vA.cells;have HS:=Qh aY;have HA:=Qh vA;have HR:=Qh vR.va;have HT:=Qh vS.va;have HL:=Qh bl;have HX:=Qh ip;clear aY vA vR vS bl ip;go_wp2_with fail;refine(Qgk _ x W HX.out hs).mono ?_;rintro e w1 ⟨v,z,code,rfl,hv,aX,hb⟩;obtain⟨s2,a2,n2,c2,rfl⟩:=hv.shape;have aJ:=Bl.up hb (Qc w1 (Qlr 33 s2 a2 n2 c2));have vZ:=Vx.new (w:=w1) (T:=33) rfl hv;replace HS:=Qh (show w.heap.size+1+1+1<=w1.heap.size by have:=HS.out;have:=hb.size;omega);replace HA:=Qh (HA.out.up aJ);replace HR:=Qh (HR.out.up aJ);replace HT:=Qh (HT.out.up aJ);replace HL:=Qh (Bl.up HL.out aJ);have HZ:=Qh vZ;have aR:=Qh aX;clear p0 p1 hb aJ hv vZ aX HX;go_upto_region 2 with fail;generalize w1.alloc (Qlr 33 s2 a2 n2 c2)=W2 at *;generalize w1.heap.size=N at *;obtain⟨zr,aG⟩:=id HR.out;obtain⟨u1,u2,u3,u4,r0,r1,aO,aM,-⟩:=aG.cells;obtain⟨zt,aC⟩:=id HT.out;obtain⟨y1,y2,y3,y4,t0,t1,aV,aU,-⟩:=aC.cells;clear aG aC;rcases id aR.out with ⟨g1,g2,g3⟩|⟨g1,g2,n,g3,g4⟩
 ·subst g2 g3;have aQ:=Qh g1;clear g1 aR;go_wp2_with fail;have aE:=QfS W2 (w.heap.size+1) false none 0 0;have aH:=QjX HR.out;have v1:=Vx.put HR.out (QaY W2)
  have aK:Va ((W2.setCell ⟨w.heap.size+1,0,none⟩ (.bool false)).setCell ⟨w.heap.size+1,1,none⟩ (.slice none 0 0)) (w.heap.size+1+1):=by
   obtain⟨zt,aC⟩:=HT.out;exact(aC.fr aE aH (by omega)).va
  have v2:=Vx.put aK (QaY _);have aB:=QfS ((W2.setCell ⟨w.heap.size+1,0,none⟩ (.bool false)).setCell ⟨w.heap.size+1,1,none⟩ (.slice none 0 0)) (w.heap.size+1+1) false none 0 0;have v3:=v1.fr aB (QjX aK) (by omega);have aI:=ButS.below HL.out aE HL.out.size (fun g e=>by omega);have aP:=ButS.below aI aB aI.size (fun g e=>by omega);exact QfI (B:=w.heap.size+1) (B':=w.heap.size+1+1) (z:=0) (z':=0) rfl rfl rfl rfl v3 v2 (fun v v' hv hv'=>⟨v,v',0,0,1,rfl,hv,hv',.inl ⟨aQ.out,rfl,rfl,rfl⟩,aP⟩)
 ·subst g2 g3;have aQ:=Qh g1;have HQ:=Qh g4;have aS:=Qh (Qjx g1 g4);clear g1 g4 aR;obtain⟨x1,x2,x3,x4,p0,p1,-,-,ip⟩:=HA.out.cells;obtain⟨z1,z2,z3,z4,q0,q1,-,-,iq⟩:=HZ.out.cells;have aF:=Qh ip;have aD:=Qh iq;clear ip iq r0 r1 aO aM t0 t1 aV aU;go_upto_region 4 with fail;refine QaT (by kernel_rfl) [6,7] (S:=fun w'=>w'.cell? ⟨w.heap.size,0,none⟩=some (.bool x1)/\w'.cell? ⟨w.heap.size,1,none⟩=some (.slice x2 x3 x4)/\w'.cell? ⟨N,0,none⟩=some (.bool z1)/\w'.cell? ⟨N,1,none⟩=some (.slice z2 z3 z4)) ⟨p0,p1,q0,q1⟩ (fun aA=>?_);(refine kL 0 rfl ?_;refine kL 1 rfl ?_;refine kL 2 rfl ?_;refine kL 3 rfl ?_)
  (refine oL 4 rfl fun K hK=>tL ?_;go_simp);refine(Qbm _ _ (n:Int) (n:Int) _ aD.out.drew aD.out.drew (by have:=aS.out;omega) (by have:=aS.out;omega)).mono ?_;rintro e w5 ⟨v5,rfl,hv,hb⟩;obtain⟨s5,a5,n5,c5,rfl⟩:=hv.shape;replace hb:=Bl.up (Below.refl _ _).drew hb;replace p0:=QaD hb p0;replace p1:=QaD hb p1;replace q0:=QaD hb q0;replace q1:=QaD hb q1;replace aF:=Qh (aF.out.up hb);replace aD:=Qh (aD.out.up hb);replace HR:=Qh (HR.out.up hb);replace HT:=Qh (HT.out.up hb);replace HL:=Qh (Bl.up HL.out hb);have H5:=Qh hv;clear hv hb;(go_wp2_with fail;clear aA;refine nxL hK ⟨p0,p1,q0,q1⟩ fun aA=>tL ?_;clear hK);(refine oL 5 rfl fun K hK=>tL ?_;go_simp);refine(Qe6 _ _ _ _ w5 aF.out H5.out (by omega) (by have:=aS.out;have:=QM (n:Int) (n:Int);omega)).mono ?_;rintro e w6 ⟨v6,rfl,hv,hb⟩;obtain⟨s6,a6,n6,c6,rfl⟩:=hv.shape;replace p0:=QaD hb p0;replace p1:=QaD hb p1;replace q0:=QaD hb q0;replace q1:=QaD hb q1;replace aF:=Qh (aF.out.up hb);replace aD:=Qh (aD.out.up hb);replace HR:=Qh (HR.out.up hb);replace HT:=Qh (HT.out.up hb);replace HL:=Qh (Bl.up HL.out hb);have H6:=Qh hv;clear hv hb H5;obtain⟨zr,aG⟩:=id HR.out;obtain⟨u1,u2,u3,u4,r0,r1,aO,aM,-⟩:=aG.cells;clear aG;(go_wp2_with fail;clear aA;refine nxL hK ⟨p0,p1,q0,q1⟩ fun aA=>tL ?_;clear hK);(refine oL 6 rfl fun K hK=>tL ?_;go_simp);have aE:=QfS w6 (w.heap.size+1) z1 z2 z3 z4;have aH:=QjX HR.out;have v1:=Vx.put HR.out aD.out
  have aK:Va ((w6.setCell ⟨w.heap.size+1,0,none⟩ (.bool z1)).setCell ⟨w.heap.size+1,1,none⟩ (.slice z2 z3 z4)) (w.heap.size+1+1):=by
   obtain⟨zt,aC⟩:=HT.out;exact(aC.fr aE aH (by omega)).va
  have a3:=H6.out.fr aE aH;have aI:=ButS.below HL.out aE HL.out.size (fun g e=>by omega);have aZ:=Qh v1;have aL:=Qh aK;have a0:=Qh a3;have aT:=Qh aI;clear aE aH v1 aK a3 aI r0 r1 aO aM HR HT HL H6 aF aD p0 p1 q0 q1;obtain⟨w7,aW⟩:∃ w7,(w6.setCell ⟨w.heap.size+1,0,none⟩ (.bool z1)).setCell ⟨w.heap.size+1,1,none⟩ (.slice z2 z3 z4)=w7:=⟨_,rfl⟩;rw[aW] at aZ aL a0 aT |-;clear aW;obtain⟨zt,aC⟩:=id aL.out;obtain⟨y1,y2,y3,y4,t0,t1,aV,aU,-⟩:=aC.cells;clear aC;(go_wp2_with fail;refine xL hK (tL ?_);clear hK);(refine oL 7 rfl fun K hK=>tL ?_;go_simp);(go_wp2_with fail;refine xL hK (tL ?_);clear hK);(refine pL 8 rfl ?_)
  refine dT ?_;clear aA;go_wp2_with fail;have v2:=Vx.put aL.out a0.out;have aB:=QfS w7 (w.heap.size+1+1) s6 a6 n6 c6;have v3:=aZ.out.fr aB (QjX aL.out) (by omega);have aP:=ButS.below aT.out aB aT.out.size (fun g e=>by omega);exact QfI (B:=w.heap.size+1) (B':=w.heap.size+1+1) rfl rfl rfl rfl v3 v2 (fun v v' hv hv'=>⟨v,v',n,_,0,rfl,hv,hv',.inr ⟨aQ.out,rfl,n,rfl,HQ.out,rfl⟩,aP⟩)
def RtTo (x s:Int) (b:Bool):Prop:=(x<0/\s=0/\b=false)\/(0<=x/\∃ n:Nat,s=(n:Int)/\Isq x.toNat n/\b=decide (x=s*s))
theorem RtTo.uniq {x s s':Int} {b b':Bool} (h:RtTo x s b) (h':RtTo x s' b'):s=s'/\b=b':=by
 rcases h with ⟨h1,h2,h3⟩|⟨h1,n,h3,h4,h5⟩ <;> rcases h' with ⟨k1,k2,k3⟩|⟨k1,m,k3,k4,k5⟩
 ·exact⟨h2.trans k2.symm,h3.trans k3.symm⟩
 ·omega
 ·omega
 ·have:=h4.uniq k4;subst this;have e:=h3.trans k3.symm;subst e;exact⟨rfl,h5.trans k5.symm⟩
theorem Qht (va:Value) (x:Int) (w:World) (hx:It w va x) (hs:sz x<=100000000) :
  Calls Tryz.prog 105 #[va] w fun e w'=>∃ v s b,e=.returned (.tuple #[v,.bool b])/\It w' v s/\RtTo x s b/\Below w.heap.size w w':=by
 obtain⟨s1,a1,n1,c1,rfl⟩:=hx.shape;go_enter Tryz.func105,Tryz.ntmps105
 go_upto_region 1 with fail;have b0:=Qc w (Qlr 33 s1 a1 n1 c1);have b1:=Qc (w.alloc (Qlr 33 s1 a1 n1 c1)) (Qlr 33 false none 0 0);have vA:=(Vx.new (w:=w) (T:=33) rfl hx).up b1;have vR:=Vx.new0 (w:=(w.alloc (Qlr 33 s1 a1 n1 c1))) (T:=33) rfl;rw[Zk2] at vR;have bl:=Bl.up b0 b1;have aJ:((w.alloc (Qlr 33 s1 a1 n1 c1)).alloc (Qlr 33 false none 0 0)).heap.size=w.heap.size+1+1:=by simp only[Zk2]
 clear b0 b1 hx;generalize (w.alloc (Qlr 33 s1 a1 n1 c1)).alloc (Qlr 33 false none 0 0)=W at *;obtain⟨x1,x2,x3,x4,p0,p1,-,-,ip⟩:=vA.cells;have HS:=Qh aJ;have HR:=Qh vR.va;have HL:=Qh bl;have HX:=Qh ip;clear aJ vA vR bl ip;go_wp2_with fail;refine(QhZ _ x W HX.out hs).mono ?_;rintro e w1 ⟨v,u,s,r,aL,rfl,hv,hu,aI,hb⟩;obtain⟨s2,a2,n2,c2,rfl⟩:=hv.shape;obtain⟨s3,a3,n3,c3,rfl⟩:=hu.shape;have h1:=Qc w1 (Qlr 33 s2 a2 n2 c2);have h2:=Qc (w1.alloc (Qlr 33 s2 a2 n2 c2)) (Qlr 33 s3 a3 n3 c3);have vZ:=(Vx.new (w:=w1) (T:=33) rfl hv).up h2;have vU:=Vx.new (w:=w1.alloc (Qlr 33 s2 a2 n2 c2)) (T:=33) rfl (hu.up h1);rw[Zk2] at vU;have aD:=Bl.up hb (Bl.up h1 h2);replace HS:=Qh (show w.heap.size+1+1<=w1.heap.size by have:=HS.out;have:=hb.size;omega);replace HR:=Qh (HR.out.up aD);replace HL:=Qh (Bl.up HL.out aD);have HZ:=Qh vZ;have HU:=Qh vU;have aF:=Qh aI;clear p0 p1 hb aD hv hu vZ vU aI HX h1 h2;go_upto_region 2 with fail;generalize (w1.alloc (Qlr 33 s2 a2 n2 c2)).alloc (Qlr 33 s3 a3 n3 c3)=W2 at *;generalize w1.heap.size=N at *;obtain⟨z1,z2,z3,z4,q0,q1,-,-,iq⟩:=HZ.out.cells;obtain⟨y1,y2,y3,y4,r0,r1,-,-,ir⟩:=HU.out.cells;obtain⟨zt,aB⟩:=id HR.out;obtain⟨u1,u2,u3,u4,t0,t1,aH,aG,-⟩:=aB.cells;have aC:=Qh iq;have aM:=Qh ir;clear aB iq ir;rcases id aF.out with ⟨g1,g2,g3,g4⟩|⟨g1,g2,n,g3,g4,g5⟩
 ·subst g2 g4;have aE:=Qh g1;clear g1 aF g3;refine QaT (by kernel_rfl) [8] (S:=fun w'=>w'.cell? ⟨N,0,none⟩=some (.bool z1)/\w'.cell? ⟨N,1,none⟩=some (.slice z2 z3 z4)/\w'.cell? ⟨N+1,0,none⟩=some (.bool y1)/\w'.cell? ⟨N+1,1,none⟩=some (.slice y2 y3 y4)) ⟨q0,q1,r0,r1⟩ (fun aA=>?_);(refine kL 0 rfl ?_;refine kL 1 rfl ?_;refine kL 2 rfl ?_;refine kL 3 rfl ?_)
  (refine uL 4 rfl ?_;refine uL 5 rfl ?_;refine uL 6 rfl ?_)
  (refine pL 7 rfl ?_)
  (refine oL 8 rfl fun K hK=>tL ?_;go_simp);(go_wp2_with fail;refine xL hK (tL ?_);clear hK);(refine pL 9 rfl ?_)
  refine dT ?_;clear aA;go_wp2_with fail;exact Qb6 (B:=w.heap.size+1) (z:=0) rfl rfl rfl (Vx.put (Va.drew HR.out) (It.drew aC.out)) (fun v hv=>⟨v,0,false,rfl,hv,.inl ⟨aE.out,rfl,rfl⟩,ButS.below (Bl.drew HL.out) (QfS _ _ _ _ _ _) HL.out.size (fun g e=>by omega)⟩)
 ·subst g2 g3;have aE:=Qh g1;have HQ:=Qh g4;have aO:=Qh g5;clear g1 g4 g5 aF;refine QaT (by kernel_rfl) [8] (S:=fun w'=>w'.cell? ⟨N,0,none⟩=some (.bool z1)/\w'.cell? ⟨N,1,none⟩=some (.slice z2 z3 z4)/\w'.cell? ⟨N+1,0,none⟩=some (.bool y1)/\w'.cell? ⟨N+1,1,none⟩=some (.slice y2 y3 y4)) ⟨q0,q1,r0,r1⟩ (fun aA=>?_);(refine kL 0 rfl ?_;refine kL 1 rfl ?_;refine kL 2 rfl ?_;refine kL 3 rfl ?_;refine kL 4 rfl ?_)
  (refine oL 5 rfl fun K hK=>tL ?_;go_simp);refine(Qa9 _ r _ aM.out.drew).mono ?_;rintro e w5 ⟨rfl,hb⟩;replace hb:=Bl.up (Below.refl _ _).drew hb;replace q0:=QaD hb q0;replace q1:=QaD hb q1;replace r0:=QaD hb r0;replace r1:=QaD hb r1;replace aC:=Qh (aC.out.up hb);replace HR:=Qh (HR.out.up hb);replace HL:=Qh (Bl.up HL.out hb)
  have HB:=Qh (show (QaW r 0 == 0)=decide (x=(n:Int)*(n:Int)) by
   rw[Qcc,aO.out,decide_eq_decide];omega)
  clear hb t0 t1 aH aG;obtain⟨cc,aK⟩:∃ c,QaW r 0=c:=⟨_,rfl⟩;rw[aK] at HB |-;clear aK;obtain⟨zt,aB⟩:=id HR.out;obtain⟨u1,u2,u3,u4,t0,t1,aH,aG,-⟩:=aB.cells;clear aB;(go_wp2_with fail;clear aA;refine nxL hK ⟨q0,q1,r0,r1⟩ fun aA=>tL ?_;clear hK);(refine pL 6 rfl ?_;refine pL 7 rfl ?_)
  (refine oL 8 rfl fun K hK=>tL ?_;go_simp);(go_wp2_with fail;refine xL hK (tL ?_);clear hK);(refine pL 9 rfl ?_)
  refine dT ?_;clear aA;go_wp2_with fail;exact Qb6 (B:=w.heap.size+1) (z:=(n:Int)) rfl rfl rfl (Vx.put HR.out aC.out) (fun v hv=>⟨v,n,_,rfl,hv,.inr ⟨aE.out,n,rfl,HQ.out,by first|exact HB.out|(rw[<- HB.out];rfl)⟩,ButS.below HL.out (QfS _ _ _ _ _ _) HL.out.size (fun g e=>by omega)⟩)
def kvO (o:Obj) (f:Nat->Rk) (vs:List Nat):Kv where
 R:=fun i v w=>(f i).R v w
 V:=fun _ w B=>w.heap[B]? = some o
 js:=fun i=>vs.contains i
 up:=fun h hb=>Rk.up h hb
 vup:=fun h hb=>(hb.block _ (Ql h).1).trans h
 vlt:=fun h=>(Ql h).1
section
variable {o:Obj} {f:Nat->Rk} {vs:List Nat} {W0 W W':World} {b:Nat->Bool} {x:Nat->Value}
theorem kvO.int (h:FlV (kvO o f vs) W0 b x W) {i:Nat} {z:Int} (hf:f i=.int z) (hb:b i=true) (hi:vs.contains i=false:=by rfl):It W (x i) z:=by
 have h2:(f i).R (x i) W:=h.pr i hi hb;rw[hf] at h2;exact h2
theorem kvO.quad (h:FlV (kvO o f vs) W0 b x W) {i:Nat} {b' m e n:Int} (hf:f i=.quad b' m e n) (hb:b i=true) (hi:vs.contains i=false:=by rfl):Q4 W (x i) b' m e n:=by
 have h2:(f i).R (x i) W:=h.pr i hi hb;rw[hf] at h2;exact h2
theorem kvO.put (h:FlV (kvO o f vs) W0 b x W) (i:Nat) {v:Value} {k:Rk} (hf:f i=k) (hk:k.R v W') (hb:Below W.heap.size W W') (hi:vs.contains i=false:=by rfl):FlV (kvO o f vs) W0 (Qn b i true) (Qn x i v) W':=
 h.call hi (show (f i).R v W' by rw[hf];exact hk) hb
theorem kvO.var (h:FlV (kvO o f vs) W0 b x W) (i:Nat) (hi:vs.contains i=true:=by rfl):FlV (kvO o f vs) W0 (Qn b i true) (Qn x i (.pointer (some ⟨W.heap.size,0,none⟩))) (W.alloc o):=
 h.var hi (Zk1 W o) (Qc _ _)
end
def gdP (x y z:Int) (m e n:Nat):Prop:=Nat.gcd m e=1/\0<=JH x y z m e/\JH x y z m e=(n:Int)*(n:Int)
def PtTo (x y z:Int) (bd:Nat) (m e n:Nat) (ok:Bool):Prop:=
 (ok=true/\m<=bd/\e<=bd/\gdP x y z m e n/\∀ m' e',e'<=bd->(m'<m\/(m'=m/\e'<e))->∀ n',¬ gdP x y z m' e' n') \/
 (ok=false/\m=0/\e=0/\n=0/\∀ m' e',m'<=bd->e'<=bd->∀ n',¬ gdP x y z m' e' n')
theorem gdP.uniq {x y z:Int} {m e n n':Nat} (h:gdP x y z m e n) (h':gdP x y z m e n'):n=n':=by
 have h1:=h.2.2.symm.trans h'.2.2;rw[<- Int.natCast_mul,<- Int.natCast_mul] at h1;have h2:n*n=n'*n':=by omega
 exact Nat.mul_self_inj.1 h2
theorem PtTo.uniq {x y z:Int} {bd m e n m' e' n':Nat} {ok ok':Bool} (h:PtTo x y z bd m e n ok) (h':PtTo x y z bd m' e' n' ok'):m=m'/\e=e'/\n=n'/\ok=ok':=by
 rcases h with ⟨h0,h1,h2,h3,h4⟩|⟨h0,h1,h2,h3,h4⟩ <;> rcases h' with ⟨k0,k1,k2,k3,k4⟩|⟨k0,k1,k2,k3,k4⟩
 ·have e1:m=m'/\e=e':=by
   have a1:¬ (m<m'\/(m=m'/\e<e')):=fun hh=>k4 m e h2 hh n h3;have a2:¬ (m'<m\/(m'=m/\e'<e)):=fun hh=>h4 m' e' k2 hh n' k3;omega
  obtain⟨rfl,rfl⟩:=e1;exact⟨rfl,rfl,h3.uniq k3,h0.trans k0.symm⟩
 ·exact absurd h3 (k4 m e h1 h2 n)
 ·exact absurd k3 (h4 m' e' k1 k2 n')
 ·exact⟨h1.trans k1.symm,h2.trans k2.symm,h3.trans k3.symm,h0.trans k0.symm⟩
theorem gdP.of {x y z s:Int} {m e:Nat} {b:Bool} (h:RtTo (JH x y z m e) s b):∃ n:Nat,s=(n:Int)/\((b && YT x y z x m e s)=true↔gdP x y z m e n)/\((b && YT x y z x m e s)=false->∀ n',¬ gdP x y z m e n'):=by
 have hg:(Int.gcd (m:Int) (e:Int)=1)↔Nat.gcd m e=1:=Iff.rfl;rcases h with ⟨h1,h2,h3⟩|⟨h1,n,h2,h3,h4⟩
 ·refine⟨0,h2,?_,fun _ n' hn=>?_⟩
  ·rw[h3,Bool.false_and];exact⟨(fun h=>nomatch h),fun h=>by have:=h.2.1;omega⟩
  ·have:=hn.2.1;omega
 ·subst h2
  have aA:(b && YT x y z x m e (n:Int))=true↔gdP x y z m e n:=by
   rw[h4];unfold YT gdP;rw[Bool.and_eq_true,Bool.and_eq_true,Bool.and_eq_true,decide_eq_true_iff,decide_eq_true_iff,decide_eq_true_iff,decide_eq_true_iff,hg];exact⟨fun⟨q1,q2,q3,q4⟩=>⟨q2,h1,q1⟩,fun⟨q1,q2,q3⟩=>⟨q3,q1,rfl,q3.symm⟩⟩
  refine⟨n,rfl,aA,fun hf n' hn=>?_⟩
  have h5:Isq (JH x y z m e).toNat n':=by
   have:(JH x y z m e).toNat=n'*n':=by
    have h6:=hn.2.2;rw[<- Int.natCast_mul] at h6;omega
   rw[this];exact Qao n'
  have:=h5.uniq h3;subst this;rw[aA.2 hn] at hf
  cases hf
