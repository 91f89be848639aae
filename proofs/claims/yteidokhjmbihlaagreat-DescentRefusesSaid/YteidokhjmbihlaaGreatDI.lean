/-
  descent.point: the walk.
-/
import Derived.Test.YteidokhjmbihlaaGreatDH
set_option linter.all false
set_option maxRecDepth 100000
set_option maxHeartbeats 2000000
namespace Go.Proofs.YteidokhjmbihlaaGreat
open Go.RowKit
attribute [local go_sem ↓] Go.wp_at_zero Go.wp_at_succ
def Qkq (w:World) (B:Nat) (y0 y1 y2 y3 y4 y5 y6 y7:Value):World:=(((((((w.setCell ⟨B,0,none⟩ y0).setCell ⟨B,1,none⟩ y1).setCell ⟨B,2,none⟩ y2).setCell ⟨B,3,none⟩ y3).setCell ⟨B,4,none⟩ y4).setCell ⟨B,5,none⟩ y5).setCell ⟨B,6,none⟩ y6).setCell ⟨B,7,none⟩ y7
theorem Qe4 {w:World} {B T:Nat} {fr:Nat×Nat} {x0 x1 x2 x3 x4 x5 x6 x7:Value} (h:w.heap[B]? = some (.cells #[x0,x1,x2,x3,x4,x5,x6,x7] T fr)) (y0 y1 y2 y3 y4 y5 y6 y7:Value) :
  (Qkq w B y0 y1 y2 y3 y4 y5 y6 y7).heap[B]? = some (.cells #[y0,y1,y2,y3,y4,y5,y6,y7] T fr):=by
 simp[Qkq,World.setCell,Array.getElem?_modify,h]
theorem QjH (w:World) (B:Nat) (y0 y1 y2 y3 y4 y5 y6 y7:Value):ButS (fun k=>k=B) w (Qkq w B y0 y1 y2 y3 y4 y5 y6 y7):=
 (((((((ButS.set w B 0 _).trans (ButS.set _ B 1 _)).trans (ButS.set _ B 2 _)).trans (ButS.set _ B 3 _)).trans (ButS.set _ B 4 _)).trans (ButS.set _ B 5 _)).trans (ButS.set _ B 6 _)).trans (ButS.set _ B 7 _)
theorem Qkz (w:World) (B T:Nat) (fr:Nat×Nat) (x0 x1 x2 x3 x4 x5 x6 x7:Value) (h:w.heap[B]? = some (.cells #[x0,x1,x2,x3,x4,x5,x6,x7] T fr)):(loadVar 78 ⟨B,0,none⟩).run Tryz.prog w=.ok (.agg #[x0,x1,x2,x3,x4,x5,x6,x7]) w:=by
 simp[go_sem,World.cell?,h]
theorem nw8 {w:World} {B T:Nat} {fr:Nat×Nat} {s1 s2 s3 s4:Bool} {a1 a2 a3 a4:Option Addr} {n1 n2 n3 n4 c1 c2 c3 c4:Nat} (h:w.heap[B]? = some (.cells #[.bool s1,.slice a1 n1 c1,.bool s2,.slice a2 n2 c2,.bool s3,.slice a3 n3 c3,.bool s4,.slice a4 n4 c4] T fr)):∀ g,g=B->NoW w g:=by
 rintro g rfl o y hy;simp only[World.cell?,h] at hy;rcases o with _|_|_|_|_|_|_|_|o <;> simp at hy
theorem QkN {w:World} {B T:Nat} {fr:Nat×Nat} {x0 x1 x2 x3 x4 x5 x6 x7:Value} (h:w.heap[B]? = some (.cells #[x0,x1,x2,x3,x4,x5,x6,x7] T fr)) (y6 y7:Value) :
  ((w.setCell ⟨B,6,none⟩ y6).setCell ⟨B,7,none⟩ y7).heap[B]? = some (.cells #[x0,x1,x2,x3,x4,x5,y6,y7] T fr):=by
 simp[World.setCell,Array.getElem?_modify,h]
theorem Qj7 {x y z:Int} {m e:Nat} (hsx:sz x<=500000) (hsy:sz y<=500000) (hsz:sz z<=500000) (hm:m<=1000) (he:e<=1000):sz (JH x y z m e)<=600000:=by
 have aA:sz (m:Int)<=1:=Qt (Y2 (y:=1000) (by omega)) (by decide);have aB:sz (e:Int)<=1:=Qt (Y2 (y:=1000) (by omega)) (by decide);unfold JH;have h1:=JI (x*(m*m)*(m*m)+y*(m*m)*(e*e)) (z*(e*e)*(e*e));have h2:=JI (x*(m*m)*(m*m)) (y*(m*m)*(e*e));have h3:=QM (x*(m*m)) (m*m);have h4:=QM x (m*m);have h5:=QM m m;have h6:=QM (y*(m*m)) (e*e);have h7:=QM y (m*m);have h8:=QM e e;have h9:=QM (z*(e*e)) (e*e);have aC:=QM z (e*e);omega
theorem Qk6 {x s:Int} {b:Bool} (h:RtTo x s b):sz s<=sz x:=by
 rcases h with ⟨h1,h2,h3⟩|⟨h1,n,h2,h3,h4⟩
 ·subst h2;exact Nat.zero_le _
 ·subst h2;exact Qjx h1 h3
theorem Qf5 (va:Value) (x y z:Int) (bd:Nat) (w:World) (h:Sx w va x y z) (hsx:sz x<=500000) (hsy:sz y<=500000) (hsz:sz z<=500000) (hbd:bd<=1000) :
  Calls Tryz.prog 91 #[va,.int .i64 bd] w fun e' w'=>∃ v b m e n ok,e'=.returned (.tuple #[v,.bool ok])/\Fnd w' v b (m:Nat) (e:Nat) (n:Nat)/\b=(if ok then x else 0)/\PtTo x y z bd m e n ok/\Below w.heap.size w w':=by
 have a0:=Qh h;obtain⟨s1,a1,n1,c1,s2,a2,n2,c2,s3,a3,n3,c3,rfl,hX,hY,hZ⟩:=h;go_enter Tryz.func91,Tryz.ntmps91
 go_upto_region 1 with fail;have b0:=Qc w (Qlt 53 s1 a1 n1 c1 s2 a2 n2 c2 s3 a3 n3 c3);have dA:=Zk1 w (Qlt 53 s1 a1 n1 c1 s2 a2 n2 c2 s3 a3 n3 c3);have b1:=Qc (w.alloc (Qlt 53 s1 a1 n1 c1 s2 a2 n2 c2 s3 a3 n3 c3)) (Qlu 78 false none 0 0 false none 0 0 false none 0 0 false none 0 0);have dB:=Zk1 (w.alloc (Qlt 53 s1 a1 n1 c1 s2 a2 n2 c2 s3 a3 n3 c3)) (Qlu 78 false none 0 0 false none 0 0 false none 0 0 false none 0 0);replace dA:=(b1.block _ (Ql dA).1).trans dA;rw[Zk2] at dB;have bl:=Bl.up b0 b1;have a8:((w.alloc (Qlt 53 s1 a1 n1 c1 s2 a2 n2 c2 s3 a3 n3 c3)).alloc (Qlu 78 false none 0 0 false none 0 0 false none 0 0 false none 0 0)).heap.size=w.heap.size+1+1:=by simp only[Zk2]
 replace a0:=Qh (a0.out.up bl);replace hX:=hX.up bl;clear b0 b1 hY hZ;generalize (w.alloc (Qlt 53 s1 a1 n1 c1 s2 a2 n2 c2 s3 a3 n3 c3)).alloc (Qlu 78 false none 0 0 false none 0 0 false none 0 0 false none 0 0)=W at *;have HL:=Qh bl;have HX:=Qh hX;have HA:=Qh dA;have HB:=Qh dB;have bR:=Qh a8;clear bl hX dA dB a8;go_wp2_with fail
 go_loopw [6,13] (fun _ s13 wr=>∃ m:Nat,s13=.int .i64 (m:Int)/\m<=bd+1/\Hid (∀ m' e',m'<m->e'<=bd->∀ n',¬ gdP x y z m' e' n')/\Hid (Below W.heap.size W wr))
  (fun _ s13 _=>bd+1-(intOf s13).toNat)
 case atStart=>exact⟨0,rfl,by omega,Qh fun m' e' h=>by omega,Below.refl _ _⟩
 case round=>
  obtain⟨m,rfl,hm,HM,HW⟩:=hrel;by_cases hlt:m<bd+1
  ·go_wp2_with fail;have bH:decide ((m:Int)<(bd:Int)+1)=true:=decide_eq_true (by omega);simp only[bH];clear bH
   go_loopw [7,18] (fun _ s18 wq=>∃ e:Nat,s18=.int .i64 (e:Int)/\e<=bd+1/\Hid (∀ e',e'<e->∀ n',¬ gdP x y z m e' n')/\Hid (Below W.heap.size W wq))
    (fun _ s18 _=>bd+1-(intOf s18).toNat)
   case atStart=>exact⟨0,rfl,by omega,Qh fun e' h=>by omega,HW⟩
   case round=>
    obtain⟨e,rfl,he,HE,HQ⟩:=hrel;by_cases hle:e<bd+1
    ·have hA:=(HQ.out.block _ (Ql HA.out).1).trans HA.out;obtain⟨p0,p1,p2,p3,p4,p5⟩:=QbG hA;have bJ:=Qh (HX.out.up HQ.out);have bM:=Qh (a0.out.up HQ.out);clear hA;go_upto_region 7 with fail;have bG:decide ((e:Int)<(bd:Int)+1)=true:=decide_eq_true (by omega);simp only[bG];clear bG;refine QaT (by kernel_rfl) [8] (S:=fun w'=>w'.cell? ⟨w.heap.size,0,none⟩=some (.bool s1)/\w'.cell? ⟨w.heap.size,1,none⟩=some (.slice a1 n1 c1)/\w'.cell? ⟨w.heap.size,2,none⟩=some (.bool s2)/\w'.cell? ⟨w.heap.size,3,none⟩=some (.slice a2 n2 c2)/\w'.cell? ⟨w.heap.size,4,none⟩=some (.bool s3)/\w'.cell? ⟨w.heap.size,5,none⟩=some (.slice a3 n3 c3)) ⟨p0,p1,p2,p3,p4,p5⟩ (fun aH=>?_);(refine kL 0 rfl ?_;refine kL 1 rfl ?_;refine kL 2 rfl ?_;refine kL 4 rfl ?_)
     clear aH;refine Qa5 [(3,some 24),(5,some 26),(6,some 27),(7,some 8)] 1 (FlV (kvO (Qlu 78 false none 0 0 false none 0 0 false none 0 0 false none 0 0) (fun i=>if i=3 then .int (m:Int) else if i=5 then .int (e:Int) else if i=6 then .quad x (m:Int) (e:Int) 0 else if i=7 then .any else .any) [7]) wr) rfl (by kernel_rfl) (by decide) (by kernel_rfl) (by kernel_rfl) (by kernel_rfl) (fun bb xx wz h=>(fun hb'=>⟨QaD hb' p0,QaD hb' p1,QaD hb' p2,QaD hb' p3,QaD hb' p4,QaD hb' p5⟩) h.bl) (fun xx=>FlV.start _ _ _) ?_ ?_
     ·intro i hi;have bQ:i=3\/i=5\/i=6\/i=7:=by simpa using hi
      clear hi;rcases bQ with rfl|rfl|rfl|rfl
      ·refine⟨_,rfl,fun bb xx wz hJ hbf hw K hK=>?_⟩;clear hbf hw;simp only[Qba] at hK |-;go_simp;refine(Qbi (m:Int) wz (by omega) (by omega)).mono ?_;rintro e w8 ⟨v,rfl,hv,hb⟩;exact hK.out _ _ (kvO.put hJ 3 rfl hv hb)
      ·refine⟨_,rfl,fun bb xx wz hJ hbf hw K hK=>?_⟩;clear hbf hw;simp only[Qba] at hK |-;go_simp;refine(Qbi (e:Int) wz (by omega) (by omega)).mono ?_;rintro e w8 ⟨v,rfl,hv,hb⟩;exact hK.out _ _ (kvO.put hJ 5 rfl hv hb)
      ·refine⟨_,rfl,fun bb xx wz hJ hbf hw K hK=>?_⟩;have aV:=(kvO.int hJ (i:=3) rfl (hw 3 (by kernel_rfl))).ip;have aR:=Classical.choose_spec aV;generalize Classical.choose aV=q0 at aR;have a7:=aR.e;have bX:=Qh aR.h;clear aV aR;have aU:=(kvO.int hJ (i:=5) rfl (hw 5 (by kernel_rfl))).ip;have aQ:=Classical.choose_spec aU;generalize Classical.choose aU=q1 at aQ;have a6:=aQ.e;have bW:=Qh aQ.h;clear aU aQ;clear hw hbf;simp only[Qba,a7,a6] at hK |-;clear a7 a6;go_simp;exact hK.out _ _ (kvO.put hJ 6 rfl ⟨_,_,_,_,_,_,_,_,_,_,_,_,_,_,_,_,rfl,bJ.out.up hJ.bl,bX.out,bW.out,QaY _⟩ (Below.refl _ _))
      ·refine⟨_,rfl,fun bb xx wz hJ hbf hw K hK=>?_⟩;clear hbf hw;simp only[Qba] at hK |-;go_simp;exact hK.out _ _ (kvO.var hJ 7)
     intro bb xx wz aW hJ;obtain⟨B7,e7,bI,aL⟩:=hJ.pj 7 rfl (aW 7 (by decide));obtain⟨k1,b1,g1,l1,k2,b2,g2,l2,k3,b3,g3,l3,k4,b4,g4,l4,e6,bF,bE,bD,bP⟩:=kvO.quad hJ (i:=6) rfl (aW 6 (by decide));have aI:=hJ.bl;clear aW hJ;obtain⟨u3,bA⟩:∃ u,u=xx 3:=⟨_,rfl⟩;obtain⟨u5,a9⟩:∃ u,u=xx 5:=⟨_,rfl⟩;simp only[QfQ,show xx 7=_ from e7,<- bA,<- a9,show xx 6=_ from e6];clear e7 bA a9 e6;have aH:wz.cell? ⟨w.heap.size,0,none⟩=some (.bool s1)/\wz.cell? ⟨w.heap.size,1,none⟩=some (.slice a1 n1 c1)/\wz.cell? ⟨w.heap.size,2,none⟩=some (.bool s2)/\wz.cell? ⟨w.heap.size,3,none⟩=some (.slice a2 n2 c2)/\wz.cell? ⟨w.heap.size,4,none⟩=some (.bool s3)/\wz.cell? ⟨w.heap.size,5,none⟩=some (.slice a3 n3 c3):=⟨QaD aI p0,QaD aI p1,QaD aI p2,QaD aI p3,QaD aI p4,QaD aI p5⟩;replace aL:wz.heap[B7]? = some (Qlu 78 false none 0 0 false none 0 0 false none 0 0 false none 0 0):=aL;obtain⟨d0,d1,d2,d3,d4,d5,d6,d7⟩:=QbM aL;obtain⟨f0,f1,f2,f3,f4,f5,f6,f7⟩:=QeZ aL;have aZ:=Qh aL;have bZ:=Qh bI;have aE:=Qh bE;have aF:=Qh bD;have aG:=Qh bF;have bL:=Qh (bM.out.up aI);have aB:=Qh (HQ.out.trans (aI.mono HQ.out.size));have aX:=Qh (show w.heap.size≠B7/\W.heap.size<=B7 by have h1:=bR.out;have h2:=HQ.out.size;omega);clear aL bI bF bE bD bP aI p0 p1 p2 p3 p4 p5;(refine oL 8 rfl fun K hK=>tL ?_;go_simp);(go_wp2_with fail;refine xL hK (tL ?_);clear hK);refine dT ?_;clear aH d0 d1 d2 d3 d4 d5 d6 d7 f0 f1 f2 f3 f4 f5 f6 f7;have hh:=Qe4 aZ.out (.bool k1) (.slice b1 g1 l1) (.bool k2) (.slice b2 g2 l2) (.bool k3) (.slice b3 g3 l3) (.bool k4) (.slice b4 g4 l4);have aA:=QjH wz B7 (.bool k1) (.slice b1 g1 l1) (.bool k2) (.slice b2 g2 l2) (.bool k3) (.slice b3 g3 l3) (.bool k4) (.slice b4 g4 l4);have aC:=nw8 aZ.out;have HH:=Qh hh;replace aE:=Qh (aE.out.fr aA aC);replace aF:=Qh (aF.out.fr aA aC);replace aG:=Qh (aG.out.fr aA aC);have a5:=Qh ((aA.block w.heap.size (by have:=(Ql HA.out).1;have:=aB.out.size;omega) aX.out.1).trans ((aB.out.block _ (Ql HA.out).1).trans HA.out));replace aB:=Qh (ButS.below aB.out aA aB.out.size (fun g e=>by have:=aX.out.2;omega))
     have aP:Sx (Qkq wz B7 (.bool k1) (.slice b1 g1 l1) (.bool k2) (.slice b2 g2 l2) (.bool k3) (.slice b3 g3 l3) (.bool k4) (.slice b4 g4 l4)) (Qlx s1 a1 n1 c1 s2 a2 n2 c2 s3 a3 n3 c3) x y z:=by
      obtain⟨t1,o1,r1,v1,t2,o2,r2,v2,t3,o3,r3,v3,ee,y1,y2,y3⟩:=bL.out;exact⟨t1,o1,r1,v1,t2,o2,r2,v2,t3,o3,r3,v3,ee,y1.fr aA aC,y2.fr aA aC,y3.fr aA aC⟩
     have aK:=Qh aP;clear hh aA aC aP bL aZ bZ bM bJ;have bB:Qkq wz B7 (.bool k1) (.slice b1 g1 l1) (.bool k2) (.slice b2 g2 l2) (.bool k3) (.slice b3 g3 l3) (.bool k4) (.slice b4 g4 l4)=(((((((wz.setCell ⟨B7,0,none⟩ (.bool k1)).setCell ⟨B7,1,none⟩ (.slice b1 g1 l1)).setCell ⟨B7,2,none⟩ (.bool k2)).setCell ⟨B7,3,none⟩ (.slice b2 g2 l2)).setCell ⟨B7,4,none⟩ (.bool k3)).setCell ⟨B7,5,none⟩ (.slice b3 g3 l3)).setCell ⟨B7,6,none⟩ (.bool k4)).setCell ⟨B7,7,none⟩ (.slice b4 g4 l4):=rfl;rw[bB] at HH aE aF aG a5 aB aK;clear bB;generalize (((((((wz.setCell ⟨B7,0,none⟩ (.bool k1)).setCell ⟨B7,1,none⟩ (.slice b1 g1 l1)).setCell ⟨B7,2,none⟩ (.bool k2)).setCell ⟨B7,3,none⟩ (.slice b2 g2 l2)).setCell ⟨B7,4,none⟩ (.bool k3)).setCell ⟨B7,5,none⟩ (.slice b3 g3 l3)).setCell ⟨B7,6,none⟩ (.bool k4)).setCell ⟨B7,7,none⟩ (.slice b4 g4 l4)=w7 at *;have hH:=HH.out;have hA:=a5.out;obtain⟨p0,p1,p2,p3,p4,p5⟩:=QbG hA;obtain⟨q0,q1,q2,q3,q4,q5,q6,q7⟩:=QbM hH;clear hH hA;go_wp2_with fail;refine(Qdt _ _ _ x y z (m:Int) (e:Int) w7 aK.out aE.out aF.out (by omega) (by omega) (by omega) (Qes m (by omega)) (Qes e (by omega))).mono ?_;rintro e' w8 ⟨v,rfl,hv,hb⟩;obtain⟨t1,o1,r1,v1,rfl⟩:=hv.shape;replace p0:=QaD hb p0;replace p1:=QaD hb p1;replace p2:=QaD hb p2;replace p3:=QaD hb p3;replace p4:=QaD hb p4;replace p5:=QaD hb p5;replace q0:=QaD hb q0;replace q1:=QaD hb q1;replace q2:=QaD hb q2;replace q3:=QaD hb q3;replace q4:=QaD hb q4;replace q5:=QaD hb q5;replace q6:=QaD hb q6;replace q7:=QaD hb q7;replace aE:=Qh (aE.out.up hb);replace aF:=Qh (aF.out.up hb);replace aG:=Qh (aG.out.up hb);replace aK:=Qh (aK.out.up hb);replace HH:=Qh ((hb.block _ (Ql HH.out).1).trans HH.out);replace aB:=Qh (aB.out.trans (hb.mono aB.out.size));have bK:=Qh hv;clear hb hv a5;have aY:=Qh (Qj7 hsx hsy hsz (show m<=1000 by omega) (show e<=1000 by omega));go_wp2_with fail;refine(Qht _ _ w8 bK.out (Qt aY.out (by decide))).mono ?_;rintro e' w9 ⟨v,s,b,rfl,hv,aT,hb⟩;obtain⟨t2,o2,r2,v2,rfl⟩:=hv.shape;have aD:=Bl.up hb (Qc w9 (Qlr 33 t2 o2 r2 v2));have vS:=Vx.new (w:=w9) (T:=33) rfl hv;replace p0:=QaD aD p0;replace p1:=QaD aD p1;replace p2:=QaD aD p2;replace p3:=QaD aD p3;replace p4:=QaD aD p4;replace p5:=QaD aD p5;replace q0:=QaD aD q0;replace q1:=QaD aD q1;replace q2:=QaD aD q2;replace q3:=QaD aD q3;replace q4:=QaD aD q4;replace q5:=QaD aD q5;replace q6:=QaD aD q6;replace q7:=QaD aD q7;replace aE:=Qh (aE.out.up aD);replace aF:=Qh (aF.out.up aD);replace aG:=Qh (aG.out.up aD);replace aK:=Qh (aK.out.up aD);replace HH:=Qh ((aD.block _ (Ql HH.out).1).trans HH.out);replace aB:=Qh (aB.out.trans (aD.mono aB.out.size));have HV:=Qh vS;have bS:=Qh (hv.up (Qc w9 (Qlr 33 t2 o2 r2 v2)));have bT:=Qh (Qt (Qk6 aT) aY.out);have aM:=Qh (gdP.of aT);clear hb aD hv vS aT bK aY;go_upto_region 9 with fail;generalize w9.alloc (Qlr 33 t2 o2 r2 v2)=w10 at *;generalize w9.heap.size=NB at *;obtain⟨i1,i2,i3,i4,j0,j1,-,-,ij⟩:=HV.out.cells;have aO:=Qh ij;clear ij;have hH:=HH.out;have f6:w10.frozen? ⟨B7,6,none⟩=false:=by simp[World.frozen?,hH]
     have f7:w10.frozen? ⟨B7,7,none⟩=false:=by simp[World.frozen?,hH]
     clear hH;go_upto_region 10 with fail;clear p0 p1 p2 p3 p4 p5 q0 q1 q2 q3 q4 q5 q6 q7 f6 f7 j0 j1;have hh:=QkN HH.out (.bool i1) (.slice i2 i3 i4);have aA:ButS (fun k=>k=B7) w10 ((w10.setCell ⟨B7,6,none⟩ (.bool i1)).setCell ⟨B7,7,none⟩ (.slice i2 i3 i4)):=(ButS.set w10 B7 6 _).trans (ButS.set _ B7 7 _);have aC:=nw8 HH.out;replace aE:=Qh (aE.out.fr aA aC);replace aF:=Qh (aF.out.fr aA aC);replace aG:=Qh (aG.out.fr aA aC);replace aO:=Qh (aO.out.fr aA aC)
     have aP:Sx ((w10.setCell ⟨B7,6,none⟩ (.bool i1)).setCell ⟨B7,7,none⟩ (.slice i2 i3 i4)) (Qlx s1 a1 n1 c1 s2 a2 n2 c2 s3 a3 n3 c3) x y z:=by
      obtain⟨t1,o1,r1,v1,t2,o2,r2,v2,t3,o3,r3,v3,ee,y1,y2,y3⟩:=aK.out;exact⟨t1,o1,r1,v1,t2,o2,r2,v2,t3,o3,r3,v3,ee,y1.fr aA aC,y2.fr aA aC,y3.fr aA aC⟩
     have bN:=Qh aP;have bY:=Qh hh;replace aB:=Qh (ButS.below aB.out aA aB.out.size (fun g e=>by have:=aX.out.2;omega));clear aP hh aA aC aK HH HV bS;generalize (w10.setCell ⟨B7,6,none⟩ (.bool i1)).setCell ⟨B7,7,none⟩ (.slice i2 i3 i4)=w11 at *;have hH:=bY.out;have hA:=(aB.out.block _ (Ql HA.out).1).trans HA.out;obtain⟨p0,p1,p2,p3,p4,p5⟩:=QbG hA;obtain⟨q0,q1,q2,q3,q4,q5,q6,q7⟩:=QbM hH;clear hH hA
     cases b with
     | false =>
       have a4:=Qh (show ∀ e',e'<e+1->∀ n',¬ gdP x y z m e' n' from fun e' h1 n'=>by
        by_cases h3:e'=e
        ·subst h3;obtain⟨n0,-,-,h4⟩:=aM.out;exact h4 (by simp) n'
        ·exact HE.out e' (by omega) n')
       clear aM;go_wp2_with fail;go_roundw
       case rel=>exact⟨e+1,by go_num,by omega,a4,aB⟩
       case measure=>simp[intOf];omega
     | true =>
       go_wp2_with fail;refine(Qcd _ _ x y z x (m:Int) (e:Int) s w11 bN.out ⟨_,_,_,_,_,_,_,_,_,_,_,_,_,_,_,_,rfl,aG.out,aE.out,aF.out,aO.out⟩ (by omega) (by omega) (by omega) (by omega) (Qes m (by omega)) (Qes e (by omega)) (Qt bT.out (by decide))).mono ?_;rintro e' bO ⟨rfl,hb⟩;replace p0:=QaD hb p0;replace p1:=QaD hb p1;replace p2:=QaD hb p2;replace p3:=QaD hb p3;replace p4:=QaD hb p4;replace p5:=QaD hb p5;replace q0:=QaD hb q0;replace q1:=QaD hb q1;replace q2:=QaD hb q2;replace q3:=QaD hb q3;replace q4:=QaD hb q4;replace q5:=QaD hb q5;replace q6:=QaD hb q6;replace q7:=QaD hb q7;replace aE:=Qh (aE.out.up hb);replace aF:=Qh (aF.out.up hb);replace aG:=Qh (aG.out.up hb);replace aO:=Qh (aO.out.up hb);replace aB:=Qh (aB.out.trans (hb.mono aB.out.size));clear hb bN;by_cases aJ:YT x y z x (m:Int) (e:Int) s=true
       ·obtain⟨n,rfl,bC,-⟩:=aM.out
        have bU:=Qh (show PtTo x y z bd m e n true from .inl ⟨rfl,by omega,by omega,bC.1 (by rw[aJ];rfl),fun m' e' h1 h2=>by
         rcases h2 with h2|⟨h2,h3⟩
         ·exact HM.out m' e' h2 h1
         ·subst h2;exact HE.out e' h3⟩)
        rw[aJ];have hB:=(aB.out.block _ (Ql HB.out).1).trans HB.out;obtain⟨d0,d1,d2,d3,d4,d5,d6,d7⟩:=QbM hB;obtain⟨f0,f1,f2,f3,f4,f5,f6,f7⟩:=QeZ hB;have aS:=Qh hB;clear hB aJ bC aM;go_wp2_with fail;have hh:=Qe4 aS.out (.bool k1) (.slice b1 g1 l1) (.bool k2) (.slice b2 g2 l2) (.bool k3) (.slice b3 g3 l3) (.bool i1) (.slice i2 i3 i4);have aA:=QjH bO (w.heap.size+1) (.bool k1) (.slice b1 g1 l1) (.bool k2) (.slice b2 g2 l2) (.bool k3) (.slice b3 g3 l3) (.bool i1) (.slice i2 i3 i4);have aC:=nw8 aS.out;have hl:=Bl.up HL.out aB.out;exact Qbo (B:=w.heap.size+1) rfl rfl rfl (Qkz _ _ _ _ _ _ _ _ _ _ _ _ hh) ⟨_,x,m,e,n,true,rfl,⟨_,_,_,_,_,_,_,_,_,_,_,_,_,_,_,_,rfl,aG.out.fr aA aC,aE.out.fr aA aC,aF.out.fr aA aC,aO.out.fr aA aC⟩,rfl,bU.out,ButS.below hl aA hl.size (fun g e=>by omega)⟩
       ·have aJ:=Bool.eq_false_iff.2 aJ
        have a4:=Qh (show ∀ e',e'<e+1->∀ n',¬ gdP x y z m e' n' from fun e' h1 n'=>by
         by_cases h3:e'=e
         ·subst h3;obtain⟨n0,-,-,h4⟩:=aM.out;exact h4 (by rw[aJ];rfl) n'
         ·exact HE.out e' (by omega) n')
        rw[aJ];clear aJ aM;go_wp2_with fail;go_roundw
        case rel=>exact⟨e+1,by go_num,by omega,a4,aB⟩
        case measure=>simp[intOf];omega
    ·have bV:=Qh (show ∀ m' e',m'<m+1->e'<=bd->∀ n',¬ gdP x y z m' e' n' from fun m' e' h1 h2=>by
      by_cases h3:m'=m
      ·subst h3;exact HE.out e' (by omega)
      ·exact HM.out m' e' (by omega) h2)
     go_wp2_with fail;go_roundw
     case rel=>exact⟨m+1,by go_num,by omega,bV,HQ⟩
     case measure=>simp[intOf];omega
  ·have HN:=Qh (show PtTo x y z bd 0 0 0 false from .inr ⟨rfl,rfl,rfl,rfl,fun m' e' h1 h2=>HM.out m' e' (by omega) h2⟩);have hB:=(HW.out.block _ (Ql HB.out).1).trans HB.out;obtain⟨d0,d1,d2,d3,d4,d5,d6,d7⟩:=QbM hB;obtain⟨f0,f1,f2,f3,f4,f5,f6,f7⟩:=QeZ hB;have aS:=Qh hB;clear hB;go_wp2_with fail;have hh:=Qe4 aS.out (.bool false) (.slice none 0 0) (.bool false) (.slice none 0 0) (.bool false) (.slice none 0 0) (.bool false) (.slice none 0 0);have aA:=QjH wr (w.heap.size+1) (.bool false) (.slice none 0 0) (.bool false) (.slice none 0 0) (.bool false) (.slice none 0 0) (.bool false) (.slice none 0 0);have hl:=Bl.up HL.out HW.out;exact Qbo (B:=w.heap.size+1) rfl rfl rfl (Qkz _ _ _ _ _ _ _ _ _ _ _ _ hh) ⟨_,0,0,0,0,false,rfl,⟨false,none,0,0,false,none,0,0,false,none,0,0,false,none,0,0,rfl,QaY _,QaY _,QaY _,QaY _⟩,rfl,HN.out,ButS.below hl aA hl.size (fun g e=>by omega)⟩
