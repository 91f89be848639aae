/-
  descent.point: the walk.
-/
import Derived.Test.YteidokhjmbihlaaGreatDH
set_option linter.unusedSimpArgs false
set_option linter.unusedVariables false
set_option maxRecDepth 100000
set_option maxHeartbeats 2000000
namespace Go.Proofs.YteidokhjmbihlaaGreat
open Go.RowKit
attribute [local go_sem ↓] Go.wp_at_zero Go.wp_at_succ
def Qkn (w:World) (B:Nat) (y0 y1 y2 y3 y4 y5 y6 y7:Value):World:=(((((((w.setCell ⟨B,0,none⟩ y0).setCell ⟨B,1,none⟩ y1).setCell ⟨B,2,none⟩ y2).setCell ⟨B,3,none⟩ y3).setCell ⟨B,4,none⟩ y4).setCell ⟨B,5,none⟩ y5).setCell ⟨B,6,none⟩ y6).setCell ⟨B,7,none⟩ y7
theorem Qcd {w:World} {B T:Nat} {fr:Nat × Nat} {x0 x1 x2 x3 x4 x5 x6 x7:Value} (h:w.heap[B]? = some (.cells #[x0,x1,x2,x3,x4,x5,x6,x7] T fr)) (y0 y1 y2 y3 y4 y5 y6 y7:Value) :
  (Qkn w B y0 y1 y2 y3 y4 y5 y6 y7).heap[B]? = some (.cells #[y0,y1,y2,y3,y4,y5,y6,y7] T fr):=by
 simp [Qkn,World.setCell,Array.getElem?_modify,h]
theorem QhI (w:World) (B:Nat) (y0 y1 y2 y3 y4 y5 y6 y7:Value):ButS (fun k=>k=B) w (Qkn w B y0 y1 y2 y3 y4 y5 y6 y7):=
 (((((((ButS.set w B 0 _).trans (ButS.set _ B 1 _)).trans (ButS.set _ B 2 _)).trans (ButS.set _ B 3 _)).trans (ButS.set _ B 4 _)).trans (ButS.set _ B 5 _)).trans (ButS.set _ B 6 _)).trans (ButS.set _ B 7 _)
theorem QhC (w:World) (B T:Nat) (fr:Nat × Nat) (x0 x1 x2 x3 x4 x5 x6 x7:Value) (h:w.heap[B]? = some (.cells #[x0,x1,x2,x3,x4,x5,x6,x7] T fr)):(loadVar 78 ⟨B,0,none⟩).run Tryz.prog w = .ok (.agg #[x0,x1,x2,x3,x4,x5,x6,x7]) w:=by
 simp [go_sem,World.cell?,h]
theorem nw8 {w:World} {B T:Nat} {fr:Nat × Nat} {s1 s2 s3 s4:Bool} {a1 a2 a3 a4:Option Addr} {n1 n2 n3 n4 c1 c2 c3 c4:Nat} (h:w.heap[B]? = some (.cells #[.bool s1,.slice a1 n1 c1,.bool s2,.slice a2 n2 c2,.bool s3,.slice a3 n3 c3,.bool s4,.slice a4 n4 c4] T fr)):∀ g,g=B->NoW w g:=by
 rintro g rfl o y hy;simp only [World.cell?,h] at hy;rcases o with _|_|_|_|_|_|_|_|o <;> simp at hy
theorem QkE {w:World} {B T:Nat} {fr:Nat × Nat} {x0 x1 x2 x3 x4 x5 x6 x7:Value} (h:w.heap[B]? = some (.cells #[x0,x1,x2,x3,x4,x5,x6,x7] T fr)) (y6 y7:Value) :
  ((w.setCell ⟨B,6,none⟩ y6).setCell ⟨B,7,none⟩ y7).heap[B]? = some (.cells #[x0,x1,x2,x3,x4,x5,y6,y7] T fr):=by
 simp [World.setCell,Array.getElem?_modify,h]
theorem QjO {x y z:Int} {m e:Nat} (hsx:sz x<=500000) (hsy:sz y<=500000) (hsz:sz z<=500000) (hm:m<=1000) (he:e<=1000):sz (Jt x y z m e)<=600000:=by
 have hsm:sz (m:Int)<=1:=Qt (QA (y:=1000) (by omega)) (by decide);have hse:sz (e:Int)<=1:=Qt (QA (y:=1000) (by omega)) (by decide);unfold Jt;have h1:=YS (x*(m*m)*(m*m)+y*(m*m)*(e*e)) (z*(e*e)*(e*e));have h2:=YS (x*(m*m)*(m*m)) (y*(m*m)*(e*e));have h3:=Qk (x*(m*m)) (m*m);have h4:=Qk x (m*m);have h5:=Qk m m;have h6:=Qk (y*(m*m)) (e*e);have h7:=Qk y (m*m);have h8:=Qk e e;have h9:=Qk (z*(e*e)) (e*e);have h10:=Qk z (e*e);omega
theorem Qk5 {x s:Int} {b:Bool} (h:RtTo x s b):sz s<=sz x:=by
 rcases h with ⟨h1,h2,h3⟩|⟨h1,n,h2,h3,h4⟩
 ·subst h2;exact Nat.zero_le _
 ·subst h2;exact Qfn h1 h3
theorem QeY (va:Value) (x y z:Int) (bd:Nat) (w:World) (h:Sx w va x y z) (hsx:sz x<=500000) (hsy:sz y<=500000) (hsz:sz z<=500000) (hbd:bd<=1000) :
  Calls Tryz.prog 91 #[va,.int .i64 bd] w fun e' w'=>∃ v b m e n ok,e' = .returned (.tuple #[v,.bool ok])/\Fnd w' v b (m:Nat) (e:Nat) (n:Nat)/\b=(if ok then x else 0)/\PtTo x y z bd m e n ok/\Below w.heap.size w w':=by
 have HS0:=Qh h;obtain ⟨s1,a1,n1,c1,s2,a2,n2,c2,s3,a3,n3,c3,rfl,hX,hY,hZ⟩:=h;go_enter Tryz.func91,Tryz.ntmps91
 go_upto_region 1 with fail;have b0:=Qa w (.cells #[.bool s1,.slice a1 n1 c1,.bool s2,.slice a2 n2 c2,.bool s3,.slice a3 n3 c3] 53);have dA:=heap_alloc_new w (.cells #[.bool s1,.slice a1 n1 c1,.bool s2,.slice a2 n2 c2,.bool s3,.slice a3 n3 c3] 53);have b1:=Qa (w.alloc (.cells #[.bool s1,.slice a1 n1 c1,.bool s2,.slice a2 n2 c2,.bool s3,.slice a3 n3 c3] 53)) (.cells #[.bool false,.slice none 0 0,.bool false,.slice none 0 0,.bool false,.slice none 0 0,.bool false,.slice none 0 0] 78);have dB:=heap_alloc_new (w.alloc (.cells #[.bool s1,.slice a1 n1 c1,.bool s2,.slice a2 n2 c2,.bool s3,.slice a3 n3 c3] 53)) (.cells #[.bool false,.slice none 0 0,.bool false,.slice none 0 0,.bool false,.slice none 0 0,.bool false,.slice none 0 0] 78);replace dA:=(b1.block _ (Ql dA).1).trans dA;rw [World.size_alloc] at dB;have bl:=Bl.up b0 b1;have hws:((w.alloc (.cells #[.bool s1,.slice a1 n1 c1,.bool s2,.slice a2 n2 c2,.bool s3,.slice a3 n3 c3] 53)).alloc (.cells #[.bool false,.slice none 0 0,.bool false,.slice none 0 0,.bool false,.slice none 0 0,.bool false,.slice none 0 0] 78)).heap.size=w.heap.size+1+1:=by simp only [World.size_alloc]
 replace HS0:=Qh (HS0.out.up bl);replace hX:=hX.up bl;clear b0 b1 hY hZ;generalize (w.alloc (.cells #[.bool s1,.slice a1 n1 c1,.bool s2,.slice a2 n2 c2,.bool s3,.slice a3 n3 c3] 53)).alloc (.cells #[.bool false,.slice none 0 0,.bool false,.slice none 0 0,.bool false,.slice none 0 0,.bool false,.slice none 0 0] 78)=W at *;have HL:=Qh bl;have HX:=Qh hX;have HA:=Qh dA;have HB:=Qh dB;have HWS:=Qh hws;clear bl hX dA dB hws;go_wp2_with fail
 go_loopw [6,13] (fun _ s13 wr=>∃ m:Nat,s13 = .int .i64 (m:Int)/\m<=bd+1/\Hid (∀ m' e',m'<m->e'<=bd->∀ n',¬ gdP x y z m' e' n')/\Hid (Below W.heap.size W wr))
  (fun _ s13 _=>bd+1 - (intOf s13).toNat)
 case atStart=>exact ⟨0,rfl,by omega,Qh fun m' e' h=>by omega,Below.refl _ _⟩
 case round=>
  obtain ⟨m,rfl,hm,HM,HW⟩:=hrel;by_cases hlt:m<bd+1
  ·go_wp2_with fail;have hd1:decide ((m:Int)<(bd:Int)+1)=true:=decide_eq_true (by omega);simp only [hd1];clear hd1
   go_loopw [7,18] (fun _ s18 wq=>∃ e:Nat,s18 = .int .i64 (e:Int)/\e<=bd+1/\Hid (∀ e',e'<e->∀ n',¬ gdP x y z m e' n')/\Hid (Below W.heap.size W wq))
    (fun _ s18 _=>bd+1 - (intOf s18).toNat)
   case atStart=>exact ⟨0,rfl,by omega,Qh fun e' h=>by omega,HW⟩
   case round=>
    obtain ⟨e,rfl,he,HE,HQ⟩:=hrel;by_cases hle:e<bd+1
    ·have hA:=(HQ.out.block _ (Ql HA.out).1).trans HA.out;obtain ⟨p0,p1,p2,p3,p4,p5⟩:=QR hA;have HXQ:=Qh (HX.out.up HQ.out);have HSQ:=Qh (HS0.out.up HQ.out);clear hA;go_upto_region 7 with fail;have hd2:decide ((e:Int)<(bd:Int)+1)=true:=decide_eq_true (by omega);simp only [hd2];clear hd2;refine Qc (by kernel_rfl) [8] (S:=fun w'=>w'.cell? ⟨w.heap.size,0,none⟩=some (.bool s1)/\w'.cell? ⟨w.heap.size,1,none⟩=some (.slice a1 n1 c1)/\w'.cell? ⟨w.heap.size,2,none⟩=some (.bool s2)/\w'.cell? ⟨w.heap.size,3,none⟩=some (.slice a2 n2 c2)/\w'.cell? ⟨w.heap.size,4,none⟩=some (.bool s3)/\w'.cell? ⟨w.heap.size,5,none⟩=some (.slice a3 n3 c3)) ⟨p0,p1,p2,p3,p4,p5⟩ (fun hHeld=>?_);(refine kL 0 rfl ?_;refine kL 1 rfl ?_;refine kL 2 rfl ?_;refine kL 4 rfl ?_)
     clear hHeld;refine Qu [(3,some 24),(5,some 26),(6,some 27),(7,some 8)] 1 (FlV (kvO (.cells #[.bool false,.slice none 0 0,.bool false,.slice none 0 0,.bool false,.slice none 0 0,.bool false,.slice none 0 0] 78) (fun i=>if i=3 then .int (m:Int) else if i=5 then .int (e:Int) else if i=6 then .quad x (m:Int) (e:Int) 0 else if i=7 then .any else .any) [7]) wr) rfl (by kernel_rfl) (by decide) (by kernel_rfl) (by kernel_rfl) (by kernel_rfl) (fun bb xx wz h=>(fun hb'=>⟨Qb hb' p0,Qb hb' p1,Qb hb' p2,Qb hb' p3,Qb hb' p4,Qb hb' p5⟩) h.bl) (fun xx=>FlV.start _ _ _) ?_ ?_
     ·intro i hi;have hi':i=3\/i=5\/i=6\/i=7:=by simpa using hi
      clear hi;rcases hi' with rfl|rfl|rfl|rfl
      ·refine ⟨_,rfl,fun bb xx wz hJ hbf hw K hK=>?_⟩;clear hbf hw;simp only [QD] at hK |-;go_simp;refine (Yf (m:Int) wz (by omega) (by omega)).mono ?_;rintro e w8 ⟨v,rfl,hv,hb⟩;exact hK.out _ _ (kvO.put hJ 3 rfl hv hb)
      ·refine ⟨_,rfl,fun bb xx wz hJ hbf hw K hK=>?_⟩;clear hbf hw;simp only [QD] at hK |-;go_simp;refine (Yf (e:Int) wz (by omega) (by omega)).mono ?_;rintro e w8 ⟨v,rfl,hv,hb⟩;exact hK.out _ _ (kvO.put hJ 5 rfl hv hb)
      ·refine ⟨_,rfl,fun bb xx wz hJ hbf hw K hK=>?_⟩;have hp0:=(kvO.int hJ (i:=3) rfl (hw 3 (by kernel_rfl))).ip;have hh0:=Classical.choose_spec hp0;generalize Classical.choose hp0=q0 at hh0;have hx0:=hh0.e;have HI0:=Qh hh0.h;clear hp0 hh0;have hp1:=(kvO.int hJ (i:=5) rfl (hw 5 (by kernel_rfl))).ip;have hh1:=Classical.choose_spec hp1;generalize Classical.choose hp1=q1 at hh1;have hx1:=hh1.e;have HI1:=Qh hh1.h;clear hp1 hh1;clear hw hbf;simp only [QD,hx0,hx1] at hK |-;clear hx0 hx1;go_simp;exact hK.out _ _ (kvO.put hJ 6 rfl ⟨_,_,_,_,_,_,_,_,_,_,_,_,_,_,_,_,rfl,HXQ.out.up hJ.bl,HI0.out,HI1.out,Qm _⟩ (Below.refl _ _))
      ·refine ⟨_,rfl,fun bb xx wz hJ hbf hw K hK=>?_⟩;clear hbf hw;simp only [QD] at hK |-;go_simp;exact hK.out _ _ (kvO.var hJ 7)
     intro bb xx wz hbb hJ;obtain ⟨B7,e7,hB7,hV7⟩:=hJ.pj 7 rfl (hbb 7 (by decide));obtain ⟨k1,b1,g1,l1,k2,b2,g2,l2,k3,b3,g3,l3,k4,b4,g4,l4,e6,hi1,hi3,hi5,hi6⟩:=kvO.quad hJ (i:=6) rfl (hbb 6 (by decide));have hbz:=hJ.bl;clear hbb hJ;obtain ⟨u3,hu3⟩:∃ u,u=xx 3:=⟨_,rfl⟩;obtain ⟨u5,hu5⟩:∃ u,u=xx 5:=⟨_,rfl⟩;simp only [Qdg,show xx 7=_ from e7,<- hu3,<- hu5,show xx 6=_ from e6];clear e7 hu3 hu5 e6;have hHeld:wz.cell? ⟨w.heap.size,0,none⟩=some (.bool s1)/\wz.cell? ⟨w.heap.size,1,none⟩=some (.slice a1 n1 c1)/\wz.cell? ⟨w.heap.size,2,none⟩=some (.bool s2)/\wz.cell? ⟨w.heap.size,3,none⟩=some (.slice a2 n2 c2)/\wz.cell? ⟨w.heap.size,4,none⟩=some (.bool s3)/\wz.cell? ⟨w.heap.size,5,none⟩=some (.slice a3 n3 c3):=⟨Qb hbz p0,Qb hbz p1,Qb hbz p2,Qb hbz p3,Qb hbz p4,Qb hbz p5⟩;replace hV7:wz.heap[B7]? = some (.cells #[.bool false,.slice none 0 0,.bool false,.slice none 0 0,.bool false,.slice none 0 0,.bool false,.slice none 0 0] 78):=hV7;obtain ⟨d0,d1,d2,d3,d4,d5,d6,d7⟩:=Yq hV7;obtain ⟨f0,f1,f2,f3,f4,f5,f6,f7⟩:=Qb9 hV7;have HV7:=Qh hV7;have HB7:=Qh hB7;have HM3:=Qh hi3;have HE5:=Qh hi5;have HXZ:=Qh hi1;have HSZ:=Qh (HSQ.out.up hbz);have HWZ:=Qh (HQ.out.trans (hbz.mono HQ.out.size));have HWE:=Qh (show w.heap.size ≠ B7/\W.heap.size<=B7 by have h1:=HWS.out;have h2:=HQ.out.size;omega);clear hV7 hB7 hi1 hi3 hi5 hi6 hbz p0 p1 p2 p3 p4 p5;(refine oL 8 rfl fun K hK=>tL ?_;go_simp);(go_wp2_with fail;refine xL hK (tL ?_);clear hK);refine dT ?_;clear hHeld d0 d1 d2 d3 d4 d5 d6 d7 f0 f1 f2 f3 f4 f5 f6 f7;have hh:=Qcd HV7.out (.bool k1) (.slice b1 g1 l1) (.bool k2) (.slice b2 g2 l2) (.bool k3) (.slice b3 g3 l3) (.bool k4) (.slice b4 g4 l4);have hbt:=QhI wz B7 (.bool k1) (.slice b1 g1 l1) (.bool k2) (.slice b2 g2 l2) (.bool k3) (.slice b3 g3 l3) (.bool k4) (.slice b4 g4 l4);have hnw:=nw8 HV7.out;have HH:=Qh hh;replace HM3:=Qh (HM3.out.fr hbt hnw);replace HE5:=Qh (HE5.out.fr hbt hnw);replace HXZ:=Qh (HXZ.out.fr hbt hnw);have HA8:=Qh ((hbt.block w.heap.size (by have:=(Ql HA.out).1;have:=HWZ.out.size;omega) HWE.out.1).trans ((HWZ.out.block _ (Ql HA.out).1).trans HA.out));replace HWZ:=Qh (ButS.below HWZ.out hbt HWZ.out.size (fun g e=>by have:=HWE.out.2;omega))
     have hS8:Sx (Qkn wz B7 (.bool k1) (.slice b1 g1 l1) (.bool k2) (.slice b2 g2 l2) (.bool k3) (.slice b3 g3 l3) (.bool k4) (.slice b4 g4 l4)) (.agg #[.bool s1,.slice a1 n1 c1,.bool s2,.slice a2 n2 c2,.bool s3,.slice a3 n3 c3]) x y z:=by
      obtain ⟨t1,o1,r1,v1,t2,o2,r2,v2,t3,o3,r3,v3,ee,y1,y2,y3⟩:=HSZ.out;exact ⟨t1,o1,r1,v1,t2,o2,r2,v2,t3,o3,r3,v3,ee,y1.fr hbt hnw,y2.fr hbt hnw,y3.fr hbt hnw⟩
     have HS8:=Qh hS8;clear hh hbt hnw hS8 HSZ HV7 HB7 HSQ HXQ;have hpe:Qkn wz B7 (.bool k1) (.slice b1 g1 l1) (.bool k2) (.slice b2 g2 l2) (.bool k3) (.slice b3 g3 l3) (.bool k4) (.slice b4 g4 l4)=(((((((wz.setCell ⟨B7,0,none⟩ (.bool k1)).setCell ⟨B7,1,none⟩ (.slice b1 g1 l1)).setCell ⟨B7,2,none⟩ (.bool k2)).setCell ⟨B7,3,none⟩ (.slice b2 g2 l2)).setCell ⟨B7,4,none⟩ (.bool k3)).setCell ⟨B7,5,none⟩ (.slice b3 g3 l3)).setCell ⟨B7,6,none⟩ (.bool k4)).setCell ⟨B7,7,none⟩ (.slice b4 g4 l4):=rfl;rw [hpe] at HH HM3 HE5 HXZ HA8 HWZ HS8;clear hpe;generalize (((((((wz.setCell ⟨B7,0,none⟩ (.bool k1)).setCell ⟨B7,1,none⟩ (.slice b1 g1 l1)).setCell ⟨B7,2,none⟩ (.bool k2)).setCell ⟨B7,3,none⟩ (.slice b2 g2 l2)).setCell ⟨B7,4,none⟩ (.bool k3)).setCell ⟨B7,5,none⟩ (.slice b3 g3 l3)).setCell ⟨B7,6,none⟩ (.bool k4)).setCell ⟨B7,7,none⟩ (.slice b4 g4 l4)=w7 at *;have hH:=HH.out;have hA:=HA8.out;obtain ⟨p0,p1,p2,p3,p4,p5⟩:=QR hA;obtain ⟨q0,q1,q2,q3,q4,q5,q6,q7⟩:=Yq hH;clear hH hA;go_wp2_with fail;refine (Qbz _ _ _ x y z (m:Int) (e:Int) w7 HS8.out HM3.out HE5.out (by omega) (by omega) (by omega) (Qc2 m (by omega)) (Qc2 e (by omega))).mono ?_;rintro e' w8 ⟨v,rfl,hv,hb⟩;obtain ⟨t1,o1,r1,v1,rfl⟩:=hv.shape;replace p0:=Qb hb p0;replace p1:=Qb hb p1;replace p2:=Qb hb p2;replace p3:=Qb hb p3;replace p4:=Qb hb p4;replace p5:=Qb hb p5;replace q0:=Qb hb q0;replace q1:=Qb hb q1;replace q2:=Qb hb q2;replace q3:=Qb hb q3;replace q4:=Qb hb q4;replace q5:=Qb hb q5;replace q6:=Qb hb q6;replace q7:=Qb hb q7;replace HM3:=Qh (HM3.out.up hb);replace HE5:=Qh (HE5.out.up hb);replace HXZ:=Qh (HXZ.out.up hb);replace HS8:=Qh (HS8.out.up hb);replace HH:=Qh ((hb.block _ (Ql HH.out).1).trans HH.out);replace HWZ:=Qh (HWZ.out.trans (hb.mono HWZ.out.size));have HVV:=Qh hv;clear hb hv HA8;have HVS:=Qh (QjO hsx hsy hsz (show m<=1000 by omega) (show e<=1000 by omega));go_wp2_with fail;refine (Qgg _ _ w8 HVV.out (Qt HVS.out (by decide))).mono ?_;rintro e' w9 ⟨v,s,b,rfl,hv,hrt,hb⟩;obtain ⟨t2,o2,r2,v2,rfl⟩:=hv.shape;have hb3:=Bl.up hb (Qa w9 (.cells #[.bool t2,.slice o2 r2 v2] 33));have vS:=Vx.new (w:=w9) (T:=33) rfl hv;replace p0:=Qb hb3 p0;replace p1:=Qb hb3 p1;replace p2:=Qb hb3 p2;replace p3:=Qb hb3 p3;replace p4:=Qb hb3 p4;replace p5:=Qb hb3 p5;replace q0:=Qb hb3 q0;replace q1:=Qb hb3 q1;replace q2:=Qb hb3 q2;replace q3:=Qb hb3 q3;replace q4:=Qb hb3 q4;replace q5:=Qb hb3 q5;replace q6:=Qb hb3 q6;replace q7:=Qb hb3 q7;replace HM3:=Qh (HM3.out.up hb3);replace HE5:=Qh (HE5.out.up hb3);replace HXZ:=Qh (HXZ.out.up hb3);replace HS8:=Qh (HS8.out.up hb3);replace HH:=Qh ((hb3.block _ (Ql HH.out).1).trans HH.out);replace HWZ:=Qh (HWZ.out.trans (hb3.mono HWZ.out.size));have HV:=Qh vS;have HSI:=Qh (hv.up (Qa w9 (.cells #[.bool t2,.slice o2 r2 v2] 33)));have HRS:=Qh (Qt (Qk5 hrt) HVS.out);have HRT:=Qh (gdP.of hrt);clear hb hb3 hv vS hrt HVV HVS;go_upto_region 9 with fail;generalize w9.alloc (.cells #[.bool t2,.slice o2 r2 v2] 33)=w10 at *;generalize w9.heap.size=NB at *;obtain ⟨i1,i2,i3,i4,j0,j1,-,-,ij⟩:=HV.out.cells;have HIJ:=Qh ij;clear ij;have hH:=HH.out;have f6:w10.frozen? ⟨B7,6,none⟩=false:=by simp [World.frozen?,hH]
     have f7:w10.frozen? ⟨B7,7,none⟩=false:=by simp [World.frozen?,hH]
     clear hH;go_upto_region 10 with fail;clear p0 p1 p2 p3 p4 p5 q0 q1 q2 q3 q4 q5 q6 q7 f6 f7 j0 j1;have hh:=QkE HH.out (.bool i1) (.slice i2 i3 i4);have hbt:ButS (fun k=>k=B7) w10 ((w10.setCell ⟨B7,6,none⟩ (.bool i1)).setCell ⟨B7,7,none⟩ (.slice i2 i3 i4)):=(ButS.set w10 B7 6 _).trans (ButS.set _ B7 7 _);have hnw:=nw8 HH.out;replace HM3:=Qh (HM3.out.fr hbt hnw);replace HE5:=Qh (HE5.out.fr hbt hnw);replace HXZ:=Qh (HXZ.out.fr hbt hnw);replace HIJ:=Qh (HIJ.out.fr hbt hnw)
     have hS8:Sx ((w10.setCell ⟨B7,6,none⟩ (.bool i1)).setCell ⟨B7,7,none⟩ (.slice i2 i3 i4)) (.agg #[.bool s1,.slice a1 n1 c1,.bool s2,.slice a2 n2 c2,.bool s3,.slice a3 n3 c3]) x y z:=by
      obtain ⟨t1,o1,r1,v1,t2,o2,r2,v2,t3,o3,r3,v3,ee,y1,y2,y3⟩:=HS8.out;exact ⟨t1,o1,r1,v1,t2,o2,r2,v2,t3,o3,r3,v3,ee,y1.fr hbt hnw,y2.fr hbt hnw,y3.fr hbt hnw⟩
     have HS9:=Qh hS8;have HH9:=Qh hh;replace HWZ:=Qh (ButS.below HWZ.out hbt HWZ.out.size (fun g e=>by have:=HWE.out.2;omega));clear hS8 hh hbt hnw HS8 HH HV HSI;generalize (w10.setCell ⟨B7,6,none⟩ (.bool i1)).setCell ⟨B7,7,none⟩ (.slice i2 i3 i4)=w11 at *;have hH:=HH9.out;have hA:=(HWZ.out.block _ (Ql HA.out).1).trans HA.out;obtain ⟨p0,p1,p2,p3,p4,p5⟩:=QR hA;obtain ⟨q0,q1,q2,q3,q4,q5,q6,q7⟩:=Yq hH;clear hH hA
     cases b with
     | false =>
       have HNX:=Qh (show ∀ e',e'<e+1->∀ n',¬ gdP x y z m e' n' from fun e' h1 n'=>by
        by_cases h3:e'=e
        ·subst h3;obtain ⟨n0,-,-,h4⟩:=HRT.out;exact h4 (by simp) n'
        ·exact HE.out e' (by omega) n')
       clear HRT;go_wp2_with fail;go_roundw
       case rel=>exact ⟨e+1,by go_num,by omega,HNX,HWZ⟩
       case measure=>simp [intOf];omega
     | true =>
       go_wp2_with fail;refine (YR _ _ x y z x (m:Int) (e:Int) s w11 HS9.out ⟨_,_,_,_,_,_,_,_,_,_,_,_,_,_,_,_,rfl,HXZ.out,HM3.out,HE5.out,HIJ.out⟩ (by omega) (by omega) (by omega) (by omega) (Qc2 m (by omega)) (Qc2 e (by omega)) (Qt HRS.out (by decide))).mono ?_;rintro e' w12 ⟨rfl,hb⟩;replace p0:=Qb hb p0;replace p1:=Qb hb p1;replace p2:=Qb hb p2;replace p3:=Qb hb p3;replace p4:=Qb hb p4;replace p5:=Qb hb p5;replace q0:=Qb hb q0;replace q1:=Qb hb q1;replace q2:=Qb hb q2;replace q3:=Qb hb q3;replace q4:=Qb hb q4;replace q5:=Qb hb q5;replace q6:=Qb hb q6;replace q7:=Qb hb q7;replace HM3:=Qh (HM3.out.up hb);replace HE5:=Qh (HE5.out.up hb);replace HXZ:=Qh (HXZ.out.up hb);replace HIJ:=Qh (HIJ.out.up hb);replace HWZ:=Qh (HWZ.out.trans (hb.mono HWZ.out.size));clear hb HS9;by_cases hhB:YN x y z x (m:Int) (e:Int) s=true
       ·obtain ⟨n,rfl,hn1,-⟩:=HRT.out
        have HPT:=Qh (show PtTo x y z bd m e n true from .inl ⟨rfl,by omega,by omega,hn1.1 (by rw [hhB];rfl),fun m' e' h1 h2=>by
         rcases h2 with h2|⟨h2,h3⟩
         ·exact HM.out m' e' h2 h1
         ·subst h2;exact HE.out e' h3⟩)
        rw [hhB];have hB:=(HWZ.out.block _ (Ql HB.out).1).trans HB.out;obtain ⟨d0,d1,d2,d3,d4,d5,d6,d7⟩:=Yq hB;obtain ⟨f0,f1,f2,f3,f4,f5,f6,f7⟩:=Qb9 hB;have HBZ:=Qh hB;clear hB hhB hn1 HRT;go_wp2_with fail;have hh:=Qcd HBZ.out (.bool k1) (.slice b1 g1 l1) (.bool k2) (.slice b2 g2 l2) (.bool k3) (.slice b3 g3 l3) (.bool i1) (.slice i2 i3 i4);have hbt:=QhI w12 (w.heap.size+1) (.bool k1) (.slice b1 g1 l1) (.bool k2) (.slice b2 g2 l2) (.bool k3) (.slice b3 g3 l3) (.bool i1) (.slice i2 i3 i4);have hnw:=nw8 HBZ.out;have hl:=Bl.up HL.out HWZ.out;exact QS (B:=w.heap.size+1) rfl rfl rfl (QhC _ _ _ _ _ _ _ _ _ _ _ _ hh) ⟨_,x,m,e,n,true,rfl,⟨_,_,_,_,_,_,_,_,_,_,_,_,_,_,_,_,rfl,HXZ.out.fr hbt hnw,HM3.out.fr hbt hnw,HE5.out.fr hbt hnw,HIJ.out.fr hbt hnw⟩,rfl,HPT.out,ButS.below hl hbt hl.size (fun g e=>by omega)⟩
       ·have hhB:=Bool.eq_false_iff.2 hhB
        have HNX:=Qh (show ∀ e',e'<e+1->∀ n',¬ gdP x y z m e' n' from fun e' h1 n'=>by
         by_cases h3:e'=e
         ·subst h3;obtain ⟨n0,-,-,h4⟩:=HRT.out;exact h4 (by rw [hhB];rfl) n'
         ·exact HE.out e' (by omega) n')
        rw [hhB];clear hhB HRT;go_wp2_with fail;go_roundw
        case rel=>exact ⟨e+1,by go_num,by omega,HNX,HWZ⟩
        case measure=>simp [intOf];omega
    ·have HMM:=Qh (show ∀ m' e',m'<m+1->e'<=bd->∀ n',¬ gdP x y z m' e' n' from fun m' e' h1 h2=>by
      by_cases h3:m'=m
      ·subst h3;exact HE.out e' (by omega)
      ·exact HM.out m' e' (by omega) h2)
     go_wp2_with fail;go_roundw
     case rel=>exact ⟨m+1,by go_num,by omega,HMM,HQ⟩
     case measure=>simp [intOf];omega
  ·have HN:=Qh (show PtTo x y z bd 0 0 0 false from .inr ⟨rfl,rfl,rfl,rfl,fun m' e' h1 h2=>HM.out m' e' (by omega) h2⟩);have hB:=(HW.out.block _ (Ql HB.out).1).trans HB.out;obtain ⟨d0,d1,d2,d3,d4,d5,d6,d7⟩:=Yq hB;obtain ⟨f0,f1,f2,f3,f4,f5,f6,f7⟩:=Qb9 hB;have HBZ:=Qh hB;clear hB;go_wp2_with fail;have hh:=Qcd HBZ.out (.bool false) (.slice none 0 0) (.bool false) (.slice none 0 0) (.bool false) (.slice none 0 0) (.bool false) (.slice none 0 0);have hbt:=QhI wr (w.heap.size+1) (.bool false) (.slice none 0 0) (.bool false) (.slice none 0 0) (.bool false) (.slice none 0 0) (.bool false) (.slice none 0 0);have hl:=Bl.up HL.out HW.out;exact QS (B:=w.heap.size+1) rfl rfl rfl (QhC _ _ _ _ _ _ _ _ _ _ _ _ hh) ⟨_,0,0,0,0,false,rfl,⟨false,none,0,0,false,none,0,0,false,none,0,0,false,none,0,0,rfl,Qm _,Qm _,Qm _,Qm _⟩,rfl,HN.out,ButS.below hl hbt hl.size (fun g e=>by omega)⟩
end Go.Proofs.YteidokhjmbihlaaGreat
