/-
  descent.Bounds: the walk.
-/
import Derived.Test.YteidokhjmbihlaaGreatDM
set_option linter.all false
set_option maxRecDepth 100000
set_option maxHeartbeats 8000000
namespace Go.Proofs.YteidokhjmbihlaaGreat
open Go.RowKit
attribute [local go_sem ↓] Go.wp_at_zero Go.wp_at_succ
def Cv (w:World) (B:Nat) (a b:Int):Prop:=∃ s1 a1 n1 g1 s2 a2 n2 g2,w.heap[B]? = some (Qls 125 s1 a1 n1 g1 s2 a2 n2 g2)/\Qx w (Qlw s1 a1 n1 g1 s2 a2 n2 g2) a b
theorem Kp.cv (B:Nat) (a b:Int):Kp fun w=>Cv w B a b:=⟨by
 rintro w w' ⟨s1,a1,n1,g1,s2,a2,n2,g2,h1,h2⟩ hb;exact⟨s1,a1,n1,g1,s2,a2,n2,g2,(Kp.blk _ _).up h1 hb,h2.up hb⟩⟩
theorem Qx.fr {S:Nat->Prop} {w w':World} {v:Value} {a b:Int} (h:Qx w v a b) (hb:ButS S w w') (hn:∀ g,S g->NoW w g):Qx w' v a b:=by
 obtain⟨s1,a1,n1,g1,s2,a2,n2,g2,e,h1,h2⟩:=h;exact⟨s1,a1,n1,g1,s2,a2,n2,g2,e,h1.fr hb hn,h2.fr hb hn⟩
theorem Qx.snd {w:World} {s1 s2:Bool} {a1 a2:Option Addr} {n1 n2 g1 g2:Nat} {a b:Int} (h:Qx w (Qlw s1 a1 n1 g1 s2 a2 n2 g2) a b):It w (Qlv s2 a2 n2 g2) b:=by
 obtain⟨_,_,_,_,_,_,_,_,e,-,h⟩:=h;injection e with e;simp only[Array.mk.injEq,List.cons.injEq,and_true] at e;obtain⟨-,-,ea,eb⟩:=e
 cases ea
 cases eb
 exact h
theorem Kq.qx {D:Nat->Prop} (v:Value) (a b:Int):Kq D fun w=>Qx w v a b:=⟨fun h hb hn _=>h.fr hb hn⟩
theorem Qkr {l C:List Int} {n:Nat} (hC:Cand n C) (h1:1<=n) (h2:n<1099511627776) (hl:∀ x∈l,x∈C):rkF l<=67108864:=by
 have h3:=QjG hC hl;have h4:=YF hC h1 h2
 have h5:Nat.log2 (rkG l).length<=(rkG l).length:=by
  by_cases e:(rkG l).length=0
  ·rw[e];decide
  ·exact Nat.le_of_lt ((Nat.log2_lt e).2 Nat.lt_two_pow_self)
 unfold rkF;omega
theorem Qgf {n:Nat} (h:n<=67108864):Nat.log2 n<=67108864:=by
 by_cases e:n=0
 ·subst e;decide
 ·exact Qt (Nat.le_of_lt ((Nat.log2_lt e).2 Nat.lt_two_pow_self)) h
structure Prt (w:World) (cb:Int) (f:Int) (L:List (Int×Int×Int×Int)) (M:List (Int×Int×Int)) (C:List Int) (dl:Option Addr) (ql:Nat) (dm:Option Addr) (qm:Nat):Prop where
 fr:FrZ cb f
 ca:Cand cb.natAbs C
 b0:cb≠0
 b1:cb.natAbs<1099511627776
 lL:L.length<=549755813888
 lM:M.length<=549755813888
 sl:Sr eFd w (.slice dl L.length ql) L
 sm:Sr eIs w (.slice dm M.length qm) M
 el:∀ q∈L,q.1∈C
theorem QcV (vd:Value) (a b:Int) (l0 l1:List (Int×Int×Int×Int)) (m0 m1:List (Int×Int×Int)) (w:World) (h:Dsc w vd a b l0 l1 m0 m1) (ha:sz a<=1000000) (hb:sz b<=1000000)
  (hl0:SzF l0) (hl1:SzF l1) (hm0:SzN m0) (hm1:SzN m1) :
  Calls Tryz.prog 44 #[vd] w fun e' w'=>∃ lo hi c,e'=.returned (.tuple #[.int .i64 lo,.int .i64 hi,.int .i64 c])/\BndTo a b l0 l1 m0 m1 lo hi c/\Below w.heap.size w w':=by
 have a9:=Qh h;obtain⟨s1,a1,n1,g1,s2,a2,n2,g2,d0,o0,q0,d1,o1,q1,d2,o2,q2,d3,o3,q3,rfl,hA,hB,hl,bD,hm,bC⟩:=h;obtain⟨rfl,-⟩:=hl.len;obtain⟨rfl,-⟩:=bD.len;obtain⟨rfl,-⟩:=hm.len;obtain⟨rfl,-⟩:=bC.len;obtain⟨F,cD,kF⟩:∃ F:World->Prop,(∀ w',F w'↔(w'.heap[w.heap.size]? = some (Qlz 87 s1 a1 n1 g1 s2 a2 n2 g2 d0 l0.length q0 d1 l1.length q1 d2 m0.length q2 d3 m1.length q3)/\Below w.heap.size w w'))/\Kq (fun g=>g<w.heap.size+1) F:=⟨fun w'=>w'.heap[w.heap.size]? = some (Qlz 87 s1 a1 n1 g1 s2 a2 n2 g2 d0 l0.length q0 d1 l1.length q1 d2 m0.length q2 d3 m1.length q3)/\Below w.heap.size w w',fun _=>Iff.rfl,(Kq.blk (D:=fun g=>g<w.heap.size+1) w.heap.size _ (Nat.lt_succ_self w.heap.size)).and (Kq.bl w (fun g hg=>Nat.lt_succ_of_lt hg))⟩;have aH:=Qh cD;clear cD;have bn:=Qc w (Qlz 87 s1 a1 n1 g1 s2 a2 n2 g2 d0 l0.length q0 d1 l1.length q1 d2 m0.length q2 d3 m1.length q3);have HF:Hid (F (w.alloc (Qlz 87 s1 a1 n1 g1 s2 a2 n2 g2 d0 l0.length q0 d1 l1.length q1 d2 m0.length q2 d3 m1.length q3))):=Qh ((aH.out _).2 ⟨Zk1 _ _,bn⟩);have HQ:=Qh (show Qx (w.alloc (Qlz 87 s1 a1 n1 g1 s2 a2 n2 g2 d0 l0.length q0 d1 l1.length q1 d2 m0.length q2 d3 m1.length q3)) (Qlw s1 a1 n1 g1 s2 a2 n2 g2) a b from ⟨_,_,_,_,_,_,_,_,rfl,hA.up bn,hB.up bn⟩);have bU:(w.alloc (Qlz 87 s1 a1 n1 g1 s2 a2 n2 g2 d0 l0.length q0 d1 l1.length q1 d2 m0.length q2 d3 m1.length q3)).heap.size=w.heap.size+1:=by simp only[Zk2]
 have cP:=Qh hl;have cN:=Qh bD;have cM:=Qh hm;have cL:=Qh bC;replace a9:=Qh ((Kp.dsc _ _ _ _ _ _ _).up a9.out bn);clear hA hB hl bD hm bC bn;go_enter Tryz.func44,Tryz.ntmps44
 go_upto_region 1 with fail;generalize w.alloc (Qlz 87 s1 a1 n1 g1 s2 a2 n2 g2 d0 l0.length q0 d1 l1.length q1 d2 m0.length q2 d3 m1.length q3)=W at *;obtain⟨p0,p1,p2,p3,p4,p5,p6,p7⟩:=QbM ((aH.out _).1 HF.out).1;go_wp2_with fail;refine(Qdz _ a b l0 l1 m0 m1 W a9.out ha hb hl0 hl1 hm0 hm1).mono ?_;rintro e w1 ⟨c,rfl,hc,a8⟩;replace HF:=Qh (kF.kp.up HF.out a8);replace HQ:=Qh (HQ.out.up a8);have bW:w.heap.size+1<=w1.heap.size:=by rw[<- bU];exact a8.size
 have HC:=Qh hc;clear p0 p1 p2 p3 p4 p5 p6 p7 a8 hc a9 bU;by_cases aQ:¬ c=0
 ·have aU:(c == 0)=false:=by rw[beq_eq_false_iff_ne];exact aQ
  have HP:=Qh (show BndTo a b l0 l1 m0 m1 0 0 c from ⟨HC.out,.inl ⟨aQ,rfl,rfl⟩⟩);clear aQ;go_wp2_with fail;refine bodyPost_ret (results_tmp3 rfl _ _ _) rfl ?_;exact⟨0,0,c,rfl,HP.out,((aH.out _).1 HF.out).2⟩
 replace aQ:=Decidable.not_not.1 aQ;subst aQ
 obtain⟨hz,⟨aP,aM⟩⟩:Yy a b=0/\Qaw a b l0 m0/\Qaw (-2*a) (a*a-4*b) l1 m1:=by
  rcases HC.out with ⟨h1,h2⟩|⟨h1,h2,-⟩|⟨-,-,h⟩
  ·exact absurd h2.symm h1
  ·exact⟨h1,h2⟩
  ·cases h
 obtain⟨z0,z1,z2,z3⟩:=Yj hz;obtain⟨y0,y1,y2,y3⟩:=J3 hz;obtain⟨C0,bN,b9,-⟩:=QhI aP;obtain⟨C1,bM,b8,-⟩:=QhI aM;obtain⟨f0,bI⟩:=Qae z0;obtain⟨f1,bH⟩:=Qae z1;have bR:Hid (Prt w b f0 l0 m0 C0 d0 q0 d2 q2):=Qh ⟨bI,bN,z0,z2,hl0.len,hm0.len,cP.out,cM.out,b9⟩;have aY:Hid (Prt w (a*a-4*b) f1 l1 m1 C1 d1 q1 d3 q3):=Qh ⟨bH,bM,z1,z3,hl1.len,hm1.len,cN.out,cL.out,b8⟩;obtain⟨r0,aP⟩:∃ r:Int,(rkF (f0 :: l0.map Prod.fst):Int)=r:=⟨_,rfl⟩;obtain⟨r1,aM⟩:∃ r:Int,(rkF (f1 :: l1.map Prod.fst):Int)=r:=⟨_,rfl⟩;obtain⟨h0,bG⟩:∃ r:Int,(Nat.log2 ((C0.length:Int)-m0.length).toNat:Int)=r:=⟨_,rfl⟩;obtain⟨h1,bF⟩:∃ r:Int,(Nat.log2 ((C1.length:Int)-m1.length).toNat:Int)=r:=⟨_,rfl⟩;have HR:=Qh (And.intro aP (And.intro aM (And.intro bG bF)));have dE:=Qh (show BndTo a b l0 l1 m0 m1 (max (-2+r0+r1) 0) (-2+h0+h1) 0 from ⟨HC.out,.inr ⟨rfl,f0,f1,C0,C1,bI,bH,bN,bM,by rw[<- aP,<- aM],by rw[<- bG,<- bF]⟩⟩);have bP:=Qh (And.intro y0 (And.intro y1 (And.intro y2 y3)));obtain⟨D,hD⟩:∃ D,a*a-4*b=D:=⟨_,rfl⟩;rw[hD] at aY bP;have dB:=Qh hD;clear hz z0 z1 z2 z3 y0 y1 y2 y3 bN bM b9 b8 bI bH aP aM bG bF hD cP cN cM cL hl0 hl1 hm0 hm1;obtain⟨p0,p1,p2,p3,p4,p5,p6,p7⟩:=QbM ((aH.out _).1 HF.out).1;go_upto_region 6 with fail;have bn:=Qc w1 (Qls 125 s1 a1 n1 g1 s2 a2 n2 g2);have bA:Hid (∃ B1,w.heap.size+1<=B1/\B1=w1.heap.size/\Cv (w1.alloc (Qls 125 s1 a1 n1 g1 s2 a2 n2 g2)) B1 a b):=Qh ⟨w1.heap.size,bW,rfl,_,_,_,_,_,_,_,_,Zk1 _ _,HQ.out.up bn⟩;replace HF:=Qh (kF.kp.up HF.out bn);obtain⟨B1,dU,aX,b5⟩:=bA.out;rw[<- aX];have bA:=Qh b5;clear HQ bn p0 p1 p2 p3 p4 p5 p6 p7 aX b5 bW;generalize w1.alloc (Qls 125 s1 a1 n1 g1 s2 a2 n2 g2)=w2 at *;go_wp2_with fail
 go_loopw [6,7,9,10,12,23,35] (fun s6 s7 _ _ _ s23 _ wr=>∃ (i:Nat) (lo hi ca cb:Int),s23=.int .i64 (i:Int)/\i<=2/\s6=.int .i64 lo/\s7=.int .i64 hi /\ -2<=lo/\lo<=67108864*i /\ -2<=hi/\hi<=67108864*i /\
   Hid ((i=0->ca=a/\cb=b/\lo = -2/\hi = -2)/\(i=1->ca = -2*a/\cb=D/\lo = -2+r0/\hi = -2+h0)/\(i=2->lo = -2+r0+r1/\hi = -2+h0+h1))/\Hid (F wr/\Cv wr B1 ca cb))
  (fun _ _ _ _ _ s23 _ _=>2-(intOf s23).toNat)
 case atStart=>exact⟨0,-2,-2,a,b,rfl,by omega,rfl,rfl,by omega,by omega,by omega,by omega,Qh ⟨fun _=>⟨rfl,rfl,rfl,rfl⟩,fun h=>by omega,fun h=>by omega⟩,Qh ⟨HF.out,bA.out⟩⟩
 case round=>
  clear HF bA;obtain⟨i,lo,hi,ca,cb,rfl,dM,rfl,rfl,b1,d4,b3,dZ,HI,HG⟩:=hrel;generalize wr=wo at *;by_cases hlt:i<2
  ·have i0:(0:Int)<=(i:Int):=by omega
   have i1:(i:Int)<2:=by omega
   obtain⟨t1,e1,aL,aS,t2,e2,aK,aR,aU,hq⟩:=HG.out.2
   have bE:∃ (f:Int) (L:List (Int×Int×Int×Int)) (M:List (Int×Int×Int)) (C:List Int) (dl:Option Addr) (ql:Nat) (dm:Option Addr) (qm:Nat),Prt w cb f L M C dl ql dm qm/\sz ca<=2/\(∀ w':World,w'.heap[w.heap.size]? = some (Qlz 87 s1 a1 n1 g1 s2 a2 n2 g2 d0 l0.length q0 d1 l1.length q1 d2 m0.length q2 d3 m1.length q3)->w'.cell? ⟨w.heap.size,4+i,none⟩=some (.slice dl L.length ql)/\w'.cell? ⟨w.heap.size,6+i,none⟩=some (.slice dm M.length qm)) /\
     (∀ r h':Int,(rkF (f :: L.map Prod.fst):Int)=r->(Nat.log2 ((C.length:Int)-M.length).toNat:Int)=h'->∀ ca' cb':Int,ca' = -2*ca->cb'=ca*ca-4*cb->((i+1=0->ca'=a/\cb'=b/\lo+r = -2/\hi+h' = -2)/\(i+1=1->ca' = -2*a/\cb'=D/\lo+r = -2+r0/\hi+h' = -2+h0)/\(i+1=2->lo+r = -2+r0+r1/\hi+h' = -2+h0+h1))):=by
    obtain⟨dP,dO,dS,dR⟩:=HR.out;by_cases e:i=0
    ·subst e;obtain⟨rfl,rfl,rfl,rfl⟩:=HI.out.1 rfl;refine⟨f0,l0,m0,C0,d0,q0,d2,q2,bR.out,bP.out.1,fun w' hw'=>by simp[World.cell?,hw'],fun r h' hr hh' ca' cb' e1 e2=>⟨fun h=>by omega,fun _=>⟨e1,by rw[e2];exact dB.out,by omega,by omega⟩,fun h=>by omega⟩⟩
    ·have e':i=1:=by omega
     subst e';obtain⟨rfl,rfl,rfl,rfl⟩:=HI.out.2.1 rfl;refine⟨f1,l1,m1,C1,d1,q1,d3,q3,aY.out,bP.out.2.2.1,fun w' hw'=>by simp[World.cell?,hw'],fun r h' hr hh' ca' cb' e1 e2=>⟨fun h=>by omega,fun h=>by omega,fun _=>⟨by omega,by omega⟩⟩⟩
   obtain⟨f,L,M,C,dl,ql,dm,qm,aF,dI,aE,aG⟩:=bE;have aJ:=Qh aF;have cR:=Qh aE;have c6:=Qh aG;have aT:=aF.b0;have aC:=aF.b1
   have cW:=Qkr aF.ca (by omega) aC (l:=f :: L.map Prod.fst) (by
    intro x hx;rcases List.mem_cons.1 hx with rfl|hx
    ·exact aF.fr.mem aF.ca
    ·obtain⟨q,hq,rfl⟩:=List.mem_map.1 hx;exact aF.el q hq)
   have c0:=YF aF.ca (by omega) aC;have dQ:=aF.lL;have c2:=aF.lM;have dH:sz cb<=2:=J2 aC;obtain⟨G,cC,kG,hG⟩:∃ G:World->Prop,(∀ w',G w'->F w'/\w'.heap[B1]? = some (Qls 125 t1 e1 aL aS t2 e2 aK aR)/\Qx w' (Qlw t1 e1 aL aS t2 e2 aK aR) ca cb/\Below wo.heap.size wo w')/\Kq (fun g=>g<wo.heap.size) G/\G wo:=⟨fun w'=>F w'/\w'.heap[B1]? = some (Qls 125 t1 e1 aL aS t2 e2 aK aR)/\Qx w' (Qlw t1 e1 aL aS t2 e2 aK aR) ca cb/\Below wo.heap.size wo w',fun _ h=>h,(kF.mono (fun g hg=>by have:=(Ql aU).1;omega)).and ((Kq.blk (D:=fun g=>g<wo.heap.size) B1 _ (Ql aU).1).and ((Kq.qx _ _ _).and (Kq.bl wo (fun _ h=>h)))),HG.out.1,aU,hq,Below.refl _ _⟩;have aD:=Qh cC;have aA:=Qh hG;clear aF aE aG cC hG aU hq HG HI;obtain⟨p0,p1,p2,p3⟩:=Qa3 (aD.out _ aA.out).2.1;go_wp2_with fail;refine(Qei _ cb wo (aD.out _ aA.out).2.2.1.snd aT aC).mono ?_;rintro e w3 ⟨v,f',rfl,hv,b4,hb⟩;obtain rfl:=b4.uniq aJ.out.fr;obtain⟨sf,af,nf,cf,rfl⟩:=hv.shape;have bn:=Qc w3 (Qlr 33 sf af nf cf);replace aA:=Qh (kG.kp.up aA.out (Bl.up hb bn));have bQ:=Qh (So.ints1 (base:=wo.heap.size) (Zk1 w3 (Qlr 33 sf af nf cf)) hb.size (hv.up bn));clear hb b4 hv bn p0 p1 p2 p3;go_upto_region 10 with fail;obtain⟨Bf,cG⟩:∃ B,w3.heap.size=B:=⟨_,rfl⟩;rw[cG] at bQ |-;clear cG;generalize w3.alloc (Qlr 33 sf af nf cf)=w4 at *;obtain⟨pc,-⟩:=cR.out _ ((aH.out _).1 (aD.out _ aA.out).1).1;go_wp2_with fail;clear pc
   go_loopw [10,12,35] (fun s10 _ s35 wy=>∃ k:Nat,s35=.int .i64 (k:Int)/\k<=L.length/\Hid (So eI wy wo.heap.size s10 (f' :: (L.map Prod.fst).take k))/\Hid (G wy))
    (fun _ _ s35 _=>L.length-(intOf s35).toNat)
   case atStart=>exact⟨0,rfl,Nat.zero_le _,bQ,aA⟩
   case round=>
    have bS:=aA;clear bQ aA;obtain⟨k,rfl,hk,HS,aA⟩:=hrel;by_cases hkl:k<L.length
    ·have k0:(0:Int)<=(k:Int):=by omega
     have k1:(k:Int)<(L.length:Int):=by omega
     obtain⟨bc,cU,rfl,-,bZ⟩:=(aJ.out.sl.up ((aH.out _).1 (aD.out _ aA.out).1).2).at hkl;obtain⟨s3,a3,n3,k3,s4,a4,n4,k4,s5,a5,n5,k5,s6,a6,n6,k6,c1,-,hx⟩:=bZ.fd hkl;obtain⟨p0,p1,p2,p3,p4,p5,p6,p7⟩:=c1;obtain⟨x,bB⟩:∃ x,(L.getD k (0,0,0,0)).1=x:=⟨_,rfl⟩
     have bO:=Qh (show (f' :: (L.map Prod.fst).take (k+1))=(f' :: (L.map Prod.fst).take k)++[x] by
      rw[<- bB,Zk3,Zk4 hkl,List.take_add_one,List.getElem?_map,Zk4 hkl];rfl)
     rw[bB] at hx;go_upto_region 13 with fail;have bn:=Qc wr (Qlu 78 s3 a3 n3 k3 s4 a4 n4 k4 s5 a5 n5 k5 s6 a6 n6 k6);have HK:=Qh (Zk1 wr (Qlu 78 s3 a3 n3 k3 s4 a4 n4 k4 s5 a5 n5 k5 s6 a6 n6 k6));have HX:=Qh (hx.up bn);replace HS:=Qh (HS.out.up bn);replace aA:=Qh (kG.kp.up aA.out bn);obtain⟨Bx,cF⟩:∃ B,wr.heap.size=B:=⟨_,rfl⟩;rw[cF] at HK |-;clear cF bn hx p0 p1 p2 p3 p4 p5 p6 p7 bB bZ;generalize wr.alloc (Qlu 78 s3 a3 n3 k3 s4 a4 n4 k4 s5 a5 n5 k5 s6 a6 n6 k6)=w5 at *;obtain⟨p0,p1,p2,p3,p4,p5,p6,p7⟩:=QbM HK.out;have bn:=Qc w5 (Qlr 33 s3 a3 n3 k3);have aV:=HS.out.up bn;have bV:=(So.ints1 (base:=0) (Zk1 w5 (Qlr 33 s3 a3 n3 k3)) (Nat.zero_le _) (HX.out.up bn)).sc;have bT:=Qh (kG.kp.up aA.out bn);have b6:=(aD.out _ bT.out).2.2.2.size;obtain⟨LL,bL⟩:∃ LL,f' :: (L.map Prod.fst).take k=LL:=⟨_,rfl⟩;rw[bL] at bO aV
     have bY:LL.length+1<=1099511627776:=by
      rw[<- bL,List.length_cons,List.length_take,List.length_map];omega
     clear bn bL HS aA HK HX;go_wp2_with (at_builtin;go_must (refine Qc3 (E:=eI) rfl (.tmp 39) (.tmp 42) _ rfl Tryz.underlying46 wo.heap.size _ LL [x] rfl aV b6 _ 0 1 1 rfl rfl bV (by decide) bY ?_);intro g' c3 w7 bK b7 cZ)
     have c8:=Qh (kG.fr bT.out b7 (fun k hk=>aV.nw k hk) (fun k hd hk=>absurd (aV.lt k hk).1 (Nat.not_le_of_lt hd)));rw[<- bO.out] at bK;have c4:=Qh bK;clear bK b7 cZ bV aV bT b6 bY bO p0 p1 p2 p3 p4 p5 p6 p7;go_wp2_with fail;refine⟨⟨k+1,by go_num,by omega,c4,c8⟩,by simp[intOf];omega⟩
    ·have cX:k=L.length:=by omega
     subst cX;have cJ:=Qh (show So eI wr wo.heap.size u10 (f' :: L.map Prod.fst) by have:=HS.out;rwa [List.take_of_length_le (by simp)] at this);clear HS bS hkl;obtain⟨r,hr⟩:∃ r:Int,(rkF (f' :: L.map Prod.fst):Int)=r:=⟨_,rfl⟩;have aP:0<=r:=by omega
     have aM:r<=67108864:=by omega
     have cK:=Qh hr;have dG:IntKind.i64.wrap (lo+r)=lo+r:=by rw[IntKind.wrap_i64];omega
     clear hr cW;go_wp2_with fail
     refine(QgV _ (f' :: L.map Prod.fst) C cb.natAbs wr cJ.out.sr aJ.out.ca (by omega) aC (by omega) (by
      intro x hx;rcases List.mem_cons.1 hx with rfl|hx
      ·exact aJ.out.fr.mem aJ.out.ca
      ·obtain⟨q,hq,rfl⟩:=List.mem_map.1 hx;exact aJ.out.el q hq) (by rw[List.length_cons,List.length_map];omega)).mono ?_
     rintro e w8 ⟨rfl,hb⟩;rw[cK.out];replace aA:=Qh (kG.kp.up aA.out hb);clear hb cJ;go_upto_region 16 with fail;refine QaT (by kernel_rfl) [] (S:=fun w'=>Qmb w' B1 t1 e1 aL aS t2 e2 aK aR/\w'.cell? ⟨w.heap.size,6+i,none⟩=some (.slice dm M.length qm)) ⟨Qa3 (aD.out _ aA.out).2.1,(cR.out _ ((aH.out _).1 (aD.out _ aA.out).1).1).2⟩ (fun aB=>?_);have kS:Kp fun w'=>Qmb w' B1 t1 e1 aL aS t2 e2 aK aR/\w'.cell? ⟨w.heap.size,6+i,none⟩=some (.slice dm M.length qm):=(Kp.bk4 _ _ _ _ _).and (Kp.cl _ _ _);replace aA:=Qh (kG.kp.dr aA.out);generalize w8.drew=w9 at *;(refine tS 0 rfl ?_;refine tS 1 rfl ?_;refine tS 2 rfl ?_;refine tS 5 rfl ?_;refine tS 6 rfl ?_;refine tS 7 rfl ?_;refine tS 8 rfl ?_;refine tS 9 rfl ?_)
     (refine oL 3 rfl fun K hK=>tL ?_;go_simp);refine(Qb1 _ cb w9 (aD.out _ aA.out).2.2.1.snd aT aC).mono ?_;rintro e wa ⟨v,C',P,rfl,hO,cE,-,-,hb⟩;obtain rfl:=cE.uniq aJ.out.ca;obtain⟨aO,cO,rfl,-⟩:=hO.slice;have aW:=kS.up aB hb;replace aA:=Qh (kG.kp.up aA.out hb);clear hb hO cE;(go_wp2_with fail;clear aB;refine nxL hK aW fun aB=>tL ?_;clear hK);clear aW;obtain⟨cn,bJ⟩:∃ n,C'.length=n:=⟨_,rfl⟩;obtain⟨mN,a0⟩:∃ n,M.length=n:=⟨_,rfl⟩;have cQ:=Qh (And.intro bJ a0);rw[a0] at aB;rw[bJ,a0];have dN:cn<=67108864:=by omega
     have dL:mN<=549755813888:=by omega
     have cV:IntKind.i64.wrap ((cn:Int)-(mN:Int))=(cn:Int)-(mN:Int):=by rw[IntKind.wrap_i64];omega
     clear bJ a0 c0 c2;(refine tS 4 rfl ?_;refine tS 10 rfl ?_)
     (refine oL 11 rfl fun K hK=>tL ?_;go_simp);refine(QfY ((cn:Int)-(mN:Int)) wa (by omega) (by omega)).mono ?_;rintro e wb ⟨rfl,rfl⟩;have aW:=aB;(go_wp2_with fail;clear aB;refine nxL hK aW fun aB=>tL ?_;clear hK);clear aW;obtain⟨q,hq⟩:∃ q:Int,((Nat.log2 (cn-mN):Nat):Int)=q:=⟨_,rfl⟩;have dK:0<=q:=by omega
     have dJ:q<=67108864:=by
      have:=Qgf (n:=cn-mN) (by omega);omega
     have c5:=Qh hq;rw[hq];have dF:IntKind.i64.wrap (hi+q)=hi+q:=by rw[IntKind.wrap_i64];omega
     clear hq;(refine tS 12 rfl ?_;refine tS 13 rfl ?_)
     refine dT ?_;clear aB cV;have c7:=Qh (c6.out r q cK.out (by rw[cQ.out.1,cQ.out.2,show ((cn:Int)-(mN:Int)).toNat=cn-mN by omega];exact c5.out) _ _ rfl rfl);have aI:=Qh ((aD.out _ aA.out).2.1);obtain⟨p0,p1,p2,p3⟩:=Qa3 aI.out;go_wp2_with fail;refine mn (QbT _ ca cb wb (aD.out _ aA.out).2.2.1 (by omega) (by omega)) fun v wc hqv hb=>?_;obtain⟨t3,e3,m3,h3,t4,e4,m4,h4,rfl,cI,cH⟩:=hqv;replace aA:=Qh (kG.kp.up aA.out hb);have cT:=Qh cI;have cS:=Qh cH;clear hb cI cH p0 p1 p2 p3 aI;have aI:=Qh ((aD.out _ aA.out).2.1);obtain⟨p0,p1,p2,p3⟩:=Qa3 aI.out;obtain⟨dY,dX,dW,dV⟩:=Qcf aI.out;have a7:=QgH wc B1 (.bool t3) (.slice e3 m3 h3) (.bool t4) (.slice e4 m4 h4);have aZ:=nw4 aI.out;have dA:=Qh (kF.fr (aD.out _ aA.out).1 a7 aZ (fun k hk e=>by omega));have dC:=Qh (show Cv _ B1 (-2*ca) (ca*ca-4*cb) from ⟨_,_,_,_,_,_,_,_,Qcw aI.out (.bool t3) (.slice e3 m3 h3) (.bool t4) (.slice e4 m4 h4),_,_,_,_,_,_,_,_,rfl,cT.out.fr a7 aZ,cS.out.fr a7 aZ⟩);clear a7 aZ aI cT cS aA kG aD;go_wp2_with fail;go_roundw
     case rel=>exact⟨i+1,lo+r,hi+q,-2*ca,ca*ca-4*cb,by go_num,by omega,rfl,rfl,by omega,by omega,by omega,by omega,c7,Qh ⟨dA.out,dC.out⟩⟩
     case measure=>simp[intOf];omega
  ·have cY:i=2:=by omega
   subst cY;obtain⟨bX,b2⟩:=HI.out.2.2 rfl;have dD:=Qh (show BndTo a b l0 l1 m0 m1 (max lo 0) hi 0 by rw[bX,b2];exact dE.out);have c9:=Qh ((aH.out _).1 HG.out.1).2;clear bX b2 HG HI;go_wp2_with fail;refine bodyPost_ret (results_tmp3 rfl _ _ _) rfl ?_;exact⟨_,_,0,rfl,dD.out,c9.out⟩
