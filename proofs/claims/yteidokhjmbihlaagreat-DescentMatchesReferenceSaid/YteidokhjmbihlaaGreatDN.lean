/-
  descent.Bounds: the walk.
-/
import Derived.Test.YteidokhjmbihlaaGreatDM
set_option linter.all false
set_option maxRecDepth 100000
set_option maxHeartbeats 8000000
namespace Go.Proofs.YteidokhjmbihlaaGreat
open Go.RowKit
attribute [local go_sem ↓] Go.wp_at_zero Go.wp_at_succ
def Cv (w:World) (B:Nat) (a b:Int):Prop:=∃ s1 a1 n1 g1 s2 a2 n2 g2,w.heap[B]? = some (.cells #[.bool s1,.slice a1 n1 g1,.bool s2,.slice a2 n2 g2] 125)/\Qx w (.agg #[.bool s1,.slice a1 n1 g1,.bool s2,.slice a2 n2 g2]) a b
theorem Kp.cv (B:Nat) (a b:Int):Kp fun w=>Cv w B a b:=⟨by
 rintro w w' ⟨s1,a1,n1,g1,s2,a2,n2,g2,h1,h2⟩ hb;exact⟨s1,a1,n1,g1,s2,a2,n2,g2,(Kp.blk _ _).up h1 hb,h2.up hb⟩⟩
theorem Qx.fr {S:Nat->Prop} {w w':World} {v:Value} {a b:Int} (h:Qx w v a b) (hb:ButS S w w') (hn:∀ g,S g->NoW w g):Qx w' v a b:=by
 obtain⟨s1,a1,n1,g1,s2,a2,n2,g2,e,h1,h2⟩:=h;exact⟨s1,a1,n1,g1,s2,a2,n2,g2,e,h1.fr hb hn,h2.fr hb hn⟩
theorem Qx.snd {w:World} {s1 s2:Bool} {a1 a2:Option Addr} {n1 n2 g1 g2:Nat} {a b:Int} (h:Qx w (.agg #[.bool s1,.slice a1 n1 g1,.bool s2,.slice a2 n2 g2]) a b):It w (.agg #[.bool s2,.slice a2 n2 g2]) b:=by
 obtain⟨_,_,_,_,_,_,_,_,e,-,h⟩:=h;injection e with e;simp only[Array.mk.injEq,List.cons.injEq,and_true] at e;obtain⟨-,-,ea,eb⟩:=e;rw[ea,eb];exact h
theorem Kq.qx {D:Nat->Prop} (v:Value) (a b:Int):Kq D fun w=>Qx w v a b:=⟨fun h hb hn _=>h.fr hb hn⟩
theorem Qk8 {l C:List Int} {n:Nat} (hC:Cand n C) (h1:1<=n) (h2:n<1099511627776) (hl:∀ x∈l,x∈C):rkF l<=67108864:=by
 have h3:=QjC hC hl;have h4:=Yt hC h1 h2
 have h5:Nat.log2 (rkG l).length<=(rkG l).length:=by
  by_cases e:(rkG l).length=0
  ·rw[e];decide
  ·exact Nat.le_of_lt ((Nat.log2_lt e).2 Nat.lt_two_pow_self)
 unfold rkF;omega
theorem QeU {n:Nat} (h:n<=67108864):Nat.log2 n<=67108864:=by
 by_cases e:n=0
 ·subst e;decide
 ·exact Qt (Nat.le_of_lt ((Nat.log2_lt e).2 Nat.lt_two_pow_self)) h
structure Prt (w:World) (cb:Int) (f:Int) (L:List (Int×Int×Int×Int)) (M:List (Int×Int×Int)) (C:List Int) (dl:Option Addr) (ql:Nat) (dm:Option Addr) (qm:Nat):Prop where
 fr:FrZ cb f
 ca:Cand cb.natAbs C
 b0:cb≠0
 b1:cb.natAbs<1099511627776
 lL:L.length<=549755813888
 lM:M.length<=549755813888
 sl:Sr eFd w (.slice dl L.length ql) L
 sm:Sr eIs w (.slice dm M.length qm) M
 el:∀ q∈L,q.1∈C
theorem Qav (vd:Value) (a b:Int) (l0 l1:List (Int×Int×Int×Int)) (m0 m1:List (Int×Int×Int)) (w:World) (h:Dsc w vd a b l0 l1 m0 m1) (ha:sz a<=1000000) (hb:sz b<=1000000)
  (hl0:SzF l0) (hl1:SzF l1) (hm0:SzN m0) (hm1:SzN m1) :
  Calls Tryz.prog 44 #[vd] w fun e' w'=>∃ lo hi c,e'=.returned (.tuple #[.int .i64 lo,.int .i64 hi,.int .i64 c])/\BndTo a b l0 l1 m0 m1 lo hi c/\Below w.heap.size w w':=by
 have HDC:=Qh h;obtain⟨s1,a1,n1,g1,s2,a2,n2,g2,d0,o0,q0,d1,o1,q1,d2,o2,q2,d3,o3,q3,rfl,hA,hB,hl,hl',hm,hm'⟩:=h;obtain⟨rfl,-⟩:=hl.len;obtain⟨rfl,-⟩:=hl'.len;obtain⟨rfl,-⟩:=hm.len;obtain⟨rfl,-⟩:=hm'.len;obtain⟨F,hFD,kF⟩:∃ F:World->Prop,(∀ w',F w'↔(w'.heap[w.heap.size]? = some (.cells #[.bool s1,.slice a1 n1 g1,.bool s2,.slice a2 n2 g2,.slice d0 l0.length q0,.slice d1 l1.length q1,.slice d2 m0.length q2,.slice d3 m1.length q3] 87)/\Below w.heap.size w w'))/\Kq (fun g=>g<w.heap.size+1) F:=⟨fun w'=>w'.heap[w.heap.size]? = some (.cells #[.bool s1,.slice a1 n1 g1,.bool s2,.slice a2 n2 g2,.slice d0 l0.length q0,.slice d1 l1.length q1,.slice d2 m0.length q2,.slice d3 m1.length q3] 87)/\Below w.heap.size w w',fun _=>Iff.rfl,(Kq.blk (D:=fun g=>g<w.heap.size+1) w.heap.size _ (Nat.lt_succ_self w.heap.size)).and (Kq.bl w (fun g hg=>Nat.lt_succ_of_lt hg))⟩;have HFD:=Qh hFD;clear hFD;have bn:=Qa w (.cells #[.bool s1,.slice a1 n1 g1,.bool s2,.slice a2 n2 g2,.slice d0 l0.length q0,.slice d1 l1.length q1,.slice d2 m0.length q2,.slice d3 m1.length q3] 87);have HF:Hid (F (w.alloc (.cells #[.bool s1,.slice a1 n1 g1,.bool s2,.slice a2 n2 g2,.slice d0 l0.length q0,.slice d1 l1.length q1,.slice d2 m0.length q2,.slice d3 m1.length q3] 87))):=Qh ((HFD.out _).2 ⟨heap_alloc_new _ _,bn⟩);have HQ:=Qh (show Qx (w.alloc (.cells #[.bool s1,.slice a1 n1 g1,.bool s2,.slice a2 n2 g2,.slice d0 l0.length q0,.slice d1 l1.length q1,.slice d2 m0.length q2,.slice d3 m1.length q3] 87)) (.agg #[.bool s1,.slice a1 n1 g1,.bool s2,.slice a2 n2 g2]) a b from ⟨_,_,_,_,_,_,_,_,rfl,hA.up bn,hB.up bn⟩);have hsz:(w.alloc (.cells #[.bool s1,.slice a1 n1 g1,.bool s2,.slice a2 n2 g2,.slice d0 l0.length q0,.slice d1 l1.length q1,.slice d2 m0.length q2,.slice d3 m1.length q3] 87)).heap.size=w.heap.size+1:=by simp only[World.size_alloc]
 have HL0:=Qh hl;have HL1:=Qh hl';have HM0:=Qh hm;have HM1:=Qh hm';replace HDC:=Qh ((Kp.dsc _ _ _ _ _ _ _).up HDC.out bn);clear hA hB hl hl' hm hm' bn;go_enter Tryz.func44,Tryz.ntmps44
 go_upto_region 1 with fail;generalize w.alloc (.cells #[.bool s1,.slice a1 n1 g1,.bool s2,.slice a2 n2 g2,.slice d0 l0.length q0,.slice d1 l1.length q1,.slice d2 m0.length q2,.slice d3 m1.length q3] 87)=W at *;obtain⟨p0,p1,p2,p3,p4,p5,p6,p7⟩:=Yr ((HFD.out _).1 HF.out).1;go_wp2_with fail;refine(Qe3 _ a b l0 l1 m0 m1 W HDC.out ha hb hl0 hl1 hm0 hm1).mono ?_;rintro e w1 ⟨c,rfl,hc,hb1⟩;replace HF:=Qh (kF.kp.up HF.out hb1);replace HQ:=Qh (HQ.out.up hb1);have hs1:w.heap.size+1<=w1.heap.size:=by rw[<- hsz];exact hb1.size
 have HC:=Qh hc;clear p0 p1 p2 p3 p4 p5 p6 p7 hb1 hc HDC hsz;by_cases hc0:¬ c=0
 ·have hc1:(c == 0)=false:=by rw[beq_eq_false_iff_ne];exact hc0
  have HP:=Qh (show BndTo a b l0 l1 m0 m1 0 0 c from ⟨HC.out,.inl ⟨hc0,rfl,rfl⟩⟩);clear hc0;go_wp2_with fail;refine bodyPost_ret (results_tmp3 rfl _ _ _) rfl ?_;exact⟨0,0,c,rfl,HP.out,((HFD.out _).1 HF.out).2⟩
 replace hc0:=Decidable.not_not.1 hc0;subst hc0
 obtain⟨hz,⟨hr0,hr1⟩⟩:JA a b=0/\Qhz a b l0 m0/\Qhz (-2*a) (a*a-4*b) l1 m1:=by
  rcases HC.out with ⟨h1,h2⟩|⟨h1,h2,-⟩|⟨-,-,h⟩
  ·exact absurd h2.symm h1
  ·exact⟨h1,h2⟩
  ·cases h
 obtain⟨z0,z1,z2,z3⟩:=QZ hz;obtain⟨y0,y1,y2,y3⟩:=Qcl hz;obtain⟨C0,hC0,hI0,-⟩:=QgN hr0;obtain⟨C1,hC1,hI1,-⟩:=QgN hr1;obtain⟨f0,hf0⟩:=Qgi z0;obtain⟨f1,hf1⟩:=Qgi z1;have HPR0:Hid (Prt w b f0 l0 m0 C0 d0 q0 d2 q2):=Qh ⟨hf0,hC0,z0,z2,hl0.len,hm0.len,HL0.out,HM0.out,hI0⟩;have HPR1:Hid (Prt w (a*a-4*b) f1 l1 m1 C1 d1 q1 d3 q3):=Qh ⟨hf1,hC1,z1,z3,hl1.len,hm1.len,HL1.out,HM1.out,hI1⟩;obtain⟨r0,hr0⟩:∃ r:Int,(rkF (f0 :: l0.map Prod.fst):Int)=r:=⟨_,rfl⟩;obtain⟨r1,hr1⟩:∃ r:Int,(rkF (f1 :: l1.map Prod.fst):Int)=r:=⟨_,rfl⟩;obtain⟨h0,hh0⟩:∃ r:Int,(Nat.log2 ((C0.length:Int)-m0.length).toNat:Int)=r:=⟨_,rfl⟩;obtain⟨h1,hh1⟩:∃ r:Int,(Nat.log2 ((C1.length:Int)-m1.length).toNat:Int)=r:=⟨_,rfl⟩;have HR:=Qh (And.intro hr0 (And.intro hr1 (And.intro hh0 hh1)));have HBN:=Qh (show BndTo a b l0 l1 m0 m1 (max (-2+r0+r1) 0) (-2+h0+h1) 0 from ⟨HC.out,.inr ⟨rfl,f0,f1,C0,C1,hf0,hf1,hC0,hC1,by rw[<- hr0,<- hr1],by rw[<- hh0,<- hh1]⟩⟩);have HSZ:=Qh (And.intro y0 (And.intro y1 (And.intro y2 y3)));obtain⟨D,hD⟩:∃ D,a*a-4*b=D:=⟨_,rfl⟩;rw[hD] at HPR1 HSZ;have HDD:=Qh hD;clear hz z0 z1 z2 z3 y0 y1 y2 y3 hC0 hC1 hI0 hI1 hf0 hf1 hr0 hr1 hh0 hh1 hD HL0 HL1 HM0 HM1 hl0 hl1 hm0 hm1;obtain⟨p0,p1,p2,p3,p4,p5,p6,p7⟩:=Yr ((HFD.out _).1 HF.out).1;go_upto_region 6 with fail;have bn:=Qa w1 (.cells #[.bool s1,.slice a1 n1 g1,.bool s2,.slice a2 n2 g2] 125);have HCV:Hid (∃ B1,w.heap.size+1<=B1/\B1=w1.heap.size/\Cv (w1.alloc (.cells #[.bool s1,.slice a1 n1 g1,.bool s2,.slice a2 n2 g2] 125)) B1 a b):=Qh ⟨w1.heap.size,hs1,rfl,_,_,_,_,_,_,_,_,heap_alloc_new _ _,HQ.out.up bn⟩;replace HF:=Qh (kF.kp.up HF.out bn);obtain⟨B1,hB1,hB1e,hcv⟩:=HCV.out;rw[<- hB1e];have HCV:=Qh hcv;clear HQ bn p0 p1 p2 p3 p4 p5 p6 p7 hB1e hcv hs1;generalize w1.alloc (.cells #[.bool s1,.slice a1 n1 g1,.bool s2,.slice a2 n2 g2] 125)=w2 at *;go_wp2_with fail
 go_loopw [6,7,9,10,12,23,35] (fun s6 s7 _ _ _ s23 _ wr=>∃ (i:Nat) (lo hi ca cb:Int),s23=.int .i64 (i:Int)/\i<=2/\s6=.int .i64 lo/\s7=.int .i64 hi /\ -2<=lo/\lo<=67108864*i /\ -2<=hi/\hi<=67108864*i /\
   Hid ((i=0->ca=a/\cb=b/\lo = -2/\hi = -2)/\(i=1->ca = -2*a/\cb=D/\lo = -2+r0/\hi = -2+h0)/\(i=2->lo = -2+r0+r1/\hi = -2+h0+h1))/\Hid (F wr/\Cv wr B1 ca cb))
  (fun _ _ _ _ _ s23 _ _=>2-(intOf s23).toNat)
 case atStart=>exact⟨0,-2,-2,a,b,rfl,by omega,rfl,rfl,by omega,by omega,by omega,by omega,Qh ⟨fun _=>⟨rfl,rfl,rfl,rfl⟩,fun h=>by omega,fun h=>by omega⟩,Qh ⟨HF.out,HCV.out⟩⟩
 case round=>
  clear HF HCV;obtain⟨i,lo,hi,ca,cb,rfl,hi2,rfl,rfl,b1,b2',b3,b4',HI,HG⟩:=hrel;generalize wr=wo at *;by_cases hlt:i<2
  ·have i0:(0:Int)<=(i:Int):=by omega
   have i1:(i:Int)<2:=by omega
   obtain⟨t1,e1,m1',h1',t2,e2,m2',h2',hc1,hq⟩:=HG.out.2
   have hkey:∃ (f:Int) (L:List (Int×Int×Int×Int)) (M:List (Int×Int×Int)) (C:List Int) (dl:Option Addr) (ql:Nat) (dm:Option Addr) (qm:Nat),Prt w cb f L M C dl ql dm qm/\sz ca<=2/\(∀ w':World,w'.heap[w.heap.size]? = some (.cells #[.bool s1,.slice a1 n1 g1,.bool s2,.slice a2 n2 g2,.slice d0 l0.length q0,.slice d1 l1.length q1,.slice d2 m0.length q2,.slice d3 m1.length q3] 87)->w'.cell? ⟨w.heap.size,4+i,none⟩=some (.slice dl L.length ql)/\w'.cell? ⟨w.heap.size,6+i,none⟩=some (.slice dm M.length qm)) /\
     (∀ r h':Int,(rkF (f :: L.map Prod.fst):Int)=r->(Nat.log2 ((C.length:Int)-M.length).toNat:Int)=h'->∀ ca' cb':Int,ca' = -2*ca->cb'=ca*ca-4*cb->((i+1=0->ca'=a/\cb'=b/\lo+r = -2/\hi+h' = -2)/\(i+1=1->ca' = -2*a/\cb'=D/\lo+r = -2+r0/\hi+h' = -2+h0)/\(i+1=2->lo+r = -2+r0+r1/\hi+h' = -2+h0+h1))):=by
    obtain⟨hR0,hR1,hH0,hH1⟩:=HR.out;by_cases e:i=0
    ·subst e;obtain⟨rfl,rfl,rfl,rfl⟩:=HI.out.1 rfl;refine⟨f0,l0,m0,C0,d0,q0,d2,q2,HPR0.out,HSZ.out.1,fun w' hw'=>by simp[World.cell?,hw'],fun r h' hr hh' ca' cb' e1 e2=>⟨fun h=>by omega,fun _=>⟨e1,by rw[e2];exact HDD.out,by omega,by omega⟩,fun h=>by omega⟩⟩
    ·have e':i=1:=by omega
     subst e';obtain⟨rfl,rfl,rfl,rfl⟩:=HI.out.2.1 rfl;refine⟨f1,l1,m1,C1,d1,q1,d3,q3,HPR1.out,HSZ.out.2.2.1,fun w' hw'=>by simp[World.cell?,hw'],fun r h' hr hh' ca' cb' e1 e2=>⟨fun h=>by omega,fun h=>by omega,fun _=>⟨by omega,by omega⟩⟩⟩
   obtain⟨f,L,M,C,dl,ql,dm,qm,hPr,hsa,hcells,hnext⟩:=hkey;have HPr:=Qh hPr;have HCE:=Qh hcells;have HNX:=Qh hnext;have hcb0:=hPr.b0;have hcb1:=hPr.b1
   have hrk:=Qk8 hPr.ca (by omega) hcb1 (l:=f :: L.map Prod.fst) (by
    intro x hx;rcases List.mem_cons.1 hx with rfl|hx
    ·exact hPr.fr.mem hPr.ca
    ·obtain⟨q,hq,rfl⟩:=List.mem_map.1 hx;exact hPr.el q hq)
   have hcl:=Yt hPr.ca (by omega) hcb1;have hLl:=hPr.lL;have hMl:=hPr.lM;have hsb:sz cb<=2:=Qbw hcb1;obtain⟨G,hGD,kG,hG⟩:∃ G:World->Prop,(∀ w',G w'->F w'/\w'.heap[B1]? = some (.cells #[.bool t1,.slice e1 m1' h1',.bool t2,.slice e2 m2' h2'] 125)/\Qx w' (.agg #[.bool t1,.slice e1 m1' h1',.bool t2,.slice e2 m2' h2']) ca cb/\Below wo.heap.size wo w')/\Kq (fun g=>g<wo.heap.size) G/\G wo:=⟨fun w'=>F w'/\w'.heap[B1]? = some (.cells #[.bool t1,.slice e1 m1' h1',.bool t2,.slice e2 m2' h2'] 125)/\Qx w' (.agg #[.bool t1,.slice e1 m1' h1',.bool t2,.slice e2 m2' h2']) ca cb/\Below wo.heap.size wo w',fun _ h=>h,(kF.mono (fun g hg=>by have:=(Ql hc1).1;omega)).and ((Kq.blk (D:=fun g=>g<wo.heap.size) B1 _ (Ql hc1).1).and ((Kq.qx _ _ _).and (Kq.bl wo (fun _ h=>h)))),HG.out.1,hc1,hq,Below.refl _ _⟩;have HGD:=Qh hGD;have HGG:=Qh hG;clear hPr hcells hnext hGD hG hc1 hq HG HI;obtain⟨p0,p1,p2,p3⟩:=QG (HGD.out _ HGG.out).2.1;go_wp2_with fail;refine(QcT _ cb wo (HGD.out _ HGG.out).2.2.1.snd hcb0 hcb1).mono ?_;rintro e w3 ⟨v,f',rfl,hv,hf',hb⟩;obtain rfl:=hf'.uniq HPr.out.fr;obtain⟨sf,af,nf,cf,rfl⟩:=hv.shape;have bn:=Qa w3 (.cells #[.bool sf,.slice af nf cf] 33);replace HGG:=Qh (kG.kp.up HGG.out (Bl.up hb bn));have HS3:=Qh (So.ints1 (base:=wo.heap.size) (heap_alloc_new w3 (.cells #[.bool sf,.slice af nf cf] 33)) hb.size (hv.up bn));clear hb hf' hv bn p0 p1 p2 p3;go_upto_region 10 with fail;obtain⟨Bf,hBf⟩:∃ B,w3.heap.size=B:=⟨_,rfl⟩;rw[hBf] at HS3 |-;clear hBf;generalize w3.alloc (.cells #[.bool sf,.slice af nf cf] 33)=w4 at *;obtain⟨pc,-⟩:=HCE.out _ ((HFD.out _).1 (HGD.out _ HGG.out).1).1;go_wp2_with fail;clear pc
   go_loopw [10,12,35] (fun s10 _ s35 wy=>∃ k:Nat,s35=.int .i64 (k:Int)/\k<=L.length/\Hid (So eI wy wo.heap.size s10 (f' :: (L.map Prod.fst).take k))/\Hid (G wy))
    (fun _ _ s35 _=>L.length-(intOf s35).toNat)
   case atStart=>exact⟨0,rfl,Nat.zero_le _,HS3,HGG⟩
   case round=>
    have HGG0:=HGG;clear HS3 HGG;obtain⟨k,rfl,hk,HS,HGG⟩:=hrel;by_cases hkl:k<L.length
    ·have k0:(0:Int)<=(k:Int):=by omega
     have k1:(k:Int)<(L.length:Int):=by omega
     obtain⟨bc,offc,rfl,-,hlc⟩:=(HPr.out.sl.up ((HFD.out _).1 (HGD.out _ HGG.out).1).2).at hkl;obtain⟨s3,a3,n3,k3,s4,a4,n4,k4,s5,a5,n5,k5,s6,a6,n6,k6,hc8,-,hx⟩:=hlc.fd hkl;obtain⟨p0,p1,p2,p3,p4,p5,p6,p7⟩:=hc8;obtain⟨x,hxe⟩:∃ x,(L.getD k (0,0,0,0)).1=x:=⟨_,rfl⟩
     have HTK:=Qh (show (f' :: (L.map Prod.fst).take (k+1))=(f' :: (L.map Prod.fst).take k)++[x] by
      rw[<- hxe,List.getD_eq_getElem?_getD,List.getElem?_eq_getElem hkl,List.take_add_one,List.getElem?_map,List.getElem?_eq_getElem hkl];rfl)
     rw[hxe] at hx;go_upto_region 13 with fail;have bn:=Qa wr (.cells #[.bool s3,.slice a3 n3 k3,.bool s4,.slice a4 n4 k4,.bool s5,.slice a5 n5 k5,.bool s6,.slice a6 n6 k6] 78);have HK:=Qh (heap_alloc_new wr (.cells #[.bool s3,.slice a3 n3 k3,.bool s4,.slice a4 n4 k4,.bool s5,.slice a5 n5 k5,.bool s6,.slice a6 n6 k6] 78));have HX:=Qh (hx.up bn);replace HS:=Qh (HS.out.up bn);replace HGG:=Qh (kG.kp.up HGG.out bn);obtain⟨Bx,hBx⟩:∃ B,wr.heap.size=B:=⟨_,rfl⟩;rw[hBx] at HK |-;clear hBx bn hx p0 p1 p2 p3 p4 p5 p6 p7 hxe hlc;generalize wr.alloc (.cells #[.bool s3,.slice a3 n3 k3,.bool s4,.slice a4 n4 k4,.bool s5,.slice a5 n5 k5,.bool s6,.slice a6 n6 k6] 78)=w5 at *;obtain⟨p0,p1,p2,p3,p4,p5,p6,p7⟩:=Yr HK.out;have bn:=Qa w5 (.cells #[.bool s3,.slice a3 n3 k3] 33);have hS6:=HS.out.up bn;have hsc:=(So.ints1 (base:=0) (heap_alloc_new w5 (.cells #[.bool s3,.slice a3 n3 k3] 33)) (Nat.zero_le _) (HX.out.up bn)).sc;have HG6:=Qh (kG.kp.up HGG.out bn);have hbz:=(HGD.out _ HG6.out).2.2.2.size;obtain⟨LL,hLL⟩:∃ LL,f' :: (L.map Prod.fst).take k=LL:=⟨_,rfl⟩;rw[hLL] at HTK hS6
     have hln:LL.length+1<=1099511627776:=by
      rw[<- hLL,List.length_cons,List.length_take,List.length_map];omega
     clear bn hLL HS HGG HK HX;go_wp2_with (at_builtin;go_must (refine JF (E:=eI) rfl (.tmp 39) (.tmp 42) _ rfl Tryz.underlying46 wo.heap.size _ LL [x] rfl hS6 hbz _ 0 1 1 rfl rfl hsc (by decide) hln ?_);intro g' cap' w7 hS7 hb7 hg7)
     have HG7:=Qh (kG.fr HG6.out hb7 (fun k hk=>hS6.nw k hk) (fun k hd hk=>absurd (hS6.lt k hk).1 (Nat.not_le_of_lt hd)));rw[<- HTK.out] at hS7;have HS7:=Qh hS7;clear hS7 hb7 hg7 hsc hS6 HG6 hbz hln HTK p0 p1 p2 p3 p4 p5 p6 p7;go_wp2_with fail;refine⟨⟨k+1,by go_num,by omega,HS7,HG7⟩,by simp[intOf];omega⟩
    ·have hke:k=L.length:=by omega
     subst hke;have HSL:=Qh (show So eI wr wo.heap.size u10 (f' :: L.map Prod.fst) by have:=HS.out;rwa [List.take_of_length_le (by simp)] at this);clear HS HGG0 hkl;obtain⟨r,hr⟩:∃ r:Int,(rkF (f' :: L.map Prod.fst):Int)=r:=⟨_,rfl⟩;have hr0:0<=r:=by omega
     have hr1:r<=67108864:=by omega
     have HRR:=Qh hr;have hw1:IntKind.i64.wrap (lo+r)=lo+r:=by rw[IntKind.wrap_i64];omega
     clear hr hrk;go_wp2_with fail
     refine(Qgc _ (f' :: L.map Prod.fst) C cb.natAbs wr HSL.out.sr HPr.out.ca (by omega) hcb1 (by omega) (by
      intro x hx;rcases List.mem_cons.1 hx with rfl|hx
      ·exact HPr.out.fr.mem HPr.out.ca
      ·obtain⟨q,hq,rfl⟩:=List.mem_map.1 hx;exact HPr.out.el q hq) (by rw[List.length_cons,List.length_map];omega)).mono ?_
     rintro e w8 ⟨rfl,hb⟩;rw[HRR.out];replace HGG:=Qh (kG.kp.up HGG.out hb);clear hb HSL;go_upto_region 16 with fail;have hS0:bc4 w8 B1 (.bool t1) (.slice e1 m1' h1') (.bool t2) (.slice e2 m2' h2')/\w8.cell? ⟨w.heap.size,6+i,none⟩=some (.slice dm M.length qm):=⟨QG (HGD.out _ HGG.out).2.1,(HCE.out _ ((HFD.out _).1 (HGD.out _ HGG.out).1).1).2⟩;refine Qc (by kernel_rfl) [] (S:=fun w'=>bc4 w' B1 (.bool t1) (.slice e1 m1' h1') (.bool t2) (.slice e2 m2' h2')/\w'.cell? ⟨w.heap.size,6+i,none⟩=some (.slice dm M.length qm)) hS0 (fun hHeld=>?_);have kS:Kp fun w'=>bc4 w' B1 (.bool t1) (.slice e1 m1' h1') (.bool t2) (.slice e2 m2' h2')/\w'.cell? ⟨w.heap.size,6+i,none⟩=some (.slice dm M.length qm):=(Kp.bk4 _ _ _ _ _).and (Kp.cl _ _ _);clear hS0;replace HGG:=Qh (kG.kp.dr HGG.out);generalize w8.drew=w9 at *;(refine tS 0 rfl ?_;refine tS 1 rfl ?_;refine tS 2 rfl ?_;refine tS 5 rfl ?_;refine tS 6 rfl ?_;refine tS 7 rfl ?_;refine tS 8 rfl ?_;refine tS 9 rfl ?_)
     (refine oL 3 rfl fun K hK=>tL ?_;go_simp);refine(Y3 _ cb w9 (HGD.out _ HGG.out).2.2.1.snd hcb0 hcb1).mono ?_;rintro e wa ⟨v,C',P,rfl,hO,hC',-,-,hb⟩;obtain rfl:=hC'.uniq HPr.out.ca;obtain⟨aO,cO,rfl,-⟩:=hO.slice;have hS2:=kS.up hHeld hb;replace HGG:=Qh (kG.kp.up HGG.out hb);clear hb hO hC';(go_wp2_with fail;clear hHeld;refine nxL hK hS2 fun hHeld=>tL ?_;clear hK);clear hS2;obtain⟨cn,hcn⟩:∃ n,C'.length=n:=⟨_,rfl⟩;obtain⟨mn,hmn⟩:∃ n,M.length=n:=⟨_,rfl⟩;have HCM:=Qh (And.intro hcn hmn);rw[hmn] at hHeld;rw[hcn,hmn];have hcb:cn<=67108864:=by omega
     have hmb:mn<=549755813888:=by omega
     have hw2:IntKind.i64.wrap ((cn:Int)-(mn:Int))=(cn:Int)-(mn:Int):=by rw[IntKind.wrap_i64];omega
     clear hcn hmn hcl hMl;(refine tS 4 rfl ?_;refine tS 10 rfl ?_)
     (refine oL 11 rfl fun K hK=>tL ?_;go_simp);refine(QeL ((cn:Int)-(mn:Int)) wa (by omega) (by omega)).mono ?_;rintro e wb ⟨rfl,rfl⟩;have hS2:=hHeld;(go_wp2_with fail;clear hHeld;refine nxL hK hS2 fun hHeld=>tL ?_;clear hK);clear hS2;obtain⟨q,hq⟩:∃ q:Int,((Nat.log2 (cn-mn):Nat):Int)=q:=⟨_,rfl⟩;have hq0:0<=q:=by omega
     have hq1:q<=67108864:=by
      have:=QeU (n:=cn-mn) (by omega);omega
     have HQE:=Qh hq;rw[hq];have hw3:IntKind.i64.wrap (hi+q)=hi+q:=by rw[IntKind.wrap_i64];omega
     clear hq;(refine tS 12 rfl ?_;refine tS 13 rfl ?_)
     refine dT ?_;clear hHeld hw2;have HNN:=Qh (HNX.out r q HRR.out (by rw[HCM.out.1,HCM.out.2,show ((cn:Int)-(mn:Int)).toNat=cn-mn by omega];exact HQE.out) _ _ rfl rfl);have HBK:=Qh ((HGD.out _ HGG.out).2.1);obtain⟨p0,p1,p2,p3⟩:=QG HBK.out;go_wp2_with fail;refine(YX _ ca cb wb (HGD.out _ HGG.out).2.2.1 (by omega) (by omega)).mono ?_;rintro e wc ⟨v,rfl,hqv,hb⟩;obtain⟨t3,e3,m3,h3,t4,e4,m4,h4,rfl,hA',hB'⟩:=hqv;replace HGG:=Qh (kG.kp.up HGG.out hb);have HA':=Qh hA';have HB':=Qh hB';clear hb hA' hB' p0 p1 p2 p3 HBK;have HBK:=Qh ((HGD.out _ HGG.out).2.1);obtain⟨p0,p1,p2,p3⟩:=QG HBK.out;obtain⟨f0',f1',f2',f3'⟩:=Qai HBK.out;have hb9:=QiW wc B1 (.bool t3) (.slice e3 m3 h3) (.bool t4) (.slice e4 m4 h4);have hn9:=nw4 HBK.out;have HF9:=Qh (kF.fr (HGD.out _ HGG.out).1 hb9 hn9 (fun k hk e=>by omega));have HC9:=Qh (show Cv _ B1 (-2*ca) (ca*ca-4*cb) from ⟨_,_,_,_,_,_,_,_,Qca HBK.out (.bool t3) (.slice e3 m3 h3) (.bool t4) (.slice e4 m4 h4),_,_,_,_,_,_,_,_,rfl,HA'.out.fr hb9 hn9,HB'.out.fr hb9 hn9⟩);clear hb9 hn9 HBK HA' HB' HGG kG HGD;go_wp2_with fail;go_roundw
     case rel=>exact⟨i+1,lo+r,hi+q,-2*ca,ca*ca-4*cb,by go_num,by omega,rfl,rfl,by omega,by omega,by omega,by omega,HNN,Qh ⟨HF9.out,HC9.out⟩⟩
     case measure=>simp[intOf];omega
  ·have hie:i=2:=by omega
   subst hie;obtain⟨hlo,hhi⟩:=HI.out.2.2 rfl;have HBZ:=Qh (show BndTo a b l0 l1 m0 m1 (max lo 0) hi 0 by rw[hlo,hhi];exact HBN.out);have HFE:=Qh ((HFD.out _).1 HG.out.1).2;clear hlo hhi HG HI;go_wp2_with fail;refine bodyPost_ret (results_tmp3 rfl _ _ _) rfl ?_;exact⟨_,_,0,rfl,HBZ.out,HFE.out⟩
