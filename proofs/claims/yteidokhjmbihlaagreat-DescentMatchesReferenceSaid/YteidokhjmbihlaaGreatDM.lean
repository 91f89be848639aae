/-
  Every number has a factorization; a number below 2^40 has few candidates.
-/
import Derived.Test.YteidokhjmbihlaaGreatDL
import Derived.Test.YteidokhjmbihlaaGreatFG1
set_option linter.all false
set_option maxRecDepth 100000
set_option maxHeartbeats 4000000
namespace Go.Proofs.YteidokhjmbihlaaGreat
open Go.RowKit
attribute [local go_sem ↓] Go.wp_at_zero Go.wp_at_succ
def Dsc (w:World) (v:Value) (a b:Int) (l0 l1:List (Int×Int×Int×Int)) (m0 m1:List (Int×Int×Int)):Prop:=∃ s1 a1 n1 g1 s2 a2 n2 g2 d0 o0 q0 d1 o1 q1 d2 o2 q2 d3 o3 q3,v=.agg #[.bool s1,.slice a1 n1 g1,.bool s2,.slice a2 n2 g2,.slice d0 o0 q0,.slice d1 o1 q1,.slice d2 o2 q2,.slice d3 o3 q3] /\
 It w (.agg #[.bool s1,.slice a1 n1 g1]) a/\It w (.agg #[.bool s2,.slice a2 n2 g2]) b/\Sr eFd w (.slice d0 o0 q0) l0/\Sr eFd w (.slice d1 o1 q1) l1/\Sr eIs w (.slice d2 o2 q2) m0/\Sr eIs w (.slice d3 o3 q3) m1
theorem Kp.dsc (v:Value) (a b:Int) (l0 l1:List (Int×Int×Int×Int)) (m0 m1:List (Int×Int×Int)):Kp fun w=>Dsc w v a b l0 l1 m0 m1:=⟨by
 rintro w w' ⟨s1,a1,n1,g1,s2,a2,n2,g2,d0,o0,q0,d1,o1,q1,d2,o2,q2,d3,o3,q3,e,h1,h2,h3,h4,h5,h6⟩ hb;exact⟨s1,a1,n1,g1,s2,a2,n2,g2,d0,o0,q0,d1,o1,q1,d2,o2,q2,d3,o3,q3,e,h1.up hb,h2.up hb,h3.up hb,h4.up hb,h5.up hb,h6.up hb⟩⟩
structure SzF (l:List (Int×Int×Int×Int)):Prop where
 len:l.length<=549755813888
 el:∀ f∈l,sz f.1<=1000000/\sz f.2.1<=1000000/\sz f.2.2.1<=1000000/\sz f.2.2.2<=1000000
structure SzN (m:List (Int×Int×Int)):Prop where
 len:m.length<=549755813888
 el:∀ f∈m,sz f.1<=1000000 /\ -9223372036854775808<=f.2.1/\f.2.1<=9223372036854775807 /\ -9223372036854775808<=f.2.2/\f.2.2<=9223372036854775807
theorem Qbw {x:Int} (h:x.natAbs<1099511627776):sz x<=2:=Qf (Nat.lt_of_lt_of_le h (by decide))
theorem Qcl {a b:Int} (h:JA a b=0):sz a<=2/\sz b<=2/\sz (-2*a)<=2/\sz (a*a-4*b)<=2:=by
 obtain⟨-,-,h1,h2⟩:=QZ h
 have h3:a.natAbs<4194304:=by
  by_cases hc:a.natAbs<4194304
  ·exact hc
  ·have h4:4194304*4194304<=a.natAbs*a.natAbs:=Nat.mul_le_mul (by omega) (by omega);rw[<- Int.natAbs_mul] at h4;generalize a*a=q at *;omega
 exact⟨Qbw (by omega),Qbw h1,Qbw (by omega),Qbw h2⟩
theorem Qe3 (vd:Value) (a b:Int) (l0 l1:List (Int×Int×Int×Int)) (m0 m1:List (Int×Int×Int)) (w:World) (h:Dsc w vd a b l0 l1 m0 m1) (ha:sz a<=1000000) (hb:sz b<=1000000)
  (hl0:SzF l0) (hl1:SzF l1) (hm0:SzN m0) (hm1:SzN m1) :
  Calls Tryz.prog 42 #[vd] w fun e' w'=>∃ c,e'=.returned (.int .i64 c)/\ChkTo a b l0 l1 m0 m1 c/\Below w.heap.size w w':=by
 obtain⟨s1,a1,n1,g1,s2,a2,n2,g2,d0,o0,q0,d1,o1,q1,d2,o2,q2,d3,o3,q3,rfl,hA,hB,hl,hl',hm,hm'⟩:=h;obtain⟨F,hFD,kF⟩:∃ F:World->Prop,(∀ w',F w'↔(w'.heap[w.heap.size]? = some (.cells #[.bool s1,.slice a1 n1 g1,.bool s2,.slice a2 n2 g2,.slice d0 o0 q0,.slice d1 o1 q1,.slice d2 o2 q2,.slice d3 o3 q3] 87)/\(It w' (.agg #[.bool s1,.slice a1 n1 g1]) a/\It w' (.agg #[.bool s2,.slice a2 n2 g2]) b/\Sr eFd w' (.slice d0 o0 q0) l0/\Sr eFd w' (.slice d1 o1 q1) l1/\Sr eIs w' (.slice d2 o2 q2) m0/\Sr eIs w' (.slice d3 o3 q3) m1)/\Below w.heap.size w w'))/\Kp F:=⟨fun w'=>w'.heap[w.heap.size]? = some (.cells #[.bool s1,.slice a1 n1 g1,.bool s2,.slice a2 n2 g2,.slice d0 o0 q0,.slice d1 o1 q1,.slice d2 o2 q2,.slice d3 o3 q3] 87)/\(It w' (.agg #[.bool s1,.slice a1 n1 g1]) a/\It w' (.agg #[.bool s2,.slice a2 n2 g2]) b/\Sr eFd w' (.slice d0 o0 q0) l0/\Sr eFd w' (.slice d1 o1 q1) l1/\Sr eIs w' (.slice d2 o2 q2) m0/\Sr eIs w' (.slice d3 o3 q3) m1)/\Below w.heap.size w w',fun _=>Iff.rfl,kpf⟩;have HFD:=Qh hFD;clear hFD;have bn:=Qa w (.cells #[.bool s1,.slice a1 n1 g1,.bool s2,.slice a2 n2 g2,.slice d0 o0 q0,.slice d1 o1 q1,.slice d2 o2 q2,.slice d3 o3 q3] 87);have HF:Hid (F (w.alloc (.cells #[.bool s1,.slice a1 n1 g1,.bool s2,.slice a2 n2 g2,.slice d0 o0 q0,.slice d1 o1 q1,.slice d2 o2 q2,.slice d3 o3 q3] 87))):=Qh ((HFD.out _).2 ⟨heap_alloc_new _ _,⟨hA.up bn,hB.up bn,hl.up bn,hl'.up bn,hm.up bn,hm'.up bn⟩,bn⟩);have hsz:(w.alloc (.cells #[.bool s1,.slice a1 n1 g1,.bool s2,.slice a2 n2 g2,.slice d0 o0 q0,.slice d1 o1 q1,.slice d2 o2 q2,.slice d3 o3 q3] 87)).heap.size=w.heap.size+1:=by simp only[World.size_alloc]
 clear hA hB hl hl' hm hm' bn;go_enter Tryz.func42,Tryz.ntmps42
 go_upto_region 1 with fail;generalize w.alloc (.cells #[.bool s1,.slice a1 n1 g1,.bool s2,.slice a2 n2 g2,.slice d0 o0 q0,.slice d1 o1 q1,.slice d2 o2 q2,.slice d3 o3 q3] 87)=W at *;obtain⟨p0,p1,p2,p3,p4,p5,p6,p7⟩:=Yr ((HFD.out _).1 HF.out).1;go_upto_region 2 with fail
 obtain⟨G,hGD,kG,hG⟩:∃ G:World->Prop,(∀ w',G w'->F w'/\w'.heap[w.heap.size+1]? = some (.cells #[.bool s1,.slice a1 n1 g1,.bool s2,.slice a2 n2 g2] 125)/\Qx w' (.agg #[.bool s1,.slice a1 n1 g1,.bool s2,.slice a2 n2 g2]) a b)/\Kp G/\G (W.alloc (.cells #[.bool s1,.slice a1 n1 g1,.bool s2,.slice a2 n2 g2] 125)):=by
  refine⟨fun w'=>F w'/\w'.heap[w.heap.size+1]? = some (.cells #[.bool s1,.slice a1 n1 g1,.bool s2,.slice a2 n2 g2] 125)/\Qx w' (.agg #[.bool s1,.slice a1 n1 g1,.bool s2,.slice a2 n2 g2]) a b,fun _ h=>h,kF.and kpf,kF.up HF.out (Qa _ _),?_,?_⟩
  ·rw[<- hsz];exact heap_alloc_new _ _
  ·exact⟨_,_,_,_,_,_,_,_,rfl,((HFD.out _).1 HF.out).2.1.1.up (Qa _ _),((HFD.out _).1 HF.out).2.1.2.1.up (Qa _ _)⟩
 have HGD:=Qh hGD;have HG:=Qh hG;clear hGD hG p0 p1 p2 p3 p4 p5 p6 p7 HF;try rw[hsz]
 clear hsz;generalize W.alloc (.cells #[.bool s1,.slice a1 n1 g1,.bool s2,.slice a2 n2 g2] 125)=w1 at *;obtain⟨p0,p1,p2,p3⟩:=QG (HGD.out _ HG.out).2.1;go_wp2_with fail;refine(Jd _ a b w1 (HGD.out _ HG.out).2.2 ha hb).mono ?_;rintro e w2 ⟨rfl,hb2⟩;replace HG:=Qh (kG.up HG.out hb2);clear p0 p1 p2 p3 hb2;obtain⟨z,hz⟩:∃ z,JA a b=z:=⟨_,rfl⟩;rw[hz];have HZ:=Qh hz;clear hz;by_cases hz0:z=0
 ·subst hz0;obtain⟨hb0,hd0,hb1,hd1⟩:=QZ HZ.out;obtain⟨ha2,hb2,hc2,he2⟩:=Qcl HZ.out;have HD0:=Qh hd0;have HB0:=Qh hb0;obtain⟨D,hD⟩:∃ D,a*a-4*b=D:=⟨_,rfl⟩;rw[hD] at HD0 hd1 he2;have HDD:=Qh hD;clear hd0 hb0 hD;go_upto_region 5 with fail;have hS0:bc8 w2 w.heap.size (.bool s1) (.slice a1 n1 g1) (.bool s2) (.slice a2 n2 g2) (.slice d0 o0 q0) (.slice d1 o1 q1) (.slice d2 o2 q2) (.slice d3 o3 q3)/\bc4 w2 (w.heap.size+1) (.bool s1) (.slice a1 n1 g1) (.bool s2) (.slice a2 n2 g2):=⟨Yr ((HFD.out _).1 (HGD.out _ HG.out).1).1,QG (HGD.out _ HG.out).2.1⟩;refine Qc (by kernel_rfl) [] (S:=fun w'=>bc8 w' w.heap.size (.bool s1) (.slice a1 n1 g1) (.bool s2) (.slice a2 n2 g2) (.slice d0 o0 q0) (.slice d1 o1 q1) (.slice d2 o2 q2) (.slice d3 o3 q3)/\bc4 w' (w.heap.size+1) (.bool s1) (.slice a1 n1 g1) (.bool s2) (.slice a2 n2 g2)) hS0 (fun hHeld=>?_);have kS:Kp fun w'=>bc8 w' w.heap.size (.bool s1) (.slice a1 n1 g1) (.bool s2) (.slice a2 n2 g2) (.slice d0 o0 q0) (.slice d1 o1 q1) (.slice d2 o2 q2) (.slice d3 o3 q3)/\bc4 w' (w.heap.size+1) (.bool s1) (.slice a1 n1 g1) (.bool s2) (.slice a2 n2 g2):=kpf;clear hS0;replace HG:=Qh (kG.dr HG.out);generalize w2.drew=w3 at *;(refine tS 0 rfl ?_;refine tS 1 rfl ?_;refine tS 2 rfl ?_;refine tS 3 rfl ?_;refine tS 4 rfl ?_;refine tS 5 rfl ?_;refine tS 6 rfl ?_)
  (refine oL 7 rfl fun K hK=>tL ?_;go_simp);refine(Qbk _ _ _ a b l0 m0 w3 (HGD.out _ HG.out).2.2 ((HFD.out _).1 (HGD.out _ HG.out).1).2.1.2.2.1 ((HFD.out _).1 (HGD.out _ HG.out).1).2.1.2.2.2.2.1 HB0.out hb1 ha hb hl0.len hm0.len hl0.el hm0.el).mono ?_;rintro e w4 ⟨r,rfl,hr,hb3⟩;have hS2:=kS.up hHeld hb3;replace HG:=Qh (kG.up HG.out hb3);have HR:=Qh hr;clear hb3 hr;(go_wp2_with fail;clear hHeld;refine nxL hK hS2 fun hHeld=>tL ?_;clear hK);clear hS2
  cases r with
  | false =>
    (refine tS 8 rfl ?_;refine tS 9 rfl ?_)
    (refine uL 10 rfl ?_;refine uL 11 rfl ?_;refine uL 12 rfl ?_;refine uL 13 rfl ?_;refine uL 14 rfl ?_;refine uL 15 rfl ?_;refine uL 16 rfl ?_;refine uL 17 rfl ?_;refine uL 18 rfl ?_;refine uL 19 rfl ?_)
    (refine tS 20 rfl ?_)
    refine dT ?_;clear hHeld;go_wp2_with fail;go_ret
    exact⟨311,rfl,.inr (.inr ⟨HZ.out,fun h=>Bool.noConfusion (HR.out.2 h.1),rfl⟩),((HFD.out _).1 (HGD.out _ HG.out).1).2.2⟩
  | true =>
    (refine tS 8 rfl ?_;refine tS 9 rfl ?_;refine tS 10 rfl ?_;refine tS 12 rfl ?_;refine tS 13 rfl ?_;refine tS 14 rfl ?_;refine tS 15 rfl ?_;refine tS 16 rfl ?_;refine tS 17 rfl ?_)
    (refine oL 11 rfl fun K hK=>tL ?_;go_simp);refine(YX _ a b w4 (HGD.out _ HG.out).2.2 ha hb).mono ?_;rintro e w5 ⟨vo,rfl,ho,hb3⟩;rw[HDD.out] at ho;have HO:=Qh ho;have hS2:=kS.up hHeld hb3;replace HG:=Qh (kG.up HG.out hb3);clear hb3 ho;(go_wp2_with fail;clear hHeld;refine nxL hK hS2 fun hHeld=>tL ?_;clear hK);clear hS2;(refine oL 18 rfl fun K hK=>tL ?_;go_simp);refine(Qbk _ _ _ (-2*a) D l1 m1 w5 HO.out ((HFD.out _).1 (HGD.out _ HG.out).1).2.1.2.2.2.1 ((HFD.out _).1 (HGD.out _ HG.out).1).2.1.2.2.2.2.2 HD0.out hd1 (by omega) (by omega) hl1.len hm1.len hl1.el hm1.el).mono ?_;rintro e w6 ⟨r,rfl,hr,hb3⟩;have hS2:=kS.up hHeld hb3;replace HG:=Qh (kG.up HG.out hb3);rw[<- HDD.out] at hr;have HR2:=Qh hr;clear hb3 hr;(go_wp2_with fail;clear hHeld;refine nxL hK hS2 fun hHeld=>tL ?_;clear hK);clear hS2
    cases r with
    | false =>
      (refine tS 19 rfl ?_;refine tS 20 rfl ?_)
      refine dT ?_;clear hHeld;go_wp2_with fail;go_ret
      exact⟨311,rfl,.inr (.inr ⟨HZ.out,fun h=>Bool.noConfusion (HR2.out.2 h.2),rfl⟩),((HFD.out _).1 (HGD.out _ HG.out).1).2.2⟩
    | true =>
      (refine tS 19 rfl ?_;refine tS 20 rfl ?_)
      refine dT ?_;clear hHeld;go_wp2_with fail;go_ret
      exact⟨0,rfl,.inr (.inl ⟨HZ.out,⟨by first|exact HR.out|exact HR.out.1 rfl|exact HR.out.1 trivial,by first|exact HR2.out|exact HR2.out.1 rfl|exact HR2.out.1 trivial⟩,rfl⟩),((HFD.out _).1 (HGD.out _ HG.out).1).2.2⟩
 ·have hz1:(z == 0)=false:=by rw[beq_eq_false_iff_ne];exact hz0
  have HZ0:=Qh hz0;clear hz0;go_wp2_with fail;go_ret
  exact⟨z,rfl,.inl ⟨by rw[HZ.out];exact HZ0.out,HZ.out.symm⟩,((HFD.out _).1 (HGD.out _ HG.out).1).2.2⟩
theorem QjO {l:List Int} {i:Nat} (hi:i<l.length):rkG (l.take (i+1))=rkS (rkG (l.take i)) (l.getD i 0):=by
 have e:l.getD i 0=l[i]:=by rw[List.getD_eq_getElem?_getD,List.getElem?_eq_getElem hi];rfl
 rw[e,<- QiK,List.take_append_getElem hi]
theorem QhH {g:List Int} {m:Nat} (hm:m<g.length) (x:Int):g++(g.take (m+1)).map (rkM x)=g++(g.take m).map (rkM x)++[rkM x (g.getD m 0)]:=by
 have e:g.getD m 0=g[m]:=by rw[List.getD_eq_getElem?_getD,List.getElem?_eq_getElem hm];rfl
 rw[e,List.append_assoc,<- List.map_singleton,<- List.map_append,List.take_append_getElem hm]
theorem Qgc (va:Value) (l C:List Int) (n:Nat) (w:World) (ha:Sr eI w va l) (hC:Cand n C) (hn0:1<=n) (hn:n<1099511627776) (hCl:C.length<=549755813888) (hl:∀ x∈l,x∈C) (hL:l.length<=1099511627776) :
  Calls Tryz.prog 99 #[va] w fun e' w'=>e'=.returned (.int .i64 (rkF l:Int))/\Below w.heap.size w w':=by
 obtain⟨aL,cL,rfl,-⟩:=id ha;have HSM:=Qh (Ya hn0 hn (fun d hd=>((hC.2 d).1 hd).2.2));have HGC:=Qh (fun i (_:i<=l.length)=>Qdu (l:=l.take i) hC (fun x hx=>hl x (List.mem_of_mem_take hx)));have HCN:=Qh hC;have HA:=Qh ha;have HLC:=Qh hl;clear hC ha hl;go_enter Tryz.func99,Tryz.ntmps99
 go_wp2_with fail;refine(Yg 1 w (by decide) (by decide)).mono ?_;rintro e w1 ⟨v,rfl,hv,hb⟩;obtain⟨so,ao,no,co,rfl⟩:=hv.shape;have hb1:=Qa w1 (.cells #[.bool so,.slice ao no co] 33);have HS0:=Qh (So.ints1 (base:=w.heap.size) (heap_alloc_new w1 (.cells #[.bool so,.slice ao no co] 33)) hb.size (hv.up hb1));have HB0:=Qh (Bl.up hb hb1);clear hv hb hb1;go_upto_region 3 with fail;generalize w1.alloc (.cells #[.bool so,.slice ao no co] 33)=w2 at *
 go_loopw [3,5,7,8,13] (fun u3 _ _ _ s13 wr=>∃ i:Nat,s13=.int .i64 (i:Int)/\i<=l.length/\Hid (So eI wr w.heap.size u3 (rkG (l.take i)))/\Hid (Below w.heap.size w wr))
  (fun _ _ _ _ s13 _=>l.length-(intOf s13).toNat)
 case atStart=>exact⟨0,rfl,Nat.zero_le _,HS0,HB0⟩
 case round=>
  obtain⟨i,rfl,hi,HS,HB⟩:=hrel;by_cases hlt:i<l.length
  ·have i0:(0:Int)<=(i:Int):=by omega
   have i1:(i:Int)<(l.length:Int):=by omega
   obtain⟨ba,offa,rfl,-,hla⟩:=(HA.out.up HB.out).at hlt;obtain⟨sx,ax,nx,cx,p0,p1,hx⟩:=hla.int hlt;have HTK:=Qh (QjO hlt);have hGr:=HGC.out i hi;obtain⟨g,hg⟩:∃ g,rkG (l.take i)=g:=⟨_,rfl⟩;have hxC:=HLC.out _ (QD hlt 0);rw[hg] at HS HTK hGr;obtain⟨x,hxe⟩:∃ x,l.getD i 0=x:=⟨_,rfl⟩;rw[hxe] at hx HTK hxC;have HGR:=Qh hGr;have HXC:=Qh hxC;have hsx:=HSM.out x hxC;have hgl:g.length<=549755813888:=Qt (Qaf hGr.nd hGr.sub) hCl;clear hla hg hxe hGr hxC;go_upto_region 5 with fail;have bn:=Qa wr (.cells #[.bool sx,.slice ax nx cx] 33);have hX:=hx.up bn;have HBl:=Qh (Bl.up HB.out bn);have HS5:=Qh (HS.out.up bn);have HBK:=Qh (heap_alloc_new wr (.cells #[.bool sx,.slice ax nx cx] 33));obtain⟨B5,hB5⟩:∃ B,wr.heap.size=B:=⟨_,rfl⟩;rw[hB5] at HBK |-;have HSB:=Qh (show ∀ k,u3.ownBlock=some k->k<B5 from fun k hk=>by rw[<- hB5];exact(HS.out.lt k hk).2);have h5:w.heap.size<=B5:=by rw[<- hB5];exact HB.out.size
   clear bn hx p0 p1 HS HB hB5;generalize wr.alloc (.cells #[.bool sx,.slice ax nx cx] 33)=w5 at *;obtain⟨p0,p1⟩:=Qq HBK.out;have HX:=Qh hX;clear hX;go_wp2_with fail;refine(Js _ _ g x w5 HS5.out.sr HX.out (by omega) (fun y hy=>Qt (HSM.out y (HGR.out.sub y hy)) (by decide)) (by omega)).mono ?_;rintro e w6 ⟨rfl,hb⟩;have HB6:=Qh (Bl.up HBl.out hb);have HS6:=Qh (HS5.out.up hb);have HX6:=Qh (HX.out.up hb);have HK6:=Qh ((Kp.blk _ _).up HBK.out hb);clear hb HS5 HBl HX HBK p0 p1;by_cases hm:x∈g
   ·rw[decide_eq_true hm];have HSN:=Qh (show So eI w6 w.heap.size u3 (rkG (l.take (i+1))) by rw[HTK.out];unfold rkS;rw[if_pos hm];exact HS6.out);clear hm HTK HS6;go_wp2_with fail;go_roundw
    case rel=>exact⟨i+1,by go_num,by omega,HSN,HB6⟩
    case measure=>simp[intOf];omega
   ·rw[decide_eq_false hm];have HTN:=Qh (show rkG (l.take (i+1))=g++g.map (rkM x) by rw[HTK.out];unfold rkS;rw[if_neg hm]);clear hm HTK;go_wp2_with fail;refine(Qff _ g w6 HS6.out.sr (by omega)).mono ?_;rintro e w7 ⟨vC,rfl,hCo,hb⟩;obtain⟨aC,cC,rfl,-⟩:=hCo.slice;obtain⟨D,hD⟩:∃ D:Nat->Prop,∀ k,D k↔(k<w.heap.size\/k=B5\/(Value.slice aC g.length cC).ownBlock=some k):=⟨_,fun _=>Iff.rfl⟩
    obtain⟨F,hFD,kF⟩:∃ F:World->Prop,(∀ w',F w'↔(w'.heap[B5]? = some (.cells #[.bool sx,.slice ax nx cx] 33)/\It w' (.agg #[.bool sx,.slice ax nx cx]) x/\Sr eI w' (.slice aC g.length cC) g/\Below w.heap.size w w'))/\Kq D F:=⟨fun w'=>w'.heap[B5]? = some (.cells #[.bool sx,.slice ax nx cx] 33)/\It w' (.agg #[.bool sx,.slice ax nx cx]) x/\Sr eI w' (.slice aC g.length cC) g/\Below w.heap.size w w',fun _=>Iff.rfl,
     (Kq.blk _ _ ((hD _).2 (.inr (.inl rfl)))).and ((Kq.it _ _).and ((Kq.sr eI _ _ (fun k hk=>(hD k).2 (.inr (.inr hk)))).and (Kq.bl w (fun k hk=>(hD k).2 (.inl hk)))))⟩
    have HFD:=Qh hFD;have HD:=Qh hD;have HF:=Qh ((hFD w7).2 ⟨(Kp.blk _ _).up HK6.out hb,HX6.out.up hb,hCo.sr,Bl.up HB6.out hb⟩);have HS7:=Qh (HS6.out.up hb)
    have HDS:=Qh (show ∀ k,u3.ownBlock=some k->¬ D k from fun k hk hd=>by
     have hk1:=HS6.out.lt k hk;rcases (hD k).1 hd with h|h|h
     ·omega
     ·subst h;exact absurd (HSB.out _ hk) (Nat.lt_irrefl _)
     ·have:=(hCo.lt k h).1;omega)
    have HDL:=Qh (show ∀ k,D k->k<w7.heap.size from fun k hd=>by
     rcases (hD k).1 hd with h|h|h
     ·have:=(Bl.up HB6.out hb).size;omega
     ·subst h;exact(Ql ((Kp.blk _ _).up HK6.out hb)).1
     ·exact(hCo.lt k h).2)
    have hbs:=Bl.up HB6.out hb;clear hb hCo HS6 HB6 HX6 HK6 hFD hD;go_wp2_with fail
    go_loopw [3,7,8,23] (fun u3 _ _ s23 wy=>∃ m:Nat,s23=.int .i64 (m:Int)/\m<=g.length/\Hid (So eI wy w.heap.size u3 (g++(g.take m).map (rkM x)))/\Hid (∀ k,u3.ownBlock=some k->¬ D k)/\Hid (F wy)/\Hid (w7.heap.size<=wy.heap.size))
     (fun _ _ _ s23 _=>g.length-(intOf s23).toNat)
    case atStart=>exact⟨0,rfl,Nat.zero_le _,Qh (by simpa using HS7.out),HDS,HF,Qh (Nat.le_refl _)⟩
    case round=>
     clear HDS HF HS7;obtain⟨m,rfl,hm,HSo,HDS,HF,HSZ⟩:=hrel;by_cases hml:m<g.length
     ·have m0:(0:Int)<=(m:Int):=by omega
      have m1:(m:Int)<(g.length:Int):=by omega
      obtain⟨bc,offc,rfl,-,hlc⟩:=((HFD.out _).1 HF.out).2.2.1.at hml;obtain⟨sy,ay,ny,cy,p0,p1,hy⟩:=hlc.int hml;have HMT:=Qh (QhH hml x);have hyg:=QD hml 0;obtain⟨y,hye⟩:∃ y,g.getD m 0=y:=⟨_,rfl⟩;rw[hye] at hy HMT hyg;have hsy:=HSM.out y (HGR.out.sub y hyg);have hy0:=(YQ HCN.out (HGR.out.sub y hyg)).1;clear hlc hye hyg;go_upto_region 9 with fail;have bn:=Qa wr (.cells #[.bool sy,.slice ay ny cy] 33);have HF9:=Qh (kF.kp.up HF.out bn);have HY9:=Qh (hy.up bn);have HS9:=Qh (HSo.out.up bn);have HK9:=Qh (heap_alloc_new wr (.cells #[.bool sy,.slice ay ny cy] 33));replace HSZ:=Qh (Qt HSZ.out bn.size);obtain⟨B7,hB7⟩:∃ B,wr.heap.size=B:=⟨_,rfl⟩;rw[hB7] at HK9 |-;clear bn hy p0 p1 HF HSo hB7;generalize wr.alloc (.cells #[.bool sy,.slice ay ny cy] 33)=w9 at *;obtain⟨p0,p1⟩:=Qq ((HFD.out _).1 HF9.out).1;obtain⟨q0,q1⟩:=Qq HK9.out;go_wp2_with fail;refine(Qgh _ _ x y w9 ((HFD.out _).1 HF9.out).2.1 HY9.out (by omega) (by omega)).mono ?_;rintro e wa ⟨v,rfl,hgv,hb⟩;obtain⟨sg,ag,ng,cg,rfl⟩:=hgv.shape;clear p0 p1 q0 q1;go_upto_region 10 with fail;have bn:=Qa wa (.cells #[.bool sg,.slice ag ng cg] 33);replace hb:=Bl.up hb bn;obtain⟨B8,hB8⟩:∃ B,wa.heap.size=B:=⟨_,rfl⟩;obtain⟨H,hHD,kH,hH⟩:∃ H:World->Prop,(∀ w',H w'->F w'/\w'.heap[B7]? = some (.cells #[.bool sy,.slice ay ny cy] 33)/\w'.heap[B8]? = some (.cells #[.bool sg,.slice ag ng cg] 33)/\It w' (.agg #[.bool sy,.slice ay ny cy]) y/\It w' (.agg #[.bool sg,.slice ag ng cg]) (Int.gcd x y:Int)/\So eI w' w.heap.size u3 (g++(g.take m).map (rkM x)))/\Kp H/\H (wa.alloc (.cells #[.bool sg,.slice ag ng cg] 33)):=⟨fun w'=>F w'/\w'.heap[B7]? = some (.cells #[.bool sy,.slice ay ny cy] 33)/\w'.heap[B8]? = some (.cells #[.bool sg,.slice ag ng cg] 33)/\It w' (.agg #[.bool sy,.slice ay ny cy]) y/\It w' (.agg #[.bool sg,.slice ag ng cg]) (Int.gcd x y:Int)/\So eI w' w.heap.size u3 (g++(g.take m).map (rkM x)),fun _ h=>h,kF.kp.and kpf,kF.kp.up HF9.out hb,(Kp.blk _ _).up HK9.out hb,by rw[<- hB8];exact heap_alloc_new _ _,HY9.out.up hb,hgv.up bn,HS9.out.up hb⟩;replace HSZ:=Qh (Qt HSZ.out hb.size);have HHD:=Qh hHD;have HH:=Qh hH;try rw[hB8]
      clear hHD hH bn hb hgv HF9 HY9 HS9 HK9 hB8;generalize wa.alloc (.cells #[.bool sg,.slice ag ng cg] 33)=wb at *;have hS0:bc2 wb B5 (.bool sx) (.slice ax nx cx)/\bc2 wb B7 (.bool sy) (.slice ay ny cy)/\bc2 wb B8 (.bool sg) (.slice ag ng cg):=⟨Qq ((HFD.out _).1 (HHD.out _ HH.out).1).1,Qq (HHD.out _ HH.out).2.1,Qq (HHD.out _ HH.out).2.2.1⟩;have kS:Kp fun w'=>bc2 w' B5 (.bool sx) (.slice ax nx cx)/\bc2 w' B7 (.bool sy) (.slice ay ny cy)/\bc2 w' B8 (.bool sg) (.slice ag ng cg):=kpf;refine Qc (by kernel_rfl) [10] (S:=fun w'=>bc2 w' B5 (.bool sx) (.slice ax nx cx)/\bc2 w' B7 (.bool sy) (.slice ay ny cy)/\bc2 w' B8 (.bool sg) (.slice ag ng cg)) hS0 (fun hHeld=>?_);clear hS0;replace HH:=Qh (kH.dr HH.out);generalize hwc:wb.drew=wc at *;have HSZ2:=Qh (show w7.heap.size<=wc.heap.size by rw[<- hwc];exact HSZ.out);clear hwc HSZ
      have hg0:(Int.gcd x y:Int)≠0:=fun e=>by
       have:=Int.gcd_eq_zero_iff.1 (Int.natCast_eq_zero.1 e);exact hy0 this.2
      have hsg:sz (Int.gcd x y:Int)<=2:=Qt (QB (y:=y) (by
       have h1:=Nat.le_of_dvd (by omega) (Int.natAbs_dvd_natAbs.2 (Int.gcd_dvd_right x y));exact h1)) hsy
      have HRK:=Qh (show Qdl [x/(Int.gcd x y:Int),y/(Int.gcd x y:Int)]=rkM x y by rw[Qjq];rfl);obtain⟨d,hd⟩:∃ d:Int,(Int.gcd x y:Int)=d:=⟨_,rfl⟩;have HDE:=Qh hd;rw[hd] at hg0 hsg HRK;clear hd;have hG5:It wc (.agg #[.bool sg,.slice ag ng cg]) d:=by rw[<- HDE.out];exact(HHD.out _ HH.out).2.2.2.2.1
      have HG5:=Qh hG5;clear hG5;(refine tS 0 rfl ?_;refine tS 1 rfl ?_;refine tS 2 rfl ?_;refine tS 4 rfl ?_;refine tS 5 rfl ?_)
      (refine oL 3 rfl fun K hK=>tL ?_;go_simp);refine(Qch _ _ x d wc ((HFD.out _).1 (HHD.out _ HH.out).1).2.1 HG5.out hg0 (by omega) (by omega)).mono ?_;rintro e wd ⟨v,rfl,hu,hb⟩;obtain⟨su,au,nu,cu,rfl⟩:=hu.shape;have hS2:=kS.up hHeld hb;replace HH:=Qh (kH.up HH.out hb);replace HG5:=Qh (HG5.out.up hb);have HU:=Qh hu;replace HSZ2:=Qh (Qt HSZ2.out hb.size);clear hb hu;(go_wp2_with fail;clear hHeld;refine nxL hK hS2 fun hHeld=>tL ?_;clear hK);clear hS2;(refine oL 6 rfl fun K hK=>tL ?_;go_simp);refine(Qch _ _ y d wd (HHD.out _ HH.out).2.2.2.1 HG5.out hg0 (by omega) (by omega)).mono ?_;rintro e we ⟨v,rfl,hu,hb⟩;obtain⟨sv,av,nv,cv,rfl⟩:=hu.shape;have hS2:=kS.up hHeld hb;replace HH:=Qh (kH.up HH.out hb);replace HU:=Qh (HU.out.up hb);have HV:=Qh hu;replace HSZ2:=Qh (Qt HSZ2.out hb.size);clear hb hu HG5;(go_wp2_with fail;clear hHeld;refine nxL hK hS2 fun hHeld=>tL ?_;clear hK);clear hS2;(refine oL 7 rfl fun K hK=>tL ?_;go_simp);have bn:=Qa we (.cells #[.bool su,.slice au nu cu,.bool sv,.slice av nv cv] 33);have hS2:=kS.up hHeld bn;have HR2:=Qh (sr2 (p0:=(su,au,nu,cu)) (p1:=(sv,av,nv,cv)) HU.out HV.out);replace HH:=Qh (kH.up HH.out bn);replace HSZ2:=Qh (Qt HSZ2.out bn.size);clear bn HU HV;(go_wp2_with fail;clear hHeld;refine nxL hK hS2 fun hHeld=>tL ?_;clear hK);clear hS2;generalize we.alloc (.cells #[.bool su,.slice au nu cu,.bool sv,.slice av nv cv] 33)=wf at *;(refine oL 8 rfl fun K hK=>tL ?_;go_simp);refine(QR _ _ _ HR2.out (by simp) (Qjp (Qt (J9 x d) (by omega)) (Qt (J9 y d) (by omega)))).mono ?_;rintro e wg ⟨v,rfl,hu,hb⟩;obtain⟨sp,ap,np,cp,rfl⟩:=hu.shape;rw[HRK.out] at hu;have hS2:=kS.up hHeld hb;replace HH:=Qh (kH.up HH.out hb);replace HSZ2:=Qh (Qt HSZ2.out hb.size);have HU:=Qh hu;clear hb hu HR2;(go_wp2_with fail;clear hHeld;refine nxL hK hS2 fun hHeld=>tL ?_;clear hK);clear hS2;(refine oL 9 rfl fun K hK=>tL ?_;go_simp);have bn:=Qa wg (.cells #[.bool sp,.slice ap np cp] 33);have hS2:=kS.up hHeld bn;have hsc:=(So.ints1 (base:=0) (heap_alloc_new wg (.cells #[.bool sp,.slice ap np cp] 33)) (Nat.zero_le _) (HU.out.up bn)).sc;replace HH:=Qh (kH.up HH.out bn);replace HSZ2:=Qh (Qt HSZ2.out bn.size);have HSC:=Qh hsc;clear bn HU hsc;(go_wp2_with fail;clear hHeld;refine nxL hK hS2 fun hHeld=>tL ?_;clear hK);clear hS2;obtain⟨Bz,hBz⟩:∃ B,wg.heap.size=B:=⟨_,rfl⟩;try rw[hBz] at HSC |-
      clear hBz;generalize wg.alloc (.cells #[.bool sp,.slice ap np cp] 33)=wz at *;have hSo:=(HHD.out _ HH.out).2.2.2.2.2;have hbz:=((HFD.out _).1 (HHD.out _ HH.out).1).2.2.2.size
      have hln:(g++(g.take m).map (rkM x)).length+1<=1099511627776:=by
       rw[List.length_append,List.length_map,List.length_take];omega
      obtain⟨LL,hLL⟩:∃ LL,g++(g.take m).map (rkM x)=LL:=⟨_,rfl⟩;rw[hLL] at hSo hln HMT;refine QS (i:=10) (by as_aux_lemma=>kernel_rfl) rfl (fun K hK=>?_);refine YI (E:=eI) (by rfl) (.tmp 30) (.tmp 39) _ (by rfl) Tryz.underlying46 w.heap.size _ LL [rkM x y] (by rfl) hSo hbz Bz 0 1 1 (by rfl) rfl HSC.out (by decide) hln ?_;intro g8 cap8 w8 h8 hb8 hg8;have hF8:=kF.fr (HHD.out _ HH.out).1 hb8 (fun k hk=>hSo.nw k hk) (fun k hd hk=>HDS.out k hk hd);have HF8:=Qh hF8;rw[<- HMT.out] at h8;have HS8:=Qh h8
      have HD8:=Qh (show ∀ k,(Value.slice (some ⟨g8,0,none⟩) (LL.length+1) cap8).ownBlock=some k->¬ D k from fun k hk hd=>by
       have e8:g8=k:=by simpa [Value.ownBlock] using hk
       rw[e8] at hg8;rcases hg8 with h|h
       ·exact HDS.out k h hd
       ·have h1:=HDL.out k hd;have h2:=HSZ2.out;omega)
      have HSZ8:=Qh (Qt HSZ2.out hb8.size);clear hF8 h8 hb8 hg8 hSo hbz hln hLL HDS HSC HMT;refine hK.out _ _ nzz ?_;clear hK hHeld;refine tL ?_;(refine oL 11 rfl fun K hK=>tL ?_;go_simp);(go_wp2_with fail;refine xL hK (tL ?_);clear hK);refine dT ?_;clear HH HHD kH kS;go_wp2_with fail;go_roundw
      case rel=>exact⟨m+1,by go_num,by omega,HS8,HD8,HF8,HSZ8⟩
      case measure=>simp[intOf];omega
     ·have hme:m=g.length:=by omega
      subst hme;have HSN:=Qh (show So eI wr w.heap.size u3 (rkG (l.take (i+1))) by rw[HTN.out];have:=HSo.out;rwa [List.take_length] at this);have HBN:=Qh ((HFD.out _).1 HF.out).2.2.2;clear HSo HF HTN;go_wp2_with fail;go_roundw
      case rel=>exact⟨i+1,by go_num,by omega,HSN,HBN⟩
      case measure=>simp[intOf];omega
  ·have hil:i=l.length:=by omega
   subst hil;have hGr:=HGC.out l.length (Nat.le_refl _);rw[List.take_length] at HS hGr;have hgl:(rkG l).length<=549755813888:=Qt (Qaf hGr.nd hGr.sub) hCl;obtain⟨aG,cG,rfl,-⟩:=HS.out.slice;have HRF:=Qh (show ((rkF l:Nat):Int)=((Nat.log2 ((rkG l).length:Int).toNat:Nat):Int) by rw[Int.toNat_natCast];rfl);obtain⟨N,hN⟩:∃ N,(rkG l).length=N:=⟨_,rfl⟩;rw[hN] at hgl HRF |-;clear hGr hN;go_wp2_with fail;refine(QeL (N:Int) wr (by omega) (by omega)).mono ?_;rintro e w9 ⟨rfl,rfl⟩;go_wp2_with fail;go_ret
   exact⟨by rw[HRF.out];rfl,HB.out⟩
theorem Qig {P:Nat->Prop}:∀ (n:Nat),P n->∃ p,P p/\∀ q,P q->p<=q:=fun n=>by
 induction n using Nat.strongRecOn with
 | ind n ih =>
   intro hn;by_cases h:∃ m,m<n/\P m
   ·obtain⟨m,hm,hP⟩:=h;exact ih m hm hP
   ·exact⟨n,hn,fun q hq=>(Nat.lt_or_ge q n).elim (fun hl=>absurd ⟨q,hl,hq⟩ h) id⟩
theorem Qh2 {p:Nat} (hp:2<=p):∀ (n:Nat),1<=n->∃ k m,n=p ^ k*m/\¬ p∣m/\1<=m:=fun n=>by
 induction n using Nat.strongRecOn with
 | ind n ih =>
   intro hn;by_cases h:p∣n
   ·obtain⟨c,rfl⟩:=h;have hc:1<=c:=Nat.pos_of_ne_zero fun e=>by subst e;simp at hn
    have hlt:c<p*c:=by
     have:=Nat.mul_le_mul_right c hp;omega
    obtain⟨k,m,e,h1,h2⟩:=ih c hlt hc;exact⟨k+1,m,by rw[e,Nat.pow_succ,Nat.mul_comm (p ^ k) p,Nat.mul_assoc],h1,h2⟩
   ·exact⟨0,n,by simp,h,hn⟩
theorem Qkd:∀ (n:Nat),1<=n->∃ P,Facs n P:=fun n=>by
 induction n using Nat.strongRecOn with
 | ind n ih =>
   intro hn;by_cases h1:n=1
   ·exact⟨[],And.intro (fun x hx=>absurd hx List.not_mem_nil) (And.intro List.Pairwise.nil (by subst h1;rfl))⟩
   ·obtain⟨q,hq⟩:=QN (show 2<=n by omega);obtain⟨p,⟨hp,hd⟩,hmin⟩:=Qig (P:=fun p=>Pri p/\p∣n) q hq;obtain⟨k,m,e,hm,hm1⟩:=Qh2 hp.1 n hn
    have hk:1<=k:=Nat.pos_of_ne_zero fun e0=>by
     subst e0;rw[Nat.pow_zero,Nat.one_mul] at e;exact hm (e▸hd)
    have hlt:m<n:=by
     have h2:p ^ 1<=p ^ k:=Nat.pow_le_pow_right (by have:=hp.1;omega) hk;have h3:=Nat.mul_le_mul_right m h2;have h4:=Nat.mul_le_mul_right m hp.1;rw[<- e,Nat.pow_one] at h3;omega
    obtain⟨P,hP⟩:=ih m hlt hm1;refine⟨(p,k) :: P,And.intro (fun x hx=>?_) (And.intro (List.pairwise_cons.2 ⟨fun x hx=>?_,hP.2.1⟩) ?_)⟩
    ·rcases List.mem_cons.1 hx with rfl|hx
     ·exact⟨hp,hk⟩
     ·exact hP.1 x hx
    ·have h2:=(hP.prs.2 x.1).1 (List.mem_map.2 ⟨x,hx,rfl⟩);have h3:=hmin x.1 ⟨h2.1,e▸Nat.dvd_trans h2.2 (Nat.dvd_mul_left _ _)⟩;have h4:p≠x.1:=fun e2=>hm (e2▸h2.2);show p<x.1
     omega
    ·rw[e,hP.2.2];simp[pk]
theorem Yt {n:Nat} {C:List Int} (hC:Cand n C) (h1:1<=n) (h2:n<1099511627776):C.length<=67108864:=by
 obtain⟨P,hP⟩:=Qkd n h1;have h3:=hP.few h2;have hnd:C.Nodup:=hC.1.imp (fun h e=>by omega)
 have h4:=Qaf (m:=glI 1 (ks P)) hnd (fun d hd=>by
  obtain⟨d1,d2,d3⟩:=(hC.2 d).1 hd;exact QcK.2 ((Qam (fun p hp=>((hP.prs.2 p).1 hp).1) hP.nodup _).2 ⟨d1,d2,fun q hq hqd=>(hP.prs.2 q).2 ⟨hq,Nat.dvd_trans hqd d3⟩⟩))
 rw[QbW] at h4;have h5:(ks P).length=P.length:=by simp[ks]
 rw[h5] at h4;have h6:2 ^ P.length<=2 ^ 25:=Nat.pow_le_pow_right (by decide) h3;have h7:(2:Nat) ^ 25=33554432:=by decide
 omega
theorem FrZ.mem {n f:Int} {C:List Int} (h:FrZ n f) (hC:Cand n.natAbs C):f∈C:=by
 obtain⟨h1,-,h3⟩:=h;exact(hC.2 f).2 ⟨by omega,h1.1,h1.dvd⟩
theorem Qgi {n:Int} (h:n≠0):∃ f,FrZ n f:=by
 obtain⟨f,hf⟩:=Qin n.natAbs (by omega);have h1:=hf.2.1;by_cases hn:0<n
 ·exact⟨(f:Int),by simpa using hf,⟨fun _=>by omega,fun _=>hn⟩,by omega⟩
 ·exact⟨-(f:Int),by simpa using hf,⟨fun h=>absurd h hn,fun h=>by omega⟩,by omega⟩
theorem QgN {a b:Int} {l:List (Int×Int×Int×Int)} {m:List (Int×Int×Int)} (h:Qhz a b l m):∃ C,Cand b.natAbs C/\(∀ q∈l,q.1∈C)/\∀ q∈m,q.1∈C:=by
 obtain⟨C,hC,h1,h2⟩:=h;refine⟨C,hC,fun q hq=>?_,fun q hq=>?_⟩
 ·obtain⟨i,hi,e⟩:=List.mem_iff_getElem.1 hq;have:=(h1 i hi).2.1;rwa [List.getD_eq_getElem?_getD,List.getElem?_eq_getElem hi,e] at this
 ·obtain⟨i,hi,e⟩:=List.mem_iff_getElem.1 hq;have:=(h2 i hi).2.1;rwa [List.getD_eq_getElem?_getD,List.getElem?_eq_getElem hi,e] at this
