/-
  Every number has a factorization; a number below 2^40 has few candidates.
-/
import Derived.Test.YteidokhjmbihlaaGreatDL
import Derived.Test.YteidokhjmbihlaaGreatFG1
set_option linter.all false
set_option maxRecDepth 100000
set_option maxHeartbeats 4000000
namespace Go.Proofs.YteidokhjmbihlaaGreat
open Go.RowKit
attribute [local go_sem ↓] Go.wp_at_zero Go.wp_at_succ
def Dsc (w:World) (v:Value) (a b:Int) (l0 l1:List (Int×Int×Int×Int)) (m0 m1:List (Int×Int×Int)):Prop:=∃ s1 a1 n1 g1 s2 a2 n2 g2 d0 o0 q0 d1 o1 q1 d2 o2 q2 d3 o3 q3,v=.agg #[.bool s1,.slice a1 n1 g1,.bool s2,.slice a2 n2 g2,.slice d0 o0 q0,.slice d1 o1 q1,.slice d2 o2 q2,.slice d3 o3 q3] /\
 It w (Qlv s1 a1 n1 g1) a/\It w (Qlv s2 a2 n2 g2) b/\Sr eFd w (.slice d0 o0 q0) l0/\Sr eFd w (.slice d1 o1 q1) l1/\Sr eIs w (.slice d2 o2 q2) m0/\Sr eIs w (.slice d3 o3 q3) m1
theorem Kp.dsc (v:Value) (a b:Int) (l0 l1:List (Int×Int×Int×Int)) (m0 m1:List (Int×Int×Int)):Kp fun w=>Dsc w v a b l0 l1 m0 m1:=⟨by
 rintro w w' ⟨s1,a1,n1,g1,s2,a2,n2,g2,d0,o0,q0,d1,o1,q1,d2,o2,q2,d3,o3,q3,e,h1,h2,h3,h4,h5,h6⟩ hb;exact⟨s1,a1,n1,g1,s2,a2,n2,g2,d0,o0,q0,d1,o1,q1,d2,o2,q2,d3,o3,q3,e,h1.up hb,h2.up hb,h3.up hb,h4.up hb,h5.up hb,h6.up hb⟩⟩
structure SzF (l:List (Int×Int×Int×Int)):Prop where
 len:l.length<=549755813888
 el:∀ f∈l,sz f.1<=1000000/\sz f.2.1<=1000000/\sz f.2.2.1<=1000000/\sz f.2.2.2<=1000000
structure SzN (m:List (Int×Int×Int)):Prop where
 len:m.length<=549755813888
 el:∀ f∈m,sz f.1<=1000000 /\ -9223372036854775808<=f.2.1/\f.2.1<=9223372036854775807 /\ -9223372036854775808<=f.2.2/\f.2.2<=9223372036854775807
theorem J2 {x:Int} (h:x.natAbs<1099511627776):sz x<=2:=Qf (Nat.lt_of_lt_of_le h (by decide))
theorem J3 {a b:Int} (h:Yy a b=0):sz a<=2/\sz b<=2/\sz (-2*a)<=2/\sz (a*a-4*b)<=2:=by
 obtain⟨-,-,h1,h2⟩:=Yj h
 have h3:a.natAbs<4194304:=by
  by_cases hc:a.natAbs<4194304
  ·exact hc
  ·have h4:4194304*4194304<=a.natAbs*a.natAbs:=Nat.mul_le_mul (by omega) (by omega);rw[<- Int.natAbs_mul] at h4;generalize a*a=q at *;omega
 exact⟨J2 (by omega),J2 h1,J2 (by omega),J2 h2⟩
theorem Qdz (vd:Value) (a b:Int) (l0 l1:List (Int×Int×Int×Int)) (m0 m1:List (Int×Int×Int)) (w:World) (h:Dsc w vd a b l0 l1 m0 m1) (ha:sz a<=1000000) (hb:sz b<=1000000)
  (hl0:SzF l0) (hl1:SzF l1) (hm0:SzN m0) (hm1:SzN m1) :
  Calls Tryz.prog 42 #[vd] w fun e' w'=>∃ c,e'=.returned (.int .i64 c)/\ChkTo a b l0 l1 m0 m1 c/\Below w.heap.size w w':=by
 obtain⟨s1,a1,n1,g1,s2,a2,n2,g2,d0,o0,q0,d1,o1,q1,d2,o2,q2,d3,o3,q3,rfl,hA,hB,hl,aI,hm,aH⟩:=h;obtain⟨F,aO,kF⟩:=kpe (fun w'=>w'.heap[w.heap.size]? = some (Qlz 87 s1 a1 n1 g1 s2 a2 n2 g2 d0 o0 q0 d1 o1 q1 d2 o2 q2 d3 o3 q3)/\(It w' (Qlv s1 a1 n1 g1) a/\It w' (Qlv s2 a2 n2 g2) b/\Sr eFd w' (.slice d0 o0 q0) l0/\Sr eFd w' (.slice d1 o1 q1) l1/\Sr eIs w' (.slice d2 o2 q2) m0/\Sr eIs w' (.slice d3 o3 q3) m1)/\Below w.heap.size w w');have aC:=Qh aO;clear aO;have bn:=Qc w (Qlz 87 s1 a1 n1 g1 s2 a2 n2 g2 d0 o0 q0 d1 o1 q1 d2 o2 q2 d3 o3 q3);have HF:Hid (F (w.alloc (Qlz 87 s1 a1 n1 g1 s2 a2 n2 g2 d0 o0 q0 d1 o1 q1 d2 o2 q2 d3 o3 q3))):=Qh ((aC.out _).2 ⟨Zk1 _ _,⟨hA.up bn,hB.up bn,hl.up bn,aI.up bn,hm.up bn,aH.up bn⟩,bn⟩);have aG:(w.alloc (Qlz 87 s1 a1 n1 g1 s2 a2 n2 g2 d0 o0 q0 d1 o1 q1 d2 o2 q2 d3 o3 q3)).heap.size=w.heap.size+1:=by simp only[Zk2]
 clear hA hB hl aI hm aH bn;go_enter Tryz.func42,Tryz.ntmps42
 go_upto_region 1 with fail;generalize w.alloc (Qlz 87 s1 a1 n1 g1 s2 a2 n2 g2 d0 o0 q0 d1 o1 q1 d2 o2 q2 d3 o3 q3)=W at *;obtain⟨p0,p1,p2,p3,p4,p5,p6,p7⟩:=QbM ((aC.out _).1 HF.out).1;go_upto_region 2 with fail
 obtain⟨G,aM,kG,hG⟩:∃ G:World->Prop,(∀ w',G w'->F w'/\w'.heap[w.heap.size+1]? = some (Qls 125 s1 a1 n1 g1 s2 a2 n2 g2)/\Qx w' (Qlw s1 a1 n1 g1 s2 a2 n2 g2) a b)/\Kp G/\G (W.alloc (Qls 125 s1 a1 n1 g1 s2 a2 n2 g2)):=by
  refine⟨fun w'=>F w'/\w'.heap[w.heap.size+1]? = some (Qls 125 s1 a1 n1 g1 s2 a2 n2 g2)/\Qx w' (Qlw s1 a1 n1 g1 s2 a2 n2 g2) a b,fun _ h=>h,kF.and kpf,kF.up HF.out (Qc _ _),?_,?_⟩
  ·rw[<- aG];exact Zk1 _ _
  ·exact⟨_,_,_,_,_,_,_,_,rfl,((aC.out _).1 HF.out).2.1.1.up (Qc _ _),((aC.out _).1 HF.out).2.1.2.1.up (Qc _ _)⟩
 have aB:=Qh aM;have HG:=Qh hG;clear aM hG p0 p1 p2 p3 p4 p5 p6 p7 HF;try rw[aG]
 clear aG;generalize W.alloc (Qls 125 s1 a1 n1 g1 s2 a2 n2 g2)=w1 at *;obtain⟨p0,p1,p2,p3⟩:=Qa3 (aB.out _ HG.out).2.1;go_wp2_with fail;refine mz (QbD _ a b w1 (aB.out _ HG.out).2.2 ha hb) fun w2 hb2=>?_;replace HG:=hu hb2 HG;clear p0 p1 p2 p3 hb2;obtain⟨z,hz⟩:∃ z,Yy a b=z:=⟨_,rfl⟩;rw[hz];have HZ:=Qh hz;clear hz;by_cases hz0:z=0
 ·subst hz0;obtain⟨aL,aK,aS,aJ⟩:=Yj HZ.out;obtain⟨aX,hb2,aW,aR⟩:=J3 HZ.out;have aQ:=Qh aK;have aU:=Qh aL;obtain⟨D,hD⟩:∃ D,a*a-4*b=D:=⟨_,rfl⟩;rw[hD] at aQ aJ aR;have aP:=Qh hD;clear aK aL hD;go_upto_region 5 with fail;refine QaT (by kernel_rfl) [] (S:=fun w'=>bc8 w' w.heap.size (.bool s1) (.slice a1 n1 g1) (.bool s2) (.slice a2 n2 g2) (.slice d0 o0 q0) (.slice d1 o1 q1) (.slice d2 o2 q2) (.slice d3 o3 q3)/\Qmb w' (w.heap.size+1) s1 a1 n1 g1 s2 a2 n2 g2) ⟨QbM ((aC.out _).1 (aB.out _ HG.out).1).1,Qa3 (aB.out _ HG.out).2.1⟩ (fun aA=>?_);replace HG:=Qh (kG.dr HG.out);generalize w2.drew=w3 at *;(refine tS 0 rfl ?_;refine tS 1 rfl ?_;refine tS 2 rfl ?_;refine tS 3 rfl ?_;refine tS 4 rfl ?_;refine tS 5 rfl ?_;refine tS 6 rfl ?_)
  (refine oL 7 rfl fun K hK=>tL ?_;go_simp);refine(Qdw _ _ _ a b l0 m0 w3 (aB.out _ HG.out).2.2 ((aC.out _).1 (aB.out _ HG.out).1).2.1.2.2.1 ((aC.out _).1 (aB.out _ HG.out).1).2.1.2.2.2.2.1 aU.out aS ha hb hl0.len hm0.len hl0.el hm0.el).mono ?_;rintro e w4 ⟨r,rfl,hr,aD⟩;have aE:=nu aD aA;replace HG:=hu aD HG;have HR:=Qh hr;clear aD hr;(go_wp2_with fail;clear aA;refine nxL hK aE fun aA=>tL ?_;clear hK);clear aE
  cases r with
  | false =>
    (refine tS 8 rfl ?_;refine tS 9 rfl ?_)
    (refine uL 10 rfl ?_;refine uL 11 rfl ?_;refine uL 12 rfl ?_;refine uL 13 rfl ?_;refine uL 14 rfl ?_;refine uL 15 rfl ?_;refine uL 16 rfl ?_;refine uL 17 rfl ?_;refine uL 18 rfl ?_;refine uL 19 rfl ?_)
    (refine tS 20 rfl ?_)
    refine dT ?_;clear aA;go_wp2_with fail;go_ret
    exact⟨311,rfl,.inr (.inr ⟨HZ.out,fun h=>Bool.noConfusion (HR.out.2 h.1),rfl⟩),((aC.out _).1 (aB.out _ HG.out).1).2.2⟩
  | true =>
    (refine tS 8 rfl ?_;refine tS 9 rfl ?_;refine tS 10 rfl ?_;refine tS 12 rfl ?_;refine tS 13 rfl ?_;refine tS 14 rfl ?_;refine tS 15 rfl ?_;refine tS 16 rfl ?_;refine tS 17 rfl ?_)
    (refine oL 11 rfl fun K hK=>tL ?_;go_simp);refine(QbT _ a b w4 (aB.out _ HG.out).2.2 ha hb).mono ?_;rintro e w5 ⟨vo,rfl,ho,aD⟩;rw[aP.out] at ho;have HO:=Qh ho;have aE:=nu aD aA;replace HG:=hu aD HG;clear aD ho;(go_wp2_with fail;clear aA;refine nxL hK aE fun aA=>tL ?_;clear hK);clear aE;(refine oL 18 rfl fun K hK=>tL ?_;go_simp);refine(Qdw _ _ _ (-2*a) D l1 m1 w5 HO.out ((aC.out _).1 (aB.out _ HG.out).1).2.1.2.2.2.1 ((aC.out _).1 (aB.out _ HG.out).1).2.1.2.2.2.2.2 aQ.out aJ (by omega) (by omega) hl1.len hm1.len hl1.el hm1.el).mono ?_;rintro e w6 ⟨r,rfl,hr,aD⟩;have aE:=nu aD aA;replace HG:=hu aD HG;rw[<- aP.out] at hr;have aF:=Qh hr;clear aD hr;(go_wp2_with fail;clear aA;refine nxL hK aE fun aA=>tL ?_;clear hK);clear aE
    cases r with
    | false =>
      (refine tS 19 rfl ?_;refine tS 20 rfl ?_)
      refine dT ?_;clear aA;go_wp2_with fail;go_ret
      exact⟨311,rfl,.inr (.inr ⟨HZ.out,fun h=>Bool.noConfusion (aF.out.2 h.2),rfl⟩),((aC.out _).1 (aB.out _ HG.out).1).2.2⟩
    | true =>
      (refine tS 19 rfl ?_;refine tS 20 rfl ?_)
      refine dT ?_;clear aA;go_wp2_with fail;go_ret
      exact⟨0,rfl,.inr (.inl ⟨HZ.out,⟨by first|exact HR.out|exact HR.out.1 rfl|exact HR.out.1 trivial,by first|exact aF.out|exact aF.out.1 rfl|exact aF.out.1 trivial⟩,rfl⟩),((aC.out _).1 (aB.out _ HG.out).1).2.2⟩
 ·have aV:(z == 0)=false:=by rw[beq_eq_false_iff_ne];exact hz0
  have aT:=Qh hz0;clear hz0;go_wp2_with fail;go_ret
  exact⟨z,rfl,.inl ⟨by rw[HZ.out];exact aT.out,HZ.out.symm⟩,((aC.out _).1 (aB.out _ HG.out).1).2.2⟩
theorem QjU {l:List Int} {i:Nat} (hi:i<l.length):rkG (l.take (i+1))=rkS (rkG (l.take i)) (l.getD i 0):=by
 have e:l.getD i 0=l[i]:=by rw[Zk3,Zk4 hi];rfl
 rw[e,<- QiJ,List.take_append_getElem hi]
theorem Qit {g:List Int} {m:Nat} (hm:m<g.length) (x:Int):g++(g.take (m+1)).map (rkM x)=g++(g.take m).map (rkM x)++[rkM x (g.getD m 0)]:=by
 have e:g.getD m 0=g[m]:=by rw[Zk3,Zk4 hm];rfl
 rw[e,List.append_assoc,<- List.map_singleton,<- List.map_append,List.take_append_getElem hm]
theorem QgV (va:Value) (l C:List Int) (n:Nat) (w:World) (ha:Sr eI w va l) (hC:Cand n C) (hn0:1<=n) (hn:n<1099511627776) (hCl:C.length<=549755813888) (hl:∀ x∈l,x∈C) (hL:l.length<=1099511627776) :
  Calls Tryz.prog 99 #[va] w fun e' w'=>e'=.returned (.int .i64 (rkF l:Int))/\Below w.heap.size w w':=by
 obtain⟨aL,cL,rfl,-⟩:=id ha;have bB:=Qh (QZ hn0 hn (fun d hd=>((hC.2 d).1 hd).2.2));have b0:=Qh (fun i (_:i<=l.length)=>QeY (l:=l.take i) hC (fun x hx=>hl x (List.mem_of_mem_take hx)));have cM:=Qh hC;have HA:=Qh ha;have cF:=Qh hl;clear hC ha hl;go_enter Tryz.func99,Tryz.ntmps99
 go_wp2_with fail;refine mn (Qbi 1 w (by decide) (by decide)) fun v w1 hv hb=>?_;obtain⟨so,ao,no,co,rfl⟩:=hv.shape;have a4:=Qc w1 (Qlr 33 so ao no co);have cE:=Qh (So.ints1 (base:=w.heap.size) (Zk1 w1 (Qlr 33 so ao no co)) hb.size (hv.up a4));have cO:=Qh (Bl.up hb a4);clear hv hb a4;go_upto_region 3 with fail;generalize w1.alloc (Qlr 33 so ao no co)=w2 at *
 go_loopw [3,5,7,8,13] (fun u3 _ _ _ s13 wr=>∃ i:Nat,s13=.int .i64 (i:Int)/\i<=l.length/\Hid (So eI wr w.heap.size u3 (rkG (l.take i)))/\Hid (Below w.heap.size w wr))
  (fun _ _ _ _ s13 _=>l.length-(intOf s13).toNat)
 case atStart=>exact⟨0,rfl,Nat.zero_le _,cE,cO⟩
 case round=>
  obtain⟨i,rfl,hi,HS,HB⟩:=hrel;by_cases hlt:i<l.length
  ·have i0:(0:Int)<=(i:Int):=by omega
   have i1:(i:Int)<(l.length:Int):=by omega
   obtain⟨ba,b3,rfl,-,bK⟩:=(HA.out.up HB.out).at hlt;obtain⟨sx,ax,nx,cx,p0,p1,hx⟩:=bK.int hlt;have aI:=Qh (QjU hlt);have aE:=b0.out i hi;obtain⟨g,hg⟩:∃ g,rkG (l.take i)=g:=⟨_,rfl⟩;have aS:=cF.out _ (Ji hlt 0);rw[hg] at HS aI aE;obtain⟨x,bH⟩:∃ x,l.getD i 0=x:=⟨_,rfl⟩;rw[bH] at hx aI aS;have bF:=Qh aE;have cS:=Qh aS;have cP:=bB.out x aS;have bL:g.length<=549755813888:=Qt (JM aE.nd aE.sub) hCl;clear bK hg bH aE aS;go_upto_region 5 with fail;have bn:=Qc wr (Qlr 33 sx ax nx cx);have hX:=hx.up bn;have b1:=Qh (Bl.up HB.out bn);have bD:=Qh (HS.out.up bn);have aZ:=Qh (Zk1 wr (Qlr 33 sx ax nx cx));obtain⟨B5,aU⟩:∃ B,wr.heap.size=B:=⟨_,rfl⟩;rw[aU] at aZ |-;have b9:=Qh (show ∀ k,u3.ownBlock=some k->k<B5 from fun k hk=>by rw[<- aU];exact(HS.out.lt k hk).2);have h5:w.heap.size<=B5:=by rw[<- aU];exact HB.out.size
   clear bn hx p0 p1 HS HB aU;generalize wr.alloc (Qlr 33 sx ax nx cx)=w5 at *;obtain⟨p0,p1⟩:=Qa1 aZ.out;have HX:=Qh hX;clear hX;go_wp2_with fail;refine mz (QcO _ _ g x w5 bD.out.sr HX.out (by omega) (fun y hy=>Qt (bB.out y (bF.out.sub y hy)) (by decide)) (by omega)) fun w6 hb=>?_;have aQ:=Qh (Bl.up b1.out hb);have aK:=Qh (bD.out.up hb);have bT:=Qh (HX.out.up hb);have bE:=Qh ((Kp.blk _ _).up aZ.out hb);clear hb bD b1 HX aZ p0 p1;by_cases hm:x∈g
   ·rw[decide_eq_true hm];have bA:=Qh (show So eI w6 w.heap.size u3 (rkG (l.take (i+1))) by rw[aI.out];unfold rkS;rw[if_pos hm];exact aK.out);clear hm aI aK;go_wp2_with fail;go_roundw
    case rel=>exact⟨i+1,by go_num,by omega,bA,aQ⟩
    case measure=>simp[intOf];omega
   ·rw[decide_eq_false hm];have bU:=Qh (show rkG (l.take (i+1))=g++g.map (rkM x) by rw[aI.out];unfold rkS;rw[if_neg hm]);clear hm aI;go_wp2_with fail;refine(Qgq _ g w6 aK.out.sr (by omega)).mono ?_;rintro e w7 ⟨vC,rfl,aO,hb⟩;obtain⟨aC,cC,rfl,-⟩:=aO.slice;obtain⟨D,hD⟩:∃ D:Nat->Prop,∀ k,D k↔(k<w.heap.size\/k=B5\/(Value.slice aC g.length cC).ownBlock=some k):=⟨_,fun _=>Iff.rfl⟩
    obtain⟨F,a5,kF⟩:∃ F:World->Prop,(∀ w',F w'↔(w'.heap[B5]? = some (Qlr 33 sx ax nx cx)/\It w' (Qlv sx ax nx cx) x/\Sr eI w' (.slice aC g.length cC) g/\Below w.heap.size w w'))/\Kq D F:=⟨fun w'=>w'.heap[B5]? = some (Qlr 33 sx ax nx cx)/\It w' (Qlv sx ax nx cx) x/\Sr eI w' (.slice aC g.length cC) g/\Below w.heap.size w w',fun _=>Iff.rfl,
     (Kq.blk _ _ ((hD _).2 (.inr (.inl rfl)))).and ((Kq.it _ _).and ((Kq.sr eI _ _ (fun k hk=>(hD k).2 (.inr (.inr hk)))).and (Kq.bl w (fun k hk=>(hD k).2 (.inl hk)))))⟩
    have aH:=Qh a5;have HD:=Qh hD;have HF:=Qh ((a5 w7).2 ⟨(Kp.blk _ _).up bE.out hb,bT.out.up hb,aO.sr,Bl.up aQ.out hb⟩);have bW:=Qh (aK.out.up hb)
    have aM:=Qh (show ∀ k,u3.ownBlock=some k->¬ D k from fun k hk hd=>by
     have cQ:=aK.out.lt k hk;rcases (hD k).1 hd with h|h|h
     ·omega
     ·subst h;exact absurd (b9.out _ hk) (Nat.lt_irrefl _)
     ·have:=(aO.lt k h).1;omega)
    have cI:=Qh (show ∀ k,D k->k<w7.heap.size from fun k hd=>by
     rcases (hD k).1 hd with h|h|h
     ·have:=(Bl.up aQ.out hb).size;omega
     ·subst h;exact(Ql ((Kp.blk _ _).up bE.out hb)).1
     ·exact(aO.lt k h).2)
    have cR:=Bl.up aQ.out hb;clear hb aO aK aQ bT bE a5 hD;go_wp2_with fail
    go_loopw [3,7,8,23] (fun u3 _ _ s23 wy=>∃ m:Nat,s23=.int .i64 (m:Int)/\m<=g.length/\Hid (So eI wy w.heap.size u3 (g++(g.take m).map (rkM x)))/\Hid (∀ k,u3.ownBlock=some k->¬ D k)/\Hid (F wy)/\Hid (w7.heap.size<=wy.heap.size))
     (fun _ _ _ s23 _=>g.length-(intOf s23).toNat)
    case atStart=>exact⟨0,rfl,Nat.zero_le _,Qh (by simpa using bW.out),aM,HF,Qh (Nat.le_refl _)⟩
    case round=>
     clear aM HF bW;obtain⟨m,rfl,hm,aV,aM,HF,aJ⟩:=hrel;by_cases hml:m<g.length
     ·have m0:(0:Int)<=(m:Int):=by omega
      have m1:(m:Int)<(g.length:Int):=by omega
      obtain⟨bc,b2,rfl,-,bJ⟩:=((aH.out _).1 HF.out).2.2.1.at hml;obtain⟨sy,ay,ny,cy,p0,p1,hy⟩:=bJ.int hml;have aW:=Qh (Qit hml x);have aR:=Ji hml 0;obtain⟨y,bG⟩:∃ y,g.getD m 0=y:=⟨_,rfl⟩;rw[bG] at hy aW aR;have b5:=bB.out y (bF.out.sub y aR);have b4:=(Yf cM.out (bF.out.sub y aR)).1;clear bJ bG aR;go_upto_region 9 with fail;have bn:=Qc wr (Qlr 33 sy ay ny cy);have aY:=Qh (kF.kp.up HF.out bn);have a8:=Qh (hy.up bn);have bV:=Qh (aV.out.up bn);have aX:=Qh (Zk1 wr (Qlr 33 sy ay ny cy));replace aJ:=Qh (Qt aJ.out bn.size);obtain⟨B7,bS⟩:∃ B,wr.heap.size=B:=⟨_,rfl⟩;rw[bS] at aX |-;clear bn hy p0 p1 HF aV bS;generalize wr.alloc (Qlr 33 sy ay ny cy)=w9 at *;obtain⟨p0,p1⟩:=Qa1 ((aH.out _).1 aY.out).1;obtain⟨q0,q1⟩:=Qa1 aX.out;go_wp2_with fail;refine mn (QdZ _ _ x y w9 ((aH.out _).1 aY.out).2.1 a8.out (by omega) (by omega)) fun v wa hgv hb=>?_;obtain⟨sg,ag,ng,cg,rfl⟩:=hgv.shape;clear p0 p1 q0 q1;go_upto_region 10 with fail;have bn:=Qc wa (Qlr 33 sg ag ng cg);replace hb:=Bl.up hb bn;obtain⟨B8,a6⟩:∃ B,wa.heap.size=B:=⟨_,rfl⟩;obtain⟨H,bO,kH,hH⟩:∃ H:World->Prop,(∀ w',H w'->F w'/\w'.heap[B7]? = some (Qlr 33 sy ay ny cy)/\w'.heap[B8]? = some (Qlr 33 sg ag ng cg)/\It w' (Qlv sy ay ny cy) y/\It w' (Qlv sg ag ng cg) (Int.gcd x y:Int)/\So eI w' w.heap.size u3 (g++(g.take m).map (rkM x)))/\Kp H/\H (wa.alloc (Qlr 33 sg ag ng cg)):=⟨fun w'=>F w'/\w'.heap[B7]? = some (Qlr 33 sy ay ny cy)/\w'.heap[B8]? = some (Qlr 33 sg ag ng cg)/\It w' (Qlv sy ay ny cy) y/\It w' (Qlv sg ag ng cg) (Int.gcd x y:Int)/\So eI w' w.heap.size u3 (g++(g.take m).map (rkM x)),fun _ h=>h,kF.kp.and kpf,kF.kp.up aY.out hb,(Kp.blk _ _).up aX.out hb,by rw[<- a6];exact Zk1 _ _,a8.out.up hb,hgv.up bn,bV.out.up hb⟩;replace aJ:=Qh (Qt aJ.out hb.size);have aF:=Qh bO;have HH:=Qh hH;try rw[a6]
      clear bO hH bn hb hgv aY a8 bV aX a6;generalize wa.alloc (Qlr 33 sg ag ng cg)=wb at *;refine QaT (by kernel_rfl) [10] (S:=fun w'=>Qma w' B5 sx ax nx cx/\Qma w' B7 sy ay ny cy/\Qma w' B8 sg ag ng cg) ⟨Qa1 ((aH.out _).1 (aF.out _ HH.out).1).1,Qa1 (aF.out _ HH.out).2.1,Qa1 (aF.out _ HH.out).2.2.1⟩ (fun aA=>?_);replace HH:=Qh (kH.dr HH.out);generalize hwc:wb.drew=wc at *;have aB:=Qh (show w7.heap.size<=wc.heap.size by rw[<- hwc];exact aJ.out);clear hwc aJ
      have a2:(Int.gcd x y:Int)≠0:=fun e=>by
       have:=Int.gcd_eq_zero_iff.1 (Int.natCast_eq_zero.1 e);exact b4 this.2
      have b6:sz (Int.gcd x y:Int)<=2:=Qt (Y2 (y:=y) (by
       have h1:=Nat.le_of_dvd (by omega) (Int.natAbs_dvd_natAbs.2 (Int.gcd_dvd_right x y));exact h1)) b5
      have bX:=Qh (show Qfl [x/(Int.gcd x y:Int),y/(Int.gcd x y:Int)]=rkM x y by rw[Qjm];rfl);obtain⟨d,hd⟩:∃ d:Int,(Int.gcd x y:Int)=d:=⟨_,rfl⟩;have cJ:=Qh hd;rw[hd] at a2 b6 bX;clear hd;have bP:It wc (Qlv sg ag ng cg) d:=by rw[<- cJ.out];exact(aF.out _ HH.out).2.2.2.2.1
      have aP:=Qh bP;clear bP;(refine tS 0 rfl ?_;refine tS 1 rfl ?_;refine tS 2 rfl ?_;refine tS 4 rfl ?_;refine tS 5 rfl ?_)
      (refine oL 3 rfl fun K hK=>tL ?_;go_simp);refine mn (Qd3 _ _ x d wc ((aH.out _).1 (aF.out _ HH.out).1).2.1 aP.out a2 (by omega) (by omega)) fun v wd hU hb=>?_;obtain⟨su,au,nU,cu,rfl⟩:=hU.shape;have aD:=nu hb aA;replace HH:=hu hb HH;replace aP:=hu hb aP;have HU:=Qh hU;replace aB:=Qh (Qt aB.out hb.size);clear hb hU;(go_wp2_with fail;clear aA;refine nxL hK aD fun aA=>tL ?_;clear hK);clear aD;(refine oL 6 rfl fun K hK=>tL ?_;go_simp);refine mn (Qd3 _ _ y d wd (aF.out _ HH.out).2.2.2.1 aP.out a2 (by omega) (by omega)) fun v we hU hb=>?_;obtain⟨sv,av,nv,cv,rfl⟩:=hU.shape;have aD:=nu hb aA;replace HH:=hu hb HH;replace HU:=hu hb HU;have HV:=Qh hU;replace aB:=Qh (Qt aB.out hb.size);clear hb hU aP;(go_wp2_with fail;clear aA;refine nxL hK aD fun aA=>tL ?_;clear hK);clear aD;(refine oL 7 rfl fun K hK=>tL ?_;go_simp);have bn:=Qc we (Qls 33 su au nU cu sv av nv cv);have aD:=nu bn aA;have bZ:=Qh (sr2 (p0:=(su,au,nU,cu)) (p1:=(sv,av,nv,cv)) HU.out HV.out);replace HH:=hu bn HH;replace aB:=Qh (Qt aB.out bn.size);clear bn HU HV;(go_wp2_with fail;clear aA;refine nxL hK aD fun aA=>tL ?_;clear hK);clear aD;generalize we.alloc (Qls 33 su au nU cu sv av nv cv)=wf at *;(refine oL 8 rfl fun K hK=>tL ?_;go_simp);refine mn (Qbd _ _ _ bZ.out (by simp) (Qjj (Qt (Qan x d) (by omega)) (Qt (Qan y d) (by omega)))) fun v wg hU hb=>?_;obtain⟨sp,ap,np,cp,rfl⟩:=hU.shape;rw[bX.out] at hU;have aD:=nu hb aA;replace HH:=hu hb HH;replace aB:=Qh (Qt aB.out hb.size);have HU:=Qh hU;clear hb hU bZ;(go_wp2_with fail;clear aA;refine nxL hK aD fun aA=>tL ?_;clear hK);clear aD;(refine oL 9 rfl fun K hK=>tL ?_;go_simp);have bn:=Qc wg (Qlr 33 sp ap np cp);have aD:=nu bn aA;have bI:=(So.ints1 (base:=0) (Zk1 wg (Qlr 33 sp ap np cp)) (Nat.zero_le _) (HU.out.up bn)).sc;replace HH:=hu bn HH;replace aB:=Qh (Qt aB.out bn.size);have bC:=Qh bI;clear bn HU bI;(go_wp2_with fail;clear aA;refine nxL hK aD fun aA=>tL ?_;clear hK);clear aD;obtain⟨Bz,bR⟩:∃ B,wg.heap.size=B:=⟨_,rfl⟩;try rw[bR] at bC |-
      clear bR;generalize wg.alloc (Qlr 33 sp ap np cp)=wz at *;have aT:=(aF.out _ HH.out).2.2.2.2.2;have bM:=((aH.out _).1 (aF.out _ HH.out).1).2.2.2.size
      have a0:(g++(g.take m).map (rkM x)).length+1<=1099511627776:=by
       rw[List.length_append,List.length_map,List.length_take];omega
      obtain⟨LL,bN⟩:∃ LL,g++(g.take m).map (rkM x)=LL:=⟨_,rfl⟩;rw[bN] at aT a0 aW;refine Qbh (i:=10) (by as_aux_lemma=>kernel_rfl) rfl (fun K hK=>?_);refine QbX (E:=eI) (by rfl) (.tmp 30) (.tmp 39) _ (by rfl) Tryz.underlying46 w.heap.size _ LL [rkM x y] (by rfl) aT bM Bz 0 1 1 (by rfl) rfl bC.out (by decide) a0 ?_;intro g8 a7 w8 h8 a3 a1;have bQ:=kF.fr (aF.out _ HH.out).1 a3 (fun k hk=>aT.nw k hk) (fun k hd hk=>aM.out k hk hd);have cH:=Qh bQ;rw[<- aW.out] at h8;have cD:=Qh h8
      have cK:=Qh (show ∀ k,(Value.slice (some ⟨g8,0,none⟩) (LL.length+1) a7).ownBlock=some k->¬ D k from fun k hk hd=>by
       have e8:g8=k:=by simpa [Value.ownBlock] using hk
       rw[e8] at a1;rcases a1 with h|h
       ·exact aM.out k h hd
       ·have h1:=cI.out k hd;have h2:=aB.out;omega)
      have a9:=Qh (Qt aB.out a3.size);clear bQ h8 a3 a1 aT bM a0 bN aM bC aW;refine hK.out _ _ nzz ?_;clear hK aA;refine tL ?_;(refine oL 11 rfl fun K hK=>tL ?_;go_simp);(go_wp2_with fail;refine xL hK (tL ?_);clear hK);refine dT ?_;clear HH aF kH;go_wp2_with fail;go_roundw
      case rel=>exact⟨m+1,by go_num,by omega,cD,cK,cH,a9⟩
      case measure=>simp[intOf];omega
     ·have b7:m=g.length:=by omega
      subst b7;have bA:=Qh (show So eI wr w.heap.size u3 (rkG (l.take (i+1))) by rw[bU.out];have:=aV.out;rwa [List.take_length] at this);have cN:=Qh ((aH.out _).1 HF.out).2.2.2;clear aV HF bU;go_wp2_with fail;go_roundw
      case rel=>exact⟨i+1,by go_num,by omega,bA,cN⟩
      case measure=>simp[intOf];omega
  ·have b8:i=l.length:=by omega
   subst b8;have aE:=b0.out l.length (Nat.le_refl _);rw[List.take_length] at HS aE;have bL:(rkG l).length<=549755813888:=Qt (JM aE.nd aE.sub) hCl;obtain⟨aG,cG,rfl,-⟩:=HS.out.slice;have bY:=Qh (show ((rkF l:Nat):Int)=((Nat.log2 ((rkG l).length:Int).toNat:Nat):Int) by rw[Int.toNat_natCast];rfl);obtain⟨N,hN⟩:∃ N,(rkG l).length=N:=⟨_,rfl⟩;rw[hN] at bL bY |-;clear aE hN;go_wp2_with fail;refine(QfY (N:Int) wr (by omega) (by omega)).mono ?_;rintro e w9 ⟨rfl,rfl⟩;go_wp2_with fail;go_ret
   exact⟨by rw[bY.out];rfl,HB.out⟩
theorem Jq {P:Nat->Prop}:∀ (n:Nat),P n->∃ p,P p/\∀ q,P q->p<=q:=fun n=>by
 induction n using Nat.strongRecOn with
 | ind n ih =>
   intro hn;by_cases h:∃ m,m<n/\P m
   ·obtain⟨m,hm,hP⟩:=h;exact ih m hm hP
   ·exact⟨n,hn,fun q hq=>(Nat.lt_or_ge q n).elim (fun hl=>absurd ⟨q,hl,hq⟩ h) id⟩
theorem Jm {p:Nat} (hp:2<=p):∀ (n:Nat),1<=n->∃ k m,n=p ^ k*m/\¬ p∣m/\1<=m:=fun n=>by
 induction n using Nat.strongRecOn with
 | ind n ih =>
   intro hn;by_cases h:p∣n
   ·obtain⟨c,rfl⟩:=h;have hc:1<=c:=Nat.pos_of_ne_zero fun e=>by subst e;simp at hn
    have hlt:c<p*c:=by
     have:=Nat.mul_le_mul_right c hp;omega
    obtain⟨k,m,e,h1,h2⟩:=ih c hlt hc;exact⟨k+1,m,by rw[e,Nat.pow_succ,Nat.mul_comm (p ^ k) p,Nat.mul_assoc],h1,h2⟩
   ·exact⟨0,n,by simp,h,hn⟩
theorem JQ:∀ (n:Nat),1<=n->∃ P,Facs n P:=fun n=>by
 induction n using Nat.strongRecOn with
 | ind n ih =>
   intro hn;by_cases h1:n=1
   ·exact⟨[],And.intro (fun x hx=>absurd hx List.not_mem_nil) (And.intro List.Pairwise.nil (by subst h1;rfl))⟩
   ·obtain⟨q,hq⟩:=Qp (show 2<=n by omega);obtain⟨p,⟨hp,hd⟩,hmin⟩:=Jq (P:=fun p=>Pri p/\p∣n) q hq;obtain⟨k,m,e,hm,hm1⟩:=Jm hp.1 n hn
    have hk:1<=k:=Nat.pos_of_ne_zero fun e0=>by
     subst e0;rw[Nat.pow_zero,Nat.one_mul] at e;exact hm (e▸hd)
    have hlt:m<n:=by
     have h2:p ^ 1<=p ^ k:=Nat.pow_le_pow_right (by have:=hp.1;omega) hk;have h3:=Nat.mul_le_mul_right m h2;have h4:=Nat.mul_le_mul_right m hp.1;rw[<- e,Nat.pow_one] at h3;omega
    obtain⟨P,hP⟩:=ih m hlt hm1;refine⟨(p,k) :: P,And.intro (fun x hx=>?_) (And.intro (List.pairwise_cons.2 ⟨fun x hx=>?_,hP.2.1⟩) ?_)⟩
    ·rcases List.mem_cons.1 hx with rfl|hx
     ·exact⟨hp,hk⟩
     ·exact hP.1 x hx
    ·have h2:=(hP.prs.2 x.1).1 (List.mem_map.2 ⟨x,hx,rfl⟩);have h3:=hmin x.1 ⟨h2.1,e▸Nat.dvd_trans h2.2 (Nat.dvd_mul_left _ _)⟩;have h4:p≠x.1:=fun e2=>hm (e2▸h2.2);show p<x.1
     omega
    ·rw[e,hP.2.2];simp[pk]
theorem YF {n:Nat} {C:List Int} (hC:Cand n C) (h1:1<=n) (h2:n<1099511627776):C.length<=67108864:=by
 obtain⟨P,hP⟩:=JQ n h1;have h3:=hP.few h2;have aA:C.Nodup:=hC.1.imp (fun h e=>by omega)
 have h4:=JM (m:=glI 1 (ks P)) aA (fun d hd=>by
  obtain⟨d1,d2,d3⟩:=(hC.2 d).1 hd;exact Qaq.2 ((QfM (fun p hp=>((hP.prs.2 p).1 hp).1) hP.nodup _).2 ⟨d1,d2,fun q hq hqd=>(hP.prs.2 q).2 ⟨hq,Nat.dvd_trans hqd d3⟩⟩))
 rw[J6] at h4;have h5:(ks P).length=P.length:=by simp[ks]
 rw[h5] at h4;have h6:2 ^ P.length<=2 ^ 25:=Nat.pow_le_pow_right (by decide) h3;have h7:(2:Nat) ^ 25=33554432:=by decide
 omega
theorem FrZ.mem {n f:Int} {C:List Int} (h:FrZ n f) (hC:Cand n.natAbs C):f∈C:=by
 obtain⟨h1,-,h3⟩:=h;exact(hC.2 f).2 ⟨by omega,h1.1,h1.dvd⟩
theorem Qae {n:Int} (h:n≠0):∃ f,FrZ n f:=by
 obtain⟨f,hf⟩:=JD n.natAbs (by omega);have h1:=hf.2.1;by_cases hn:0<n
 ·exact⟨(f:Int),by simpa using hf,⟨fun _=>by omega,fun _=>hn⟩,by omega⟩
 ·exact⟨-(f:Int),by simpa using hf,⟨fun h=>absurd h hn,fun h=>by omega⟩,by omega⟩
theorem QhI {a b:Int} {l:List (Int×Int×Int×Int)} {m:List (Int×Int×Int)} (h:Qaw a b l m):∃ C,Cand b.natAbs C/\(∀ q∈l,q.1∈C)/\∀ q∈m,q.1∈C:=by
 obtain⟨C,hC,h1,h2⟩:=h;refine⟨C,hC,fun q hq=>?_,fun q hq=>?_⟩
 ·obtain⟨i,hi,e⟩:=List.mem_iff_getElem.1 hq;have:=(h1 i hi).2.1;rwa [Zk3,Zk4 hi,e] at this
 ·obtain⟨i,hi,e⟩:=List.mem_iff_getElem.1 hq;have:=(h2 i hi).2.1;rwa [Zk3,Zk4 hi,e] at this
