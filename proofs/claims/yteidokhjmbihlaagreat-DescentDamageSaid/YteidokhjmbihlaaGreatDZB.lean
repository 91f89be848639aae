/-
  algoristref29.Soluble.
-/
import Derived.Test.YteidokhjmbihlaaGreatDZA
import Derived.Test.YteidokhjmbihlaaGreatDD
import Derived.Test.YteidokhjmbihlaaGreatDQ
import Derived.Test.YteidokhjmbihlaaGreatFM
import Derived.Test.YteidokhjmbihlaaGreatDF
import Derived.Test.YteidokhjmbihlaaGreatFSB
import Derived.Test.YteidokhjmbihlaaGreatDL
import Derived.Test.YteidokhjmbihlaaGreatDM
set_option linter.all false
set_option maxRecDepth 100000
set_option maxHeartbeats 4000000
namespace Go.Proofs.YteidokhjmbihlaaGreat
open Go.RowKit
attribute [local go_sem ↓] Go.wp_at_zero Go.wp_at_succ
theorem Qfd (w:World) :
  Calls Tryz.prog 120 #[] w fun e' w'=>∃ v,e'=.returned v/\It w' v 1099511627776/\Below w.heap.size w w':=by
 obtain⟨F,aC,kF⟩:=kpe (fun w'=>w'.heap[w.heap.size]? = some (Qma 33 false none 0 0)/\Below w.heap.size w w');have aA:=Qh aC;clear aC;have aD:=Qa w (Qma 33 false none 0 0);have d0:=Zk1 w (Qma 33 false none 0 0);have HF:Hid (F (w.alloc (Qma 33 false none 0 0))):=Qh ((aA.out _).2 ⟨d0,aD⟩);clear aD d0;go_enter Tryz.func120,Tryz.ntmps120
 go_upto_region 1 with fail;generalize w.alloc (Qma 33 false none 0 0)=W at *;go_wp2_with fail;refine mn (Qm 1099511627776 W (by decide) (by decide)) fun v wc1 hv hb=>?_;obtain⟨aE,aI,aF,aG,rfl⟩:=hv.shape;replace HF:=hu hb HF;have Hr:=Qh hv;clear hb hv;have aB:=Qh (((aA.out _).1 HF.out).1);obtain⟨z0,z1⟩:=Qz aB.out;obtain⟨y0,y1⟩:=Qfo aB.out;go_wp2_with fail;have aH:=(ButS.set wc1 (w.heap.size) 0 (.bool aE)).trans (ButS.set _ (w.heap.size) 1 (.slice aI aF aG));exact Q5 (B:=w.heap.size) rfl rfl rfl (Vx.put (Qkw aB.out) (Hr.out)) (fun v hv=>⟨v,rfl,hv,(ButS.below ((aA.out _).1 HF.out).2 aH ((aA.out _).1 HF.out).2.size (fun g e=>by omega))⟩)
theorem QbR (va:Value) (x:Int) (w:World) (hx:It w va x) (hs:sz x<=4000000) :
  Calls Tryz.prog 62 #[va] w fun e' w'=>e'=.returned (.bool (decide (x.natAbs<1099511627776)))/\Below w.heap.size w w':=by
 obtain⟨aB,aG,aE,aF,rfl⟩:=hx.shape;obtain⟨F,aI,kF⟩:=kpe (fun w'=>w'.heap[w.heap.size]? = some (Qma 33 aB aG aE aF)/\It w' (Qme aB aG aE aF) (x)/\Below w.heap.size w w');have aA:=Qh aI;clear aI;have aH:=Qa w (Qma 33 aB aG aE aF);have d0:=Zk1 w (Qma 33 aB aG aE aF);have HF:Hid (F (w.alloc (Qma 33 aB aG aE aF))):=Qh ((aA.out _).2 ⟨d0,hx.up aH,aH⟩);clear aH d0  hx;go_enter Tryz.func62,Tryz.ntmps62
 go_upto_region 1 with fail;generalize w.alloc (Qma 33 aB aG aE aF)=W at *;obtain⟨aD,aC⟩:=Qz ((aA.out _).1 HF.out).1;go_wp2_with fail;refine mn (Jv _ x W ((aA.out _).1 HF.out).2.1 (by omega)) fun v wc1 hv hb=>?_;obtain⟨aL,aS,aO,aQ,rfl⟩:=hv.shape;replace HF:=hu hb HF;have Hr:=Qh hv;clear hb hv;clear aD aC;obtain⟨aD,aC⟩:=Qz ((aA.out _).1 HF.out).1;go_wp2_with fail;refine mn (Qfd wc1) fun v wc2 hv hb=>?_;obtain⟨aK,aR,aM,aP,rfl⟩:=hv.shape;replace Hr:=hu hb Hr;replace HF:=hu hb HF;have Ht:=Qh hv;clear hb hv;clear aD aC;obtain⟨aD,aC⟩:=Qz ((aA.out _).1 HF.out).1;go_wp2_with fail;refine mz (J3 _ _ (x.natAbs:Int) 1099511627776 wc2 Hr.out Ht.out (show sz (x.natAbs:Int)<=4611686018427387904 from Qt (show QJ x.natAbs<=4000000 from hs) (by decide)) (by decide)) fun wc3 hb=>?_;replace Hr:=hu hb Hr;replace Ht:=hu hb Ht;replace HF:=hu hb HF;clear hb;clear aD aC;obtain⟨aD,aC⟩:=Qz ((aA.out _).1 HF.out).1;have aJ:(Qg (x.natAbs:Int) 1099511627776<0)=(x.natAbs<1099511627776):=by rw[eq_iff_iff];unfold Qg;split <;> (try split) <;> omega
 go_wp2_with fail;go_ret
 exact⟨by first|rfl|(simp only[aJ];rfl),((aA.out _).1 HF.out).2.2⟩
theorem Qlh (w:World) (B T:Nat) (fr:Nat×Nat) (x0 x1 x2 x3:Value) (h:w.heap[B]? = some (.cells #[x0,x1,x2,x3] T fr)):(loadVar 35 ⟨B,0,none⟩).run Tryz.prog w=.ok (.agg #[x0,x1,x2,x3]) w:=by
 simp[go_sem,World.cell?,h]
theorem YG (va:Value) (a b:Int) (w:World) (hp:Qx w va a b) (sa:sz a<=1000000) (sb:sz b<=1000000) :
  Calls Tryz.prog 95 #[va] w fun e' w'=>∃ t,e'=.returned t/\Qx w' t (-2*a) (a*a-4*b)/\Below w.heap.size w w':=by
 have qp:=hp;obtain⟨aD,aJ,aF,aH,aC,aI,aE,aG,rfl,a4,a3⟩:=hp;obtain⟨F,a6,kF⟩:=kpe (fun w'=>w'.heap[w.heap.size]? = some (Qmb 35 aD aJ aF aH aC aI aE aG)/\w'.heap[w.heap.size+1]? = some (Qmb 35 false none 0 0 false none 0 0)/\Qx w' (Qmf aD aJ aF aH aC aI aE aG) (a) (b)/\It w' (Qme aD aJ aF aH) (a)/\It w' (Qme aC aI aE aG) (b)/\Below w.heap.size w w');have aM:=Qh a6;clear a6;have a7:=Qa w (Qmb 35 aD aJ aF aH aC aI aE aG);have d0:=Zk1 w (Qmb 35 aD aJ aF aH aC aI aE aG);have a1:=Qa (w.alloc (Qmb 35 aD aJ aF aH aC aI aE aG)) (Qmb 35 false none 0 0 false none 0 0);have d1:=Zk1 (w.alloc (Qmb 35 aD aJ aF aH aC aI aE aG)) (Qmb 35 false none 0 0 false none 0 0);rw[show (w.alloc (Qmb 35 aD aJ aF aH aC aI aE aG)).heap.size=w.heap.size+1 by simp only[Zk2]] at d1;have aV:=Bl.up a7 a1;have HF:Hid (F ((w.alloc (Qmb 35 aD aJ aF aH aC aI aE aG)).alloc (Qmb 35 false none 0 0 false none 0 0))):=Qh ((aM.out _).2 ⟨(Kp.blk _ _).up d0 a1,d1,qp.up aV,a4.up aV,a3.up aV,aV⟩);clear a7 d0 a1 d1 aV qp a4 a3;go_enter Tryz.func95,Tryz.ntmps95
 go_upto_region 1 with fail;generalize (w.alloc (Qmb 35 aD aJ aF aH aC aI aE aG)).alloc (Qmb 35 false none 0 0 false none 0 0)=W at *;refine Qc (by kernel_rfl) [15] (S:=fun w'=>Qmk w' (w.heap.size) aD aJ aF aH aC aI aE aG) (Qq ((aM.out _).1 HF.out).1) (fun aA=>?_);replace HF:=Qh (kF.dr HF.out);generalize W.drew=wa at *;have z4:sz 4<=1:=by decide
 have z2:sz (-2)<=1:=by decide
 have z5:=Qj a a;have z6:=Qj 4 b;(refine tS 1 rfl ?_;refine tS 2 rfl ?_;refine tS 4 rfl ?_;refine tS 5 rfl ?_;refine tS 6 rfl ?_;refine tS 7 rfl ?_;refine tS 10 rfl ?_;refine tS 11 rfl ?_)
 (refine oL 0 rfl fun K hK=>tL ?_;go_simp);refine mn (Qm (-2) wa (by decide) (by decide)) fun v wc1 hv hb=>?_;obtain⟨bB,bN,bF,bJ,rfl⟩:=hv.shape;have aB:=nu hb aA;replace HF:=hu hb HF;have aK:=Qh hv;clear hb hv;(go_wp2_with fail;clear aA;refine nxL hK aB fun aA=>tL ?_;clear hK);clear aB;(refine oL 3 rfl fun K hK=>tL ?_;go_simp);refine mn (QI _ _ (-2) a wc1 aK.out ((aM.out _).1 HF.out).2.2.2.1 (by omega) (by omega)) fun v wc2 hv hb=>?_;obtain⟨aQ,aX,aS,aU,rfl⟩:=hv.shape;have aB:=nu hb aA;replace aK:=hu hb aK;replace HF:=hu hb HF;have aL:=Qh hv;clear hb hv;(go_wp2_with fail;clear aA;refine nxL hK aB fun aA=>tL ?_;clear hK);clear aB;(refine oL 8 rfl fun K hK=>tL ?_;go_simp);refine mn (QI _ _ a a wc2 ((aM.out _).1 HF.out).2.2.2.1 ((aM.out _).1 HF.out).2.2.2.1 (by omega) (by omega)) fun v wc3 hv hb=>?_;obtain⟨bA,bM,bE,bI,rfl⟩:=hv.shape;have aB:=nu hb aA;replace aK:=hu hb aK;replace aL:=hu hb aL;replace HF:=hu hb HF;have aO:=Qh hv;clear hb hv;(go_wp2_with fail;clear aA;refine nxL hK aB fun aA=>tL ?_;clear hK);clear aB;(refine oL 9 rfl fun K hK=>tL ?_;go_simp);refine mn (Qm 4 wc3 (by decide) (by decide)) fun v wc4 hv hb=>?_;obtain⟨a9,bL,bD,bH,rfl⟩:=hv.shape;have aB:=nu hb aA;replace aK:=hu hb aK;replace aL:=hu hb aL;replace aO:=hu hb aO;replace HF:=hu hb HF;have aY:=Qh hv;clear hb hv;(go_wp2_with fail;clear aA;refine nxL hK aB fun aA=>tL ?_;clear hK);clear aB;(refine oL 12 rfl fun K hK=>tL ?_;go_simp);refine mn (QI _ _ 4 b wc4 aY.out ((aM.out _).1 HF.out).2.2.2.2.1 (by omega) (by omega)) fun v wc5 hv hb=>?_;obtain⟨a8,bK,bC,bG,rfl⟩:=hv.shape;have aB:=nu hb aA;replace aK:=hu hb aK;replace aL:=hu hb aL;replace aO:=hu hb aO;replace aY:=hu hb aY;replace HF:=hu hb HF;have a2:=Qh hv;clear hb hv;(go_wp2_with fail;clear aA;refine nxL hK aB fun aA=>tL ?_;clear hK);clear aB;(refine oL 13 rfl fun K hK=>tL ?_;go_simp);refine mn (Qez _ _ (a*a) (4*b) wc5 aO.out a2.out (by omega) (by omega)) fun v wc6 hv hb=>?_;obtain⟨aP,aW,aR,aT,rfl⟩:=hv.shape;have aB:=nu hb aA;replace aK:=hu hb aK;replace aL:=hu hb aL;replace aO:=hu hb aO;replace aY:=hu hb aY;replace a2:=hu hb a2;replace HF:=hu hb HF;have bO:=Qh hv;clear hb hv;(go_wp2_with fail;clear aA;refine nxL hK aB fun aA=>tL ?_;clear hK);clear aB;(refine tS 14 rfl ?_)
 have aZ:=Qh (((aM.out _).1 HF.out).2.1);obtain⟨z0,z1,z2,z3⟩:=Qq aZ.out;obtain⟨y0,y1,y2,y3⟩:=JH aZ.out;(refine oL 15 rfl fun K hK=>tL ?_;go_simp);(go_wp2_with fail;refine xL hK (tL ?_);clear hK);refine dT ?_;clear aA;go_wp2_with fail;have hh:=Qak aZ.out (.bool aQ) (.slice aX aS aU) (.bool aP) (.slice aW aR aT);have a0:=QfG wc6 (w.heap.size+1) (.bool aQ) (.slice aX aS aU) (.bool aP) (.slice aW aR aT);have a5:=nw4 aZ.out;exact JY (B:=w.heap.size+1) rfl rfl rfl (Qlh _ _ _ _ _ _ _ _ hh) ⟨_,rfl,⟨_,_,_,_,_,_,_,_,rfl,(aL.out).fr a0 a5,(bO.out).fr a0 a5⟩,(ButS.below ((aM.out _).1 HF.out).2.2.2.2.2 a0 ((aM.out _).1 HF.out).2.2.2.2.2.size (fun g e=>by omega))⟩
theorem QbX (va vb:Value) (a b:Int) (w:World) (hA:It w va a) (hB:It w vb b) (ha:sz a<=1000000) (hb9:sz b<=1000000) :
  Calls Tryz.prog 47 #[va,vb] w fun e' w'=>e'=.returned (.int .i64 (JG a b))/\Below w.heap.size w w':=by
 obtain⟨aE,aH,aF,aG,rfl⟩:=hA.shape;obtain⟨aJ,aM,aK,aL,rfl⟩:=hB.shape;obtain⟨F,a7,kF⟩:=kpe (fun w'=>w'.heap[w.heap.size]? = some (Qma 33 aE aH aF aG)/\w'.heap[w.heap.size+1]? = some (Qma 33 aJ aM aK aL)/\It w' (Qme aE aH aF aG) (a)/\It w' (Qme aJ aM aK aL) (b)/\Below w.heap.size w w');have aA:=Qh a7;clear a7;have a9:=Qa w (Qma 33 aE aH aF aG);have d0:=Zk1 w (Qma 33 aE aH aF aG);have a2:=Qa (w.alloc (Qma 33 aE aH aF aG)) (Qma 33 aJ aM aK aL);have d1:=Zk1 (w.alloc (Qma 33 aE aH aF aG)) (Qma 33 aJ aM aK aL);rw[show (w.alloc (Qma 33 aE aH aF aG)).heap.size=w.heap.size+1 by simp only[Zk2]] at d1;have aX:=Bl.up a9 a2;have HF:Hid (F ((w.alloc (Qma 33 aE aH aF aG)).alloc (Qma 33 aJ aM aK aL))):=Qh ((aA.out _).2 ⟨(Kp.blk _ _).up d0 a2,d1,hA.up aX,hB.up aX,aX⟩);clear a9 d0 a2 d1 aX hA hB;go_enter Tryz.func47,Tryz.ntmps47
 go_upto_region 1 with fail;generalize (w.alloc (Qma 33 aE aH aF aG)).alloc (Qma 33 aJ aM aK aL)=W at *;obtain⟨a0,aZ⟩:=Qz ((aA.out _).1 HF.out).1;obtain⟨aD,aC⟩:=Qz ((aA.out _).1 HF.out).2.1
 have bD:sz (a*a-4*b)<=4000000:=by
  have h1:=Qji (a*a) (4*b);have h2:=Qj a a;have h3:=Qj 4 b;have h4:sz 4<=1:=(by decide);omega
 obtain⟨D,aW⟩:∃ D,a*a-4*b=D:=⟨_,rfl⟩;have a6:JG a b=if b=0\/D=0 then 250 else if 1099511627776<=b.natAbs\/1099511627776<=D.natAbs then 2 else 0:=by unfold JG;rw[aW]
 have bI:=Qh aW;have aO:=Qh a6;rw[aW] at bD;clear a6 aW;go_wp2_with fail;refine mn (YG _ a b W ⟨_,_,_,_,_,_,_,_,rfl,((aA.out _).1 HF.out).2.2.1,((aA.out _).1 HF.out).2.2.2.1⟩ (by omega) (by omega)) fun v wc1 hv hb=>?_;have hq:=hv;obtain⟨bA,bG,bB,bC,aR,aY,aS,aT,rfl,g0,g1⟩:=hv;replace HF:=hu hb HF;have Ho:=Qh hq;have bH:=Qh g0;have a3:=Qh g1;clear hb hq g0 g1;clear a0 aZ aD aC;obtain⟨a0,aZ⟩:=Qz ((aA.out _).1 HF.out).1;obtain⟨aD,aC⟩:=Qz ((aA.out _).1 HF.out).2.1;rw[bI.out] at a3;clear a0 aZ aD aC;have a1:∀ w,(Instr.field 35 (Qmf bA bG bB bC aR aY aS aT) 1).run Tryz.prog w=.ok (Qme aR aY aS aT) w:=fun _=>by kernel_rfl
 go_upto_region 2 with fail;have hb:=Qa wc1 (Qma 33 aR aY aS aT);have aB:=Qh (Vx.new (w:=wc1) (T:=33) rfl a3.out);replace HF:=hu hb HF;obtain⟨BX,a8⟩:∃ B,wc1.heap.size=B:=⟨_,rfl⟩;rw[a8] at aB |-;clear hb a8 Ho bH a3 a1;generalize wc1.alloc (Qma 33 aR aY aS aT)=wv at *;obtain⟨t1,t2,t3,t4,r0,r1,-,-,it⟩:=aB.out.cells;clear r0 r1;have aI:=Qh it;clear it;clear aI;obtain⟨aD,aC⟩:=Qz ((aA.out _).1 HF.out).2.1;go_wp2_with fail;refine mz (QZ _ b wv ((aA.out _).1 HF.out).2.2.2.1) fun wc2 hb=>?_;replace aB:=hu hb aB;replace HF:=hu hb HF;clear hb;clear aD aC;obtain⟨aD,aC⟩:=Qz ((aA.out _).1 HF.out).2.1;have aV:(Qg b 0 == 0)=decide (b=0):=by rw[Bool.eq_iff_iff];simp[Qr]
 by_cases hb0:b=0
 ·have bF:(Qg b 0 == 0)=true:=by rw[aV];exact decide_eq_true hb0
  have aQ:=Qh hb0;clear aV hb0;go_wp2_with fail;go_ret
  exact⟨by rw[aO.out,if_pos (.inl aQ.out)];rfl,((aA.out _).1 HF.out).2.2.2.2⟩
 have bF:(Qg b 0 == 0)=false:=by rw[aV];exact decide_eq_false hb0
 have aQ:=Qh hb0;clear aV hb0;obtain⟨t1,t2,t3,t4,r0,r1,-,-,it⟩:=aB.out.cells;have aI:=Qh it;clear it;go_wp2_with fail;refine mz (QZ _ D wc2 aI.out) fun wc3 hb=>?_;replace aB:=hu hb aB;replace HF:=hu hb HF;clear hb;clear aD aC r0 r1;obtain⟨aD,aC⟩:=Qz ((aA.out _).1 HF.out).2.1;obtain⟨t1,t2,t3,t4,r0,r1,-,-,it⟩:=aB.out.cells;have aI:=Qh it;clear it;have aU:(Qg D 0 == 0)=decide (D=0):=by rw[Bool.eq_iff_iff];simp[Qr]
 by_cases hd0:D=0
 ·have bE:(Qg D 0 == 0)=true:=by rw[aU];exact decide_eq_true hd0
  have aP:=Qh hd0;clear aU hd0;go_wp2_with fail;go_ret
  exact⟨by rw[aO.out,if_pos (.inr aP.out)];rfl,((aA.out _).1 HF.out).2.2.2.2⟩
 have bE:(Qg D 0 == 0)=false:=by rw[aU];exact decide_eq_false hd0
 have aP:=Qh hd0;clear aU hd0;go_wp2_with fail;refine mz (QbR _ b wc3 ((aA.out _).1 HF.out).2.2.2.1 (by omega)) fun wc4 hb=>?_;replace aB:=hu hb aB;replace HF:=hu hb HF;clear hb;clear aD aC r0 r1;obtain⟨aD,aC⟩:=Qz ((aA.out _).1 HF.out).2.1;obtain⟨t1,t2,t3,t4,r0,r1,-,-,it⟩:=aB.out.cells;have aI:=Qh it;clear it;by_cases hnb:b.natAbs<1099511627776
 case neg=>
  rw[decide_eq_false hnb];have a5:=Qh hnb;clear hnb;go_wp2_with fail;go_ret
  exact⟨by rw[aO.out,if_neg (by have:=aQ.out;have:=aP.out;omega),if_pos (.inl (by have:=a5.out;omega))];rfl,((aA.out _).1 HF.out).2.2.2.2⟩
 rw[decide_eq_true hnb];have a5:=Qh hnb;clear hnb;go_wp2_with fail;refine mz (QbR _ D wc4 aI.out (by omega)) fun wc5 hb=>?_;replace aB:=hu hb aB;replace HF:=hu hb HF;clear hb;clear aD aC r0 r1;obtain⟨aD,aC⟩:=Qz ((aA.out _).1 HF.out).2.1;obtain⟨t1,t2,t3,t4,r0,r1,-,-,it⟩:=aB.out.cells;have aI:=Qh it;clear it;by_cases hnd:D.natAbs<1099511627776
 ·rw[decide_eq_true hnd];have a4:=Qh hnd;clear hnd;go_wp2_with fail;go_ret
  exact⟨by rw[aO.out,if_neg (by have:=aQ.out;have:=aP.out;omega),if_neg (by have:=a5.out;have:=a4.out;omega)];rfl,((aA.out _).1 HF.out).2.2.2.2⟩
 ·rw[decide_eq_false hnd];have a4:=Qh hnd;clear hnd;go_wp2_with fail;go_ret
  exact⟨by rw[aO.out,if_neg (by have:=aQ.out;have:=aP.out;omega),if_pos (.inr (by have:=a4.out;omega))];rfl,((aA.out _).1 HF.out).2.2.2.2⟩
theorem Ja (vl vx:Value) (l:List Int) (x:Int) (w:World) (hl:Sr eI w vl l) (hx:It w vx x) (hz:∀ y∈l,sz y<=1000000) (hzx:sz x<=1000000) (hn:l.length<=1000000000) :
  Calls Tryz.prog 69 #[vl,vx] w fun e' w'=>e'=.returned (.bool (decide (x∈l)))/\Below w.heap.size w w':=by
 obtain⟨sx,ax,nx,kx,rfl⟩:=hx.shape;obtain⟨aL,cL,rfl,-⟩:=id hl;have bn:=Qa w (Qma 33 sx ax nx kx);have HF:=Qh (And.intro (Zk1 w (Qma 33 sx ax nx kx)) (And.intro (hx.up bn) (And.intro (hl.up bn) bn)));have kF:Kp fun w'=>w'.heap[w.heap.size]? = some (Qma 33 sx ax nx kx)/\It w' (Qme sx ax nx kx) x/\Sr eI w' (.slice aL l.length cL) l/\Below w.heap.size w w':=kpf;have HZ:=Qh hz;clear hx hl bn hz;go_enter Tryz.func69,Tryz.ntmps69
 go_upto_region 1 with fail;generalize w.alloc (Qma 33 sx ax nx kx)=W at *;go_wp2_with fail
 go_loopw [4,5] (fun _ s5 wr=>∃ (i:Nat),s5=.int .i64 (i:Int)/\i<=l.length/\Hid (x∉l.take i)/\Hid (wr.heap[w.heap.size]? = some (Qma 33 sx ax nx kx)/\It wr (Qme sx ax nx kx) x/\Sr eI wr (.slice aL l.length cL) l/\Below w.heap.size w wr))
  (fun _ s5 _=>l.length-(intOf s5).toNat)
 case atStart=>exact⟨0,rfl,Nat.zero_le _,Qh (by simp),HF⟩
 case round=>
  clear HF;obtain⟨i,rfl,hi,HN,HF⟩:=hrel;by_cases hil:i<l.length
  ·have i1:(i:Int)<(l.length:Int):=by omega
   have i0:(0:Int)<=(i:Int):=by omega
   obtain⟨bL,oF,rfl,-,aF⟩:=HF.out.2.2.1.at hil;obtain⟨sy,ay,ny,ky,q0,q1,hy⟩:=aF.int hil;obtain⟨y,aE⟩:∃ y,l.getD i 0=y:=⟨_,rfl⟩;have aC:=Qo hil 0;have aD:=Qh (Y1 hil 0);rw[aE] at hy aC aD;have aJ:=HZ.out y aC;have HY:=Qh hy;have aH:Qmj wr w.heap.size sx ax nx kx/\rc2 wr bL (oF+i*2) (.bool sy) (.slice ay ny ky):=⟨Qz HF.out.1,⟨q0,q1⟩⟩;clear aF hy aE q0 q1 aC;go_upto_region 4 with fail;refine Qc (by kernel_rfl) [] (S:=fun w'=>Qmj w' w.heap.size sx ax nx kx/\rc2 w' bL (oF+i*2) (.bool sy) (.slice ay ny ky)) aH (fun aA=>?_);clear aH;replace HF:=Qh (kF.dr HF.out);replace HY:=Qh HY.out.drew;generalize wr.drew=wa at *;(refine tS 0 rfl ?_;refine tS 1 rfl ?_;refine tS 2 rfl ?_;refine tS 3 rfl ?_;refine tS 4 rfl ?_)
   (refine oL 5 rfl fun K hK=>tL ?_;go_simp);refine mz (YH _ _ y x wa HY.out HF.out.2.1 (by omega) (by omega)) fun wb hb=>?_;have aG:=nu hb aA;replace HF:=hu hb HF;clear hb HY;(go_wp2_with fail;clear aA;refine nxL hK aG fun aA=>tL ?_;clear hK);refine dT ?_;clear aA aG;by_cases hxy:y=x
   ·have aB:Y9 y x=true:=Yj.2 hxy;simp only[aB];clear aB;have HM:=Qh (show decide (x∈l)=true from decide_eq_true (List.mem_of_mem_take (i:=i+1) (by rw[aD.out,hxy];simp)));go_wp2_with fail;go_ret
    exact⟨by rw[HM.out];rfl,HF.out.2.2.2⟩
   ·have aB:Y9 y x=false:=by rw[Bool.eq_false_iff];exact fun h=>hxy (Yj.1 h)
    simp only[aB];clear aB;have aI:=Qh (show x∉l.take (i+1) by rw[aD.out,List.mem_append,List.mem_singleton];rintro (h|h);exact HN.out h;exact hxy h.symm);have j7:IntKind.i64.wrap ((i:Int)+1)=((i+1:Nat):Int):=by rw[IntKind.wrap_i64];omega
    clear hxy;go_wp2_with fail;exact⟨⟨i+1,rfl,by omega,aI,HF⟩,by simp only[intOf,Int.toNat_natCast];omega⟩
  ·obtain rfl:i=l.length:=by omega
   have HM:=Qh (show decide (x∈l)=false from decide_eq_false (by have:=HN.out;rwa [List.take_length] at this));go_wp2_with fail;go_ret
   exact⟨by rw[HM.out];rfl,HF.out.2.2.2⟩
theorem Qbk (va:Value) (x y z:Int) (w:World) (h:Sx w va x y z) (hx9:sz x<=1000000) (hy9:sz y<=1000000) (hz9:sz z<=1000000) :
  Calls Tryz.prog 74 #[va] w fun e' w'=>e'=.returned (.bool (JP x y z))/\Below w.heap.size w w':=by
 have qp:=h;obtain⟨aH,aR,aK,aO,aG,aQ,aJ,aM,aF,aP,aI,aL,rfl,bB,bA,a9⟩:=h;obtain⟨F,bE,kF⟩:=kpe (fun w'=>w'.heap[w.heap.size]? = some (Qmc 53 aH aR aK aO aG aQ aJ aM aF aP aI aL)/\Sx w' (Qmg aH aR aK aO aG aQ aJ aM aF aP aI aL) (x) (y) (z)/\It w' (Qme aH aR aK aO) (x)/\It w' (Qme aG aQ aJ aM) (y)/\It w' (Qme aF aP aI aL) (z)/\Below w.heap.size w w');have aC:=Qh bE;clear bE;have aT:=Qa w (Qmc 53 aH aR aK aO aG aQ aJ aM aF aP aI aL);have d0:=Zk1 w (Qmc 53 aH aR aK aO aG aQ aJ aM aF aP aI aL);have HF:Hid (F (w.alloc (Qmc 53 aH aR aK aO aG aQ aJ aM aF aP aI aL))):=Qh ((aC.out _).2 ⟨d0,qp.up aT,bB.up aT,bA.up aT,a9.up aT,aT⟩);clear aT d0  qp bB bA a9;go_enter Tryz.func74,Tryz.ntmps74
 go_upto_region 1 with fail;generalize w.alloc (Qmc 53 aH aR aK aO aG aQ aJ aM aF aP aI aL)=W at *;obtain⟨aZ,aY,aX,aW,aV,aU⟩:=QY ((aC.out _).1 HF.out).1;go_wp2_with fail;refine mz (QZ _ x W ((aC.out _).1 HF.out).2.2.1) fun wc1 hb=>?_;replace HF:=hu hb HF;clear hb;clear aZ aY aX aW aV aU;obtain⟨aZ,aY,aX,aW,aV,aU⟩:=QY ((aC.out _).1 HF.out).1;have aD:(Qg x 0>0)=(x>0):=by rw[eq_iff_iff];unfold Qg;split <;> (try split) <;> omega
 by_cases hx:x>0
 ·have a2:Qg x 0>0:=by rw[aD];exact hx
  have HP:=Qh (show JP x y z=true by unfold JP;simp[hx]);clear aD;go_wp2_with fail;go_ret
  exact⟨by first|rfl|(rw[HP.out];rfl),((aC.out _).1 HF.out).2.2.2.2.2⟩
 have a2:¬ Qg x 0>0:=by rw[aD];exact hx
 clear aD;obtain⟨cc,bD⟩:∃ cc,Qg x 0=cc:=⟨_,rfl⟩;rw[bD] at a2 |-;clear bD;have bY:cc<=0:=by omega
 go_wp2_with fail;refine mz (QZ _ z wc1 ((aC.out _).1 HF.out).2.2.2.2.1) fun wc2 hb=>?_;replace HF:=hu hb HF;clear hb;clear aZ aY aX aW aV aU;obtain⟨aZ,aY,aX,aW,aV,aU⟩:=QY ((aC.out _).1 HF.out).1;have aD:(Qg z 0>0)=(z>0):=by rw[eq_iff_iff];unfold Qg;split <;> (try split) <;> omega
 by_cases hz:z>0
 ·have a2:Qg z 0>0:=by rw[aD];exact hz
  have HP:=Qh (show JP x y z=true by unfold JP;simp[hz]);clear aD;go_wp2_with fail;go_ret
  exact⟨by first|rfl|(rw[HP.out];rfl),((aC.out _).1 HF.out).2.2.2.2.2⟩
 have a2:¬ Qg z 0>0:=by rw[aD];exact hz
 clear aD;obtain⟨ce,bC⟩:∃ cc,Qg z 0=cc:=⟨_,rfl⟩;rw[bC] at a2 |-;clear bC;have bX:ce<=0:=by omega
 clear aZ aY aX aW aV aU;go_upto_region 3 with fail;refine Qc (by kernel_rfl) [] (S:=fun w'=>Qml w' (w.heap.size) aH aR aK aO aG aQ aJ aM aF aP aI aL) (QY ((aC.out _).1 HF.out).1) (fun aA=>?_);replace HF:=Qh (kF.dr HF.out);generalize wc2.drew=wd at *;(refine tS 0 rfl ?_;refine tS 1 rfl ?_)
 (refine oL 2 rfl fun K hK=>tL ?_;go_simp);refine mz (QZ _ y wd ((aC.out _).1 HF.out).2.2.2.1) fun wc3 hb=>?_;have aB:=nu hb aA;replace HF:=hu hb HF;clear hb;(go_wp2_with fail;clear aA;refine nxL hK aB fun aA=>tL ?_;clear hK);clear aB;have a4:(Qg y 0>0)=(y>0):=by rw[eq_iff_iff];unfold Qg;split <;> (try split) <;> omega
 by_cases hy:y>0
 case neg=>
  have a6:¬ Qg y 0>0:=by rw[a4];exact hy
  have HP:=Qh (show JP x y z=false by unfold JP;simp[hx,hz,hy]);clear a4;obtain⟨cd,a1⟩:∃ cc,Qg y 0=cc:=⟨_,rfl⟩;rw[a1] at a6 |-;clear a1;have bV:cd<=0:=by omega
  (refine tS 3 rfl ?_;refine tS 4 rfl ?_)
  (refine uL 5 rfl ?_;refine uL 6 rfl ?_;refine uL 7 rfl ?_;refine uL 8 rfl ?_;refine uL 9 rfl ?_;refine uL 10 rfl ?_;refine uL 11 rfl ?_;refine uL 12 rfl ?_;refine uL 13 rfl ?_;refine uL 14 rfl ?_;refine uL 15 rfl ?_;refine uL 16 rfl ?_;refine uL 17 rfl ?_;refine uL 18 rfl ?_)
  (refine tS 19 rfl ?_)
  (refine pL 20 rfl ?_)
  refine dT ?_;clear aA;go_wp2_with fail;go_ret
  exact⟨by first|rfl|(rw[HP.out];rfl),((aC.out _).1 HF.out).2.2.2.2.2⟩
 have a6:Qg y 0>0:=by rw[a4];exact hy
 have HP:=Qh (show JP x y z=decide (y*y>=4*(x*z)) by unfold JP;rw[decide_eq_false (show ¬ x>0 by omega),decide_eq_false (show ¬ z>0 by omega),decide_eq_true hy];simp only[Bool.false_or,Bool.true_and]);clear a4;obtain⟨cd,a1⟩:∃ cc,Qg y 0=cc:=⟨_,rfl⟩;rw[a1] at a6 |-;clear a1;have z1:=Qj y y;have z2:=Qj x z;have z3:=Qj 4 (x*z);have z4:sz 4<=1:=by decide
 (refine tS 3 rfl ?_;refine tS 4 rfl ?_;refine tS 5 rfl ?_;refine tS 6 rfl ?_;refine tS 7 rfl ?_;refine tS 8 rfl ?_;refine tS 11 rfl ?_;refine tS 12 rfl ?_;refine tS 13 rfl ?_;refine tS 14 rfl ?_)
 (refine oL 9 rfl fun K hK=>tL ?_;go_simp);refine mn (QI _ _ y y wc3 ((aC.out _).1 HF.out).2.2.2.1 ((aC.out _).1 HF.out).2.2.2.1 (by omega) (by omega)) fun v wc4 hv hb=>?_;obtain⟨bI,bU,bM,bQ,rfl⟩:=hv.shape;have aB:=nu hb aA;replace HF:=hu hb HF;have aE:=Qh hv;clear hb hv;(go_wp2_with fail;clear aA;refine nxL hK aB fun aA=>tL ?_;clear hK);clear aB;(refine oL 10 rfl fun K hK=>tL ?_;go_simp);refine mn (Qm 4 wc4 (by decide) (by decide)) fun v wc5 hv hb=>?_;obtain⟨bH,bT,bL,bP,rfl⟩:=hv.shape;have aB:=nu hb aA;replace aE:=hu hb aE;replace HF:=hu hb HF;have aS:=Qh hv;clear hb hv;(go_wp2_with fail;clear aA;refine nxL hK aB fun aA=>tL ?_;clear hK);clear aB;(refine oL 15 rfl fun K hK=>tL ?_;go_simp);refine mn (QI _ _ x z wc5 ((aC.out _).1 HF.out).2.2.1 ((aC.out _).1 HF.out).2.2.2.2.1 (by omega) (by omega)) fun v wc6 hv hb=>?_;obtain⟨bG,bS,bK,bO,rfl⟩:=hv.shape;have aB:=nu hb aA;replace aE:=hu hb aE;replace aS:=hu hb aS;replace HF:=hu hb HF;have a3:=Qh hv;clear hb hv;(go_wp2_with fail;clear aA;refine nxL hK aB fun aA=>tL ?_;clear hK);clear aB;(refine oL 16 rfl fun K hK=>tL ?_;go_simp);refine mn (QI _ _ 4 (x*z) wc6 aS.out a3.out (by omega) (by omega)) fun v wc7 hv hb=>?_;obtain⟨bF,bR,bJ,bN,rfl⟩:=hv.shape;have aB:=nu hb aA;replace aE:=hu hb aE;replace aS:=hu hb aS;replace a3:=hu hb a3;replace HF:=hu hb HF;have a8:=Qh hv;clear hb hv;(go_wp2_with fail;clear aA;refine nxL hK aB fun aA=>tL ?_;clear hK);clear aB;(refine oL 17 rfl fun K hK=>tL ?_;go_simp);refine mz (J3 _ _ (y*y) (4*(x*z)) wc7 aE.out a8.out (by omega) (by omega)) fun wc8 hb=>?_;have aB:=nu hb aA;replace aE:=hu hb aE;replace aS:=hu hb aS;replace a3:=hu hb a3;replace a8:=hu hb a8;replace HF:=hu hb HF;clear hb;(go_wp2_with fail;clear aA;refine nxL hK aB fun aA=>tL ?_;clear hK);clear aB;have a5:(Qg (y*y) (4*(x*z))>=0)=(y*y>=4*(x*z)):=by rw[eq_iff_iff];unfold Qg;split <;> (try split) <;> omega
 by_cases hge:y*y>=4*(x*z)
 ·have a7:Qg (y*y) (4*(x*z))>=0:=by rw[a5];exact hge
  rw[decide_eq_true hge] at HP;obtain⟨cf,a0⟩:∃ cc,Qg (y*y) (4*(x*z))=cc:=⟨_,rfl⟩;rw[a0] at a7 |-;clear a0 a5;(refine tS 18 rfl ?_;refine tS 19 rfl ?_)
  (refine pL 20 rfl ?_)
  refine dT ?_;clear aA;go_wp2_with fail;go_ret
  exact⟨by first|rfl|(rw[HP.out];rfl),((aC.out _).1 HF.out).2.2.2.2.2⟩
 ·have a7:¬ Qg (y*y) (4*(x*z))>=0:=by rw[a5];exact hge
  rw[decide_eq_false hge] at HP;obtain⟨cf,a0⟩:∃ cc,Qg (y*y) (4*(x*z))=cc:=⟨_,rfl⟩;rw[a0] at a7 |-;clear a0 a5;have bW:cf<0:=by omega
  (refine tS 18 rfl ?_;refine tS 19 rfl ?_)
  (refine pL 20 rfl ?_)
  refine dT ?_;clear aA;go_wp2_with fail;go_ret
  exact⟨by first|rfl|(rw[HP.out];rfl),((aC.out _).1 HF.out).2.2.2.2.2⟩
theorem Qlf {p i k:Nat} (hp:2<=p) (h:i<=k) (hi:4096<p ^ i):4096<p ^ k:=Nat.lt_of_lt_of_le hi (Nat.pow_le_pow_right (by omega) h)
theorem Qbd (p k:Nat) (w:World) (hp:2<=p) (hp2:p<=4096) (hk:k<=9223372036854775807) :
  Calls Tryz.prog 75 #[.int .i64 (p:Int),.int .i64 (k:Int)] w fun e' w'=>e'=.returned (.int .i64 ((if p ^ k<=4096 then p ^ k else 0:Nat):Int))/\w'=w:=by
 obtain⟨R,hR⟩:∃ R:Nat,(if p ^ k<=4096 then p ^ k else 0)=R:=⟨_,rfl⟩;rw[hR];have aD:=Qh hR;clear hR;go_enter Tryz.func75,Tryz.ntmps75
 go_wp2_with fail
 go_loopw [5,6] (fun s5 s6 wr=>∃ (o i:Nat),s5=.int .i64 (o:Int)/\s6=.int .i64 (i:Int)/\i<=k/\Hid ((o≠0/\o=p ^ i/\o<=4096)\/(o=0/\4096<p ^ i))/\wr=w)
  (fun _ s6 _=>k-(intOf s6).toNat)
 case atStart=>exact⟨1,0,rfl,rfl,Nat.zero_le _,Qh (.inl ⟨by decide,by simp,by decide⟩),by first|rfl|trivial⟩
 case round=>
  obtain⟨o,i,rfl,rfl,hi,HO,rfl⟩:=hrel;by_cases hik:i<k
  ·have i1:(i:Int)<(k:Int):=by omega
   by_cases ho:o=0
   ·subst ho
    have HR:=Qh (show R=0 from aD.out.symm.trans (if_neg (by
     rcases HO.out with ⟨h,-⟩|⟨-,h⟩
     ·exact absurd rfl h
     ·have:=Qlf hp (by omega:i<=k) h;omega)))
    have e0:((0:Nat):Int)=0:=rfl;rw[e0];clear e0;go_wp2_with fail;go_ret
    exact⟨by rw[HR.out];rfl,rfl⟩
   ·obtain⟨aB,aE⟩:o=p ^ i/\o<=4096:=by
     rcases HO.out with ⟨-,h1,h2⟩|⟨h,-⟩
     ·exact⟨h1,h2⟩
     ·exact absurd h ho
    have aA:=Qh (show o*p=p ^ (i+1) by rw[aB,Nat.pow_succ]);have hm:o*p<=4096*4096:=Nat.mul_le_mul aE hp2;have aF:1<=o*p:=Nat.mul_pos (by omega) (by omega);have h0:¬ (o:Int)=0:=by omega
    have e1:(o:Int)*(p:Int)=((o*p:Nat):Int):=(Int.natCast_mul o p).symm;obtain⟨m,aC⟩:∃ m,o*p=m:=⟨_,rfl⟩;rw[aC] at aA hm e1 aF;have e2:IntKind.i64.wrap (m:Int)=(m:Int):=by rw[IntKind.wrap_i64];omega
    have j7:IntKind.i64.wrap ((i:Int)+1)=((i+1:Nat):Int):=by rw[IntKind.wrap_i64];omega
    clear aB aC HO;by_cases hbig:4096<m
    ·have hb:(m:Int)>4096:=by omega
     have HN:=Qh (show (0≠0/\0=p ^ (i+1)/\0<=4096)\/(0=0/\4096<p ^ (i+1)) from .inr ⟨rfl,by rw[<- aA.out];exact hbig⟩);go_wp2_with fail;exact⟨⟨0,i+1,rfl,rfl,by omega,HN,by first|rfl|trivial⟩,by simp only[intOf,Int.toNat_natCast];omega⟩
    ·have hb:¬ (m:Int)>4096:=by omega
     have HN:=Qh (show (m≠0/\m=p ^ (i+1)/\m<=4096)\/(m=0/\4096<p ^ (i+1)) from .inl ⟨by omega,aA.out,by omega⟩);go_wp2_with fail;exact⟨⟨m,i+1,rfl,rfl,by omega,HN,by first|rfl|trivial⟩,by simp only[intOf,Int.toNat_natCast];omega⟩
  ·obtain rfl:i=k:=by omega
   have HR:=Qh (show R=o from aD.out.symm.trans (by
    rcases HO.out with ⟨-,h1,h2⟩|⟨h1,h2⟩
    ·rw[<- h1,if_pos h2]
    ·rw[if_neg (by omega),h1]))
   go_wp2_with fail;go_ret
   exact⟨by rw[HR.out];rfl,rfl⟩
theorem Qid {n d:Nat} (hn:2<=n) (h:∀ e,2<=e->e<d->¬ e∣n) (hd:n<d*d):Pri n:=by
 refine⟨hn,fun e h2 he hdv=>?_⟩;obtain⟨f,hf⟩:=hdv;rcases Nat.lt_or_ge e d with h1|h1
 ·exact h e h2 h1 ⟨f,hf⟩
 ·rcases Nat.lt_or_ge f d with h3|h3
  ·refine h f ?_ h3 ⟨e,by rw[hf,Nat.mul_comm]⟩;rcases Nat.lt_or_ge f 2 with h4|h4
   ·have:f=0\/f=1:=by omega
    rcases this with rfl|rfl <;> omega
   ·exact h4
  ·have:=Nat.mul_le_mul h1 h3;omega
theorem QdK (n:Nat) (w:World) (hn:n<=4096) (hn2:2<=n) :
  Calls Tryz.prog 76 #[.int .i64 (n:Int)] w fun e' w'=>e'=.returned (.bool (QdR n))/\w'=w:=by
 go_enter Tryz.func76,Tryz.ntmps76
 go_wp2_with fail
 go_loopw [2,3] (fun _ s3 wr=>∃ d:Nat,s3=.int .i64 (d:Int)/\2<=d/\d<=65/\Hid (∀ e,2<=e->e<d->¬ e∣n)/\wr=w)
  (fun _ s3 _=>100-(intOf s3).toNat)
 case atStart=>exact⟨2,rfl,by decide,by decide,Qh (fun e h1 h2=>by omega),by first|rfl|trivial⟩
 case round=>
  obtain⟨d,rfl,aA,hd,HD,rfl⟩:=hrel;have hq:d*d<=65*65:=Nat.mul_le_mul hd hd;have aC:2*2<=d*d:=Nat.mul_le_mul aA aA;have e1:(d:Int)*(d:Int)=((d*d:Nat):Int):=(Int.natCast_mul d d).symm;obtain⟨q,aB⟩:∃ q,d*d=q:=⟨_,rfl⟩;rw[aB] at hq aC e1;have e2:IntKind.i64.wrap (q:Int)=(q:Int):=by rw[IntKind.wrap_i64];omega
  have HQ:=Qh aB;clear aB;by_cases hle:q<=n
  ·have c0:(q:Int)<=(n:Int):=by omega
   have aF:d<=64:=by
    rcases Nat.lt_or_ge 64 d with h|h
    ·have:=Nat.mul_le_mul (show 65<=d from h) (show 65<=d from h);have:=HQ.out;omega
    ·exact h
   have d0:¬ (d:Int)=0:=by omega
   have e3:(n:Int).tmod (d:Int)=((n%d:Nat):Int):=by rw[Int.tmod_eq_emod_of_nonneg (by omega)];rfl
   obtain⟨r,hr⟩:∃ r,n%d=r:=⟨_,rfl⟩;rw[hr] at e3;have aD:r<d:=by rw[<- hr];exact Nat.mod_lt _ (by omega)
   have e4:IntKind.i64.wrap (r:Int)=(r:Int):=by rw[IntKind.wrap_i64];omega
   have HR:=Qh hr;clear hr;by_cases hr0:r=0
   ·subst hr0;have e5:((0:Nat):Int)=0:=rfl;rw[e5] at e3
    have HP:=Qh (show QdR n=false by
     rw[Bool.eq_false_iff];intro h;refine(J7.1 h).2 d aA ?_ (Nat.dvd_of_mod_eq_zero HR.out);have:=HQ.out;have:=Nat.mul_le_mul_right d aA;omega)
    clear e5 e4;go_wp2_with fail;go_ret
    exact⟨by rw[HP.out];rfl,rfl⟩
   ·have aE:((r:Int) == 0)=false:=by rw[beq_eq_false_iff_ne];omega
    have HN:=Qh (show ∀ e,2<=e->e<d+1->¬ e∣n from fun e h1 h2=>by
     by_cases h3:e=d
     ·subst h3;intro h4;exact hr0 (by rw[<- HR.out];exact Nat.mod_eq_zero_of_dvd h4)
     ·exact HD.out e h1 (by omega))
    have j7:IntKind.i64.wrap ((d:Int)+1)=((d+1:Nat):Int):=by rw[IntKind.wrap_i64];omega
    clear hr0;go_wp2_with fail;exact⟨⟨d+1,rfl,by omega,by omega,HN,by first|rfl|trivial⟩,by simp only[intOf,Int.toNat_natCast];omega⟩
  ·have c0:¬ (q:Int)<=(n:Int):=by omega
   have c1:(n:Int)>1:=by omega
   have HP:=Qh (show QdR n=true from J7.2 (Qid hn2 HD.out (by rw[HQ.out];omega)));go_wp2_with fail;go_ret
   exact⟨by rw[HP.out];rfl,rfl⟩
theorem Qaj (va:Value) (n:Int) (q:Nat) (w:World) (hn:It w va n) (hs:sz n<=1000000) (h1:1<=q) (h2:q<=4096) :
  Calls Tryz.prog 128 #[va,.int .i64 (q:Int)] w fun e' w'=>e'=.returned (.int .i64 (res n q:Int))/\Below w.heap.size w w':=by
 obtain⟨aC,aF,aD,aE,rfl⟩:=hn.shape;obtain⟨F,aM,kF⟩:=kpe (fun w'=>w'.heap[w.heap.size]? = some (Qma 33 aC aF aD aE)/\It w' (Qme aC aF aD aE) (n)/\Below w.heap.size w w');have aI:=Qh aM;clear aM;have aJ:=Qa w (Qma 33 aC aF aD aE);have d0:=Zk1 w (Qma 33 aC aF aD aE);have HF:Hid (F (w.alloc (Qma 33 aC aF aD aE))):=Qh ((aI.out _).2 ⟨d0,hn.up aJ,aJ⟩);clear aJ d0  hn;go_enter Tryz.func128,Tryz.ntmps128
 go_upto_region 1 with fail;generalize w.alloc (Qma 33 aC aF aD aE)=W at *;refine Qc (by kernel_rfl) [] (S:=fun w'=>Qmj w' (w.heap.size) aC aF aD aE) (Qz ((aI.out _).1 HF.out).1) (fun aA=>?_);replace HF:=Qh (kF.dr HF.out);generalize W.drew=wa at *;have aL:(q:Int)≠0:=by omega
 have aY:sz (q:Int)<=2:=QbF (by omega);(refine tS 0 rfl ?_;refine tS 1 rfl ?_)
 (refine oL 2 rfl fun K hK=>tL ?_;go_simp);refine mn (Qm (q:Int) wa (by omega) (by omega)) fun v wc1 hv hb=>?_;obtain⟨aP,aW,aR,aT,rfl⟩:=hv.shape;have aB:=nu hb aA;replace HF:=hu hb HF;have aH:=Qh hv;clear hb hv;(go_wp2_with fail;clear aA;refine nxL hK aB fun aA=>tL ?_;clear hK);clear aB;(refine oL 3 rfl fun K hK=>tL ?_;go_simp);refine mn (QeV _ _ n (q:Int) wc1 ((aI.out _).1 HF.out).2.1 aH.out aL (by omega) (by omega)) fun v wc2 hv hb=>?_;obtain⟨aO,aV,aQ,aS,rfl⟩:=hv.shape;have aB:=nu hb aA;replace aH:=hu hb aH;replace HF:=hu hb HF;have aG:=Qh hv;clear hb hv;(go_wp2_with fail;clear aA;refine nxL hK aB fun aA=>tL ?_;clear hK);clear aB;have aK:n%(q:Int)=(res n q:Int):=by unfold res;rw[Int.toNat_of_nonneg (Int.emod_nonneg _ aL)]
 have aU:res n q<q:=by have:=Int.emod_lt_of_pos n (show 0<(q:Int) by omega);omega
 rw[aK] at aG;clear aK;obtain⟨r,hr⟩:∃ r,res n q=r:=⟨_,rfl⟩;rw[hr] at aG aU;have aX:=Qh hr;clear hr;(refine oL 4 rfl fun K hK=>tL ?_;go_simp);refine mz (Qcd _ r wc2 aG.out (by omega)) fun wc3 hb=>?_;have aB:=nu hb aA;replace aH:=hu hb aH;replace aG:=hu hb aG;replace HF:=hu hb HF;clear hb;(go_wp2_with fail;clear aA;refine nxL hK aB fun aA=>tL ?_;clear hK);clear aB;(refine tS 5 rfl ?_;refine tS 6 rfl ?_;refine tS 7 rfl ?_)
 (refine pL 8 rfl ?_;refine pL 9 rfl ?_)
 refine dT ?_;clear aA;go_wp2_with fail;go_ret
 exact⟨by rw[aX.out];rfl,((aI.out _).1 HF.out).2.2⟩
theorem Qkz (z:Int) (k:Nat) (hz:z=k) (hk:k<=1099511627776) (w:World) :
  (Instr.makeSlice 184 (.int .i64 z) (.int .i64 z)).run Tryz.prog w=.ok (.slice (some ⟨w.heap.size,0,none⟩) k k) (w.alloc (.cells (madeCells #[.bool false] k) 4)):=by
 subst hz;obtain⟨i0,hi,aC,aB,aA⟩:=info_parts (show (Tryz.prog.info? 4).map (fun i=>(i.zero,i.size,i.bytes))=some (some (.bool false),1,1) by kernel_rfl);have h:=run_make (P:=Tryz.prog) w 184 4 i0 (.bool false) Tryz.underlying184 hi aC .i64 .i64 (k:Int) (k:Int) (by omega) (Int.le_refl _) (by rw[aA];omega) (by omega);simpa [aB,Value.cells] using h
def mrk (q i v:Nat):Bool:=(List.range i).any fun n=>decide (n*n%q=v)
theorem Qik {q i v:Nat}:QjK (fun v=>.bool (mrk q i v)) (i*i%q) (.bool true) v=.bool (mrk q (i+1) v):=by
 unfold mrk;rw[List.range_succ,List.any_append];unfold QjK;by_cases h:v=i*i%q
 ·subst h;simp
 ·have h':¬ i*i%q=v:=fun e=>h e.symm;simp[h,h']
theorem Qd2 (u q:Nat):(u:Int).tmod (q:Int)=((u%q:Nat):Int):=by rw[Int.tmod_eq_emod_of_nonneg (by omega)];rfl
theorem QcH {a b c p q j:Nat} (h:∀ i,i<j->Qdp a b c p q i=false) (hj:Qdp a b c p q j=false):∀ i,i<j+1->Qdp a b c p q i=false:=fun i hi=>by
 by_cases e:i=j
 ·subst e;exact hj
 ·exact h i (by omega)
theorem Qd9 (va:Value) (x y z:Int) (p q:Nat) (w:World) (h:Sx w va x y z) (hq1:1<=q) (hq2:q<=4096) (hp1:1<=p) (hp2:p<=4096) (hx9:sz x<=1000000) (hy9:sz y<=1000000) (hz9:sz z<=1000000) :
  Calls Tryz.prog 77 #[va,.int .i64 (p:Int),.int .i64 (q:Int)] w fun e' w'=>e'=.returned (.bool (QdL x y z p q))/\Below w.heap.size w w':=by
 have qp:=h;obtain⟨aD,aO,aG,aJ,aC,aM,aF,aI,aB,aL,aE,aH,rfl,aV,hp1,hp2⟩:=h;obtain⟨F,bB,kF⟩:=kpe (fun w'=>w'.heap[w.heap.size]? = some (Qmc 53 aD aO aG aJ aC aM aF aI aB aL aE aH)/\Sx w' (Qmg aD aO aG aJ aC aM aF aI aB aL aE aH) (x) (y) (z)/\It w' (Qme aD aO aG aJ) (x)/\It w' (Qme aC aM aF aI) (y)/\It w' (Qme aB aL aE aH) (z)/\Below w.heap.size w w');have aP:=Qh bB;clear bB;have aR:=Qa w (Qmc 53 aD aO aG aJ aC aM aF aI aB aL aE aH);have d0:=Zk1 w (Qmc 53 aD aO aG aJ aC aM aF aI aB aL aE aH);have HF:Hid (F (w.alloc (Qmc 53 aD aO aG aJ aC aM aF aI aB aL aE aH))):=Qh ((aP.out _).2 ⟨d0,qp.up aR,aV.up aR,hp1.up aR,hp2.up aR,aR⟩);clear aR d0  qp aV hp1 hp2;go_enter Tryz.func77,Tryz.ntmps77
 go_upto_region 1 with fail;generalize w.alloc (Qmc 53 aD aO aG aJ aC aM aF aI aB aL aE aH)=W at *;obtain⟨SB,bA⟩:∃ r,QdL x y z p q=r:=⟨_,rfl⟩;have aS:=Qh bA;clear bA;have bH:=Qkz (q:Int) q rfl (by omega);have hO:=Own.made W 4 q (.bool false) rfl;have a9:=Qa W (.cells (madeCells #[.bool false] q) 4);have bP:¬ (q:Int)=0:=by omega
 have bO:¬ (q:Int) = -1:=by omega
 go_wp2_with fail;clear bH;have HO:=Qh (show Own (W.alloc (.cells (madeCells #[.bool false] q) 4)) W.heap.size 4 q (fun v=>.bool (mrk q 0 v)) from hO);have HW:=Qh a9;clear hO a9;generalize W.alloc (.cells (madeCells #[.bool false] q) 4)=W1 at *;obtain⟨G,hG⟩:∃ G,W.heap.size=G:=⟨_,rfl⟩;have HG:=Qh hG;rw[hG] at HO |-;clear hG
 go_loopw [8] (fun s8 wr=>∃ i:Nat,s8=.int .i64 (i:Int)/\i<=q/\Hid (Own wr G 4 q (fun v=>.bool (mrk q i v)))/\Hid (Below W.heap.size W wr))
  (fun s8 _=>q-(intOf s8).toNat)
 case atStart=>exact⟨0,rfl,Nat.zero_le _,HO,HW⟩
 case round=>
  clear HO HW;obtain⟨i,rfl,hi,HO,HW⟩:=hrel;by_cases hiq:i<q
  ·have i1:(i:Int)<(q:Int):=by omega
   have hm:i*i<=4096*4096:=Nat.mul_le_mul (by omega) (by omega);have e1:(i:Int)*(i:Int)=((i*i:Nat):Int):=(Int.natCast_mul i i).symm;have aT:=Qh (fun v=>Qik (q:=q) (i:=i) (v:=v));obtain⟨u,hU⟩:∃ u,i*i=u:=⟨_,rfl⟩;rw[hU] at hm e1 aT;have e2:IntKind.i64.wrap (u:Int)=(u:Int):=by rw[IntKind.wrap_i64];omega
   have e3:=Qd2 u q;have aU:u%q<q:=Nat.mod_lt _ (by omega);obtain⟨r,hr⟩:∃ r,u%q=r:=⟨_,rfl⟩;rw[hr] at e3 aU aT;have e4:IntKind.i64.wrap (r:Int)=(r:Int):=by rw[IntKind.wrap_i64];omega
   have r0:(0:Int)<=(r:Int):=by omega
   have r1:(r:Int)<(q:Int):=by omega
   have c0:=HO.out.cell aU;have f0:=HO.out.free r;have bL:=Qh ((HO.out.set aU (.bool true)).congr (fun v _=>aT.out v));have bK:=Qh (HW.out.setCell (p:=⟨G,r,none⟩) (by show W.heap.size<=G;rw[HG.out];exact Nat.le_refl _) (.bool true));have j7:IntKind.i64.wrap ((i:Int)+1)=((i+1:Nat):Int):=by rw[IntKind.wrap_i64];omega
   clear hU hr aT HO HW;go_wp2_with fail;exact⟨⟨i+1,rfl,by omega,bL,bK⟩,by simp only[intOf,Int.toNat_natCast];omega⟩
  obtain rfl:i=q:=by omega
  replace HF:=Qh (kF.up HF.out HW.out);clear HW;go_upto_region 6 with fail;refine Qc (by kernel_rfl) [] (S:=fun w'=>Qml w' (w.heap.size) aD aO aG aJ aC aM aF aI aB aL aE aH) (QY ((aP.out _).1 HF.out).1) (fun aA=>?_);replace HF:=Qh (kF.dr HF.out);replace HO:=Qh HO.out.drew;generalize wr.drew=wd at *;(refine tS 0 rfl ?_;refine tS 1 rfl ?_;refine tS 2 rfl ?_;refine tS 4 rfl ?_;refine tS 5 rfl ?_;refine tS 6 rfl ?_;refine tS 8 rfl ?_;refine tS 9 rfl ?_;refine tS 10 rfl ?_)
  (refine oL 3 rfl fun K hK=>tL ?_;go_simp);refine mz (Qaj _ x i wd ((aP.out _).1 HF.out).2.2.1 (by omega) hq1 hq2) fun wc1 hb=>?_;have aK:=nu hb aA;replace HO:=Qh (HO.out.up hb);replace HF:=hu hb HF;clear hb;(go_wp2_with fail;clear aA;refine nxL hK aK fun aA=>tL ?_;clear hK);clear aK;(refine oL 7 rfl fun K hK=>tL ?_;go_simp);refine mz (Qaj _ y i wc1 ((aP.out _).1 HF.out).2.2.2.1 (by omega) hq1 hq2) fun wc2 hb=>?_;have aK:=nu hb aA;replace HO:=Qh (HO.out.up hb);replace HF:=hu hb HF;clear hb;(go_wp2_with fail;clear aA;refine nxL hK aK fun aA=>tL ?_;clear hK);clear aK;(refine oL 11 rfl fun K hK=>tL ?_;go_simp);refine mz (Qaj _ z i wc2 ((aP.out _).1 HF.out).2.2.2.2.1 (by omega) hq1 hq2) fun wc3 hb=>?_;have aK:=nu hb aA;replace HO:=Qh (HO.out.up hb);replace HF:=hu hb HF;clear hb;(go_wp2_with fail;clear aA;refine nxL hK aK fun aA=>tL ?_;clear hK);clear aK;(refine pL 12 rfl ?_;refine pL 13 rfl ?_;refine pL 14 rfl ?_)
  refine dT ?_;clear aA;have ha:res x i<i:=by unfold res;have:=Int.emod_lt_of_pos x (show 0<(i:Int) by omega);have:=Int.emod_nonneg x (show (i:Int)≠0 by omega);omega
  have hb:res y i<i:=by unfold res;have:=Int.emod_lt_of_pos y (show 0<(i:Int) by omega);have:=Int.emod_nonneg y (show (i:Int)≠0 by omega);omega
  have hc:res z i<i:=by unfold res;have:=Int.emod_lt_of_pos z (show 0<(i:Int) by omega);have:=Int.emod_nonneg z (show (i:Int)≠0 by omega);omega
  have aQ:=Qh (show Qj2 (res x i) (res y i) (res z i) p i=SB from aS.out);generalize res x i=a at *;generalize res y i=b at *;generalize res z i=c at *;go_wp2_with fail
  go_loopw [12,13] (fun s12 _ wq=>∃ j:Nat,s12=.int .i64 (j:Int)/\j<=i/\Hid (∀ k,k<j->Qdp a b c p i k=false)/\wq=wc3)
   (fun s12 _ _=>i-(intOf s12).toNat)
  case atStart=>exact⟨0,rfl,Nat.zero_le _,Qh (fun k hk=>by omega),by first|rfl|trivial⟩
  case round=>
   obtain⟨j,rfl,hj,HN,rfl⟩:=hrel;by_cases hji:j<i
   ·have i1:(j:Int)<(i:Int):=by omega
    have hm:j*j<=4096*4096:=Nat.mul_le_mul (by omega) (by omega);have e1:(j:Int)*(j:Int)=((j*j:Nat):Int):=(Int.natCast_mul j j).symm;obtain⟨u,hU⟩:∃ u,j*j=u:=⟨_,rfl⟩;rw[hU] at hm e1;have e2:IntKind.i64.wrap (u:Int)=(u:Int):=by rw[IntKind.wrap_i64];omega
    have e3:=Qd2 u i;have bG:u%i<i:=Nat.mod_lt _ (by omega);have HV:=Qh (show u%i=j*j%i by rw[hU]);obtain⟨v,hv⟩:∃ v,u%i=v:=⟨_,rfl⟩;rw[hv] at e3 bG HV;have e4:IntKind.i64.wrap (v:Int)=(v:Int):=by rw[IntKind.wrap_i64];omega
    clear hU hv;have bF:a*v<=4096*4096:=Nat.mul_le_mul (by omega) (by omega);have f1:(a:Int)*(v:Int)=((a*v:Nat):Int):=(Int.natCast_mul a v).symm;obtain⟨fu,a5⟩:∃ u,a*v=u:=⟨_,rfl⟩;rw[a5] at bF f1;have f2:IntKind.i64.wrap (fu:Int)=(fu:Int):=by rw[IntKind.wrap_i64];omega
    have f3:(fu:Int)+(b:Int)=((fu+b:Nat):Int):=(Int.natCast_add _ _).symm;obtain⟨fv,a4⟩:∃ u,fu+b=u:=⟨_,rfl⟩;rw[a4] at f3;have f4:IntKind.i64.wrap (fv:Int)=(fv:Int):=by rw[IntKind.wrap_i64];omega
    have f5:=Qd2 fv i;have fl:fv%i<i:=Nat.mod_lt _ (by omega);obtain⟨fw,a3⟩:∃ u,fv%i=u:=⟨_,rfl⟩;rw[a3] at f5 fl;have f6:IntKind.i64.wrap (fw:Int)=(fw:Int):=by rw[IntKind.wrap_i64];omega
    have bE:fw*v<=4096*4096:=Nat.mul_le_mul (by omega) (by omega);have f7:(fw:Int)*(v:Int)=((fw*v:Nat):Int):=(Int.natCast_mul fw v).symm;obtain⟨fx,a2⟩:∃ u,fw*v=u:=⟨_,rfl⟩;rw[a2] at bE f7;have f8:IntKind.i64.wrap (fx:Int)=(fx:Int):=by rw[IntKind.wrap_i64];omega
    have f9:(fx:Int)+(c:Int)=((fx+c:Nat):Int):=(Int.natCast_add _ _).symm;obtain⟨fy,a1⟩:∃ u,fx+c=u:=⟨_,rfl⟩;rw[a1] at f9;have bX:IntKind.i64.wrap (fy:Int)=(fy:Int):=by rw[IntKind.wrap_i64];omega
    have bJ:=Qd2 fy i;have fr:fy%i<i:=Nat.mod_lt _ (by omega);have Hf:=Qh (show fy%i=((a*v+b)%i*v+c)%i by rw[<- a1,<- a2,<- a3,<- a4,<- a5]);obtain⟨fz,a8⟩:∃ u,fy%i=u:=⟨_,rfl⟩;rw[a8] at bJ fr Hf;have bW:IntKind.i64.wrap (fz:Int)=(fz:Int):=by rw[IntKind.wrap_i64];omega
    have bV:(0:Int)<=(fz:Int):=by omega
    have bU:(fz:Int)<(i:Int):=by omega
    have fc:=HO.out.cell fr;clear a5 a4 a3 a2 a1 a8 bF bE fl fr;have bD:c*v<=4096*4096:=Nat.mul_le_mul (by omega) (by omega);have g1:(c:Int)*(v:Int)=((c*v:Nat):Int):=(Int.natCast_mul c v).symm;obtain⟨gu,a0⟩:∃ u,c*v=u:=⟨_,rfl⟩;rw[a0] at bD g1;have g2:IntKind.i64.wrap (gu:Int)=(gu:Int):=by rw[IntKind.wrap_i64];omega
    have g3:(gu:Int)+(b:Int)=((gu+b:Nat):Int):=(Int.natCast_add _ _).symm;obtain⟨gv,aZ⟩:∃ u,gu+b=u:=⟨_,rfl⟩;rw[aZ] at g3;have g4:IntKind.i64.wrap (gv:Int)=(gv:Int):=by rw[IntKind.wrap_i64];omega
    have g5:=Qd2 gv i;have gl:gv%i<i:=Nat.mod_lt _ (by omega);obtain⟨gw,aY⟩:∃ u,gv%i=u:=⟨_,rfl⟩;rw[aY] at g5 gl;have g6:IntKind.i64.wrap (gw:Int)=(gw:Int):=by rw[IntKind.wrap_i64];omega
    have bC:gw*v<=4096*4096:=Nat.mul_le_mul (by omega) (by omega);have g7:(gw:Int)*(v:Int)=((gw*v:Nat):Int):=(Int.natCast_mul gw v).symm;obtain⟨gx,aX⟩:∃ u,gw*v=u:=⟨_,rfl⟩;rw[aX] at bC g7;have g8:IntKind.i64.wrap (gx:Int)=(gx:Int):=by rw[IntKind.wrap_i64];omega
    have g9:(gx:Int)+(a:Int)=((gx+a:Nat):Int):=(Int.natCast_add _ _).symm;obtain⟨gy,aW⟩:∃ u,gx+a=u:=⟨_,rfl⟩;rw[aW] at g9;have bT:IntKind.i64.wrap (gy:Int)=(gy:Int):=by rw[IntKind.wrap_i64];omega
    have bI:=Qd2 gy i;have gr:gy%i<i:=Nat.mod_lt _ (by omega);have Hg:=Qh (show gy%i=((c*v+b)%i*v+a)%i by rw[<- aW,<- aX,<- aY,<- aZ,<- a0]);obtain⟨gz,a7⟩:∃ u,gy%i=u:=⟨_,rfl⟩;rw[a7] at bI gr Hg;have bS:IntKind.i64.wrap (gz:Int)=(gz:Int):=by rw[IntKind.wrap_i64];omega
    have bR:(0:Int)<=(gz:Int):=by omega
    have bQ:(gz:Int)<(i:Int):=by omega
    have gc:=HO.out.cell gr;clear a0 aZ aY aX aW a7 bD bC gl gr;have ep:=Qd2 j p;have aV:¬ (p:Int)=0:=by omega
    obtain⟨r,hr⟩:∃ r,j%p=r:=⟨_,rfl⟩;rw[hr] at ep;have bM:r<p:=by rw[<- hr];exact Nat.mod_lt _ (by omega)
    have er:IntKind.i64.wrap (r:Int)=(r:Int):=by rw[IntKind.wrap_i64];omega
    have HX:=Qh (show Qdp a b c p i j=(mrk i i fz || (decide (r=0) && mrk i i gz)) by unfold Qdp;rw[<- HV.out,<- Hf.out,<- Hg.out,hr];rfl);clear hr;have j7:IntKind.i64.wrap ((j:Int)+1)=((j+1:Nat):Int):=by rw[IntKind.wrap_i64];omega
    generalize mrk i i fz=m1 at *;generalize mrk i i gz=m2 at *;rcases m1 with _|_
    ·by_cases hr0:r=0
     ·subst hr0;have e0:((0:Nat):Int)=0:=rfl;rw[e0] at ep er;rcases m2 with _|_
      ·have a6:=Qh (QcH HN.out HX.out);go_wp2_with fail;exact⟨⟨j+1,rfl,by omega,a6,by first|rfl|trivial⟩,by simp only[intOf,Int.toNat_natCast];omega⟩
      ·have HR:=Qh (show SB=true by rw[<- aQ.out];exact List.any_eq_true.2 ⟨j,List.mem_range.2 hji,HX.out⟩);go_wp2_with fail;go_ret
       exact⟨by rw[aS.out,HR.out];rfl,((aP.out _).1 HF.out).2.2.2.2.2⟩
     ·have bN:((r:Int) == 0)=false:=by rw[beq_eq_false_iff_ne];omega
      have a6:=Qh (QcH HN.out (by rw[HX.out,decide_eq_false hr0];rfl));clear hr0;go_wp2_with fail;exact⟨⟨j+1,rfl,by omega,a6,by first|rfl|trivial⟩,by simp only[intOf,Int.toNat_natCast];omega⟩
    ·have HR:=Qh (show SB=true by rw[<- aQ.out];exact List.any_eq_true.2 ⟨j,List.mem_range.2 hji,HX.out⟩);go_wp2_with fail;go_ret
     exact⟨by rw[aS.out,HR.out];rfl,((aP.out _).1 HF.out).2.2.2.2.2⟩
   ·obtain rfl:j=i:=by omega
    have HR:=Qh (show SB=false by rw[<- aQ.out];exact List.any_eq_false.2 (fun k hk=>by rw[HN.out k (List.mem_range.1 hk)];decide));go_wp2_with fail;go_ret
    exact⟨by rw[aS.out,HR.out];rfl,((aP.out _).1 HF.out).2.2.2.2.2⟩
theorem Qkg {p k:Nat} (hp:2<=p) (h:p ^ min k 20<=4096):min k 20=k:=by
 rcases Nat.lt_or_ge (min k 20) 13 with e|e
 ·omega
 ·have h1:=Nat.pow_le_pow_right (show 0<2 by decide) e;have h2:=Nat.pow_le_pow_left hp (min k 20);have h3:2 ^ 13=8192:=by decide
  omega
theorem JW (va:Value) (x y z p k:Int) (w:World) (h:Sx w va x y z) (hx9:sz x<=1000000) (hy9:sz y<=1000000) (hz9:sz z<=1000000)
  (hp1 : -9223372036854775808<=p) (hp2:p<=9223372036854775807) (hk1 : -9223372036854775808<=k) (hk2:k<=9223372036854775807) :
  Calls Tryz.prog 26 #[va,.int .i64 p,.int .i64 k] w fun e' w'=>e'=.returned (.tuple #[.bool (JI x y z p k).1,.int .i64 (JI x y z p k).2])/\Below w.heap.size w w':=by
 have qp:=h;obtain⟨aF,aP,aI,aL,aE,aO,aH,aK,aD,aM,aG,aJ,rfl,aX,hp1,hp2⟩:=h;obtain⟨F,a8,kF⟩:=kpe (fun w'=>w'.heap[w.heap.size]? = some (Qmc 53 aF aP aI aL aE aO aH aK aD aM aG aJ)/\Sx w' (Qmg aF aP aI aL aE aO aH aK aD aM aG aJ) (x) (y) (z)/\It w' (Qme aF aP aI aL) (x)/\It w' (Qme aE aO aH aK) (y)/\It w' (Qme aD aM aG aJ) (z)/\Below w.heap.size w w');have aB:=Qh a8;clear a8;have aY:=Qa w (Qmc 53 aF aP aI aL aE aO aH aK aD aM aG aJ);have d0:=Zk1 w (Qmc 53 aF aP aI aL aE aO aH aK aD aM aG aJ);have HF:Hid (F (w.alloc (Qmc 53 aF aP aI aL aE aO aH aK aD aM aG aJ))):=Qh ((aB.out _).2 ⟨d0,qp.up aY,aX.up aY,hp1.up aY,hp2.up aY,aY⟩);clear aY d0  qp aX hp1 hp2;go_enter Tryz.func26,Tryz.ntmps26
 go_upto_region 1 with fail;generalize w.alloc (Qmc 53 aF aP aI aL aE aO aH aK aD aM aG aJ)=W at *;obtain⟨aV,aU,aT,aS,aR,aQ⟩:=QY ((aB.out _).1 HF.out).1;go_wp2_with fail;refine mz (QZ _ x W ((aB.out _).1 HF.out).2.2.1) fun wc1 hb=>?_;replace HF:=hu hb HF;clear hb;clear aV aU aT aS aR aQ;obtain⟨aV,aU,aT,aS,aR,aQ⟩:=QY ((aB.out _).1 HF.out).1;have aC:(Qg x 0 == 0)=decide (x=0):=by rw[Bool.eq_iff_iff];simp[Qr]
 by_cases hx0:x=0
 ·have bB:(Qg x 0 == 0)=true:=by rw[aC];exact decide_eq_true hx0
  have HR:=Qh (show JI x y z p k=(false,1) by unfold JI;rw[if_pos (.inl hx0)]);clear aC hx0;go_wp2_with fail;refine bodyPost_ret (results_tmp2 rfl _ _ _) rfl ?_;exact⟨by rw[HR.out];rfl,((aB.out _).1 HF.out).2.2.2.2.2⟩
 have bH:(Qg x 0 == 0)=false:=by rw[aC];exact decide_eq_false hx0
 clear aC;go_wp2_with fail;refine mz (QZ _ z wc1 ((aB.out _).1 HF.out).2.2.2.2.1) fun wc2 hb=>?_;replace HF:=hu hb HF;clear hb;clear aV aU aT aS aR aQ;obtain⟨aV,aU,aT,aS,aR,aQ⟩:=QY ((aB.out _).1 HF.out).1;have aC:(Qg z 0 == 0)=decide (z=0):=by rw[Bool.eq_iff_iff];simp[Qr]
 by_cases hz0:z=0
 ·have bB:(Qg z 0 == 0)=true:=by rw[aC];exact decide_eq_true hz0
  have HR:=Qh (show JI x y z p k=(false,1) by unfold JI;rw[if_pos (.inr hz0)]);clear aC hz0;go_wp2_with fail;refine bodyPost_ret (results_tmp2 rfl _ _ _) rfl ?_;exact⟨by rw[HR.out];rfl,((aB.out _).1 HF.out).2.2.2.2.2⟩
 have bG:(Qg z 0 == 0)=false:=by rw[aC];exact decide_eq_false hz0
 clear aC;have a3:=Qh (show ¬ (x=0\/z=0) by rintro (e|e);exact hx0 e;exact hz0 e);by_cases hpk:p=0/\k=0
 case pos=>
  obtain⟨rfl,rfl⟩:=hpk;go_wp2_with fail;refine mz (Qbk _ x y z wc2 ((aB.out _).1 HF.out).2.1 hx9 hy9 hz9) fun wc3 hb=>?_;replace HF:=hu hb HF;clear hb;clear aV aU aT aS aR aQ;obtain⟨aV,aU,aT,aS,aR,aQ⟩:=QY ((aB.out _).1 HF.out).1;have HR:=Qh (show JI x y z 0 0=(JP x y z,0) by unfold JI;rw[if_neg a3.out,if_pos ⟨rfl,rfl⟩]);go_wp2_with fail;refine bodyPost_ret (results_tmp2 rfl _ _ _) rfl ?_;exact⟨by rw[HR.out];rfl,((aB.out _).1 HF.out).2.2.2.2.2⟩
 have a4:=Qh hpk;by_cases hlo:p<2\/k<1
 case pos=>
  have HR:=Qh (show JI x y z p k=(false,1) by unfold JI;rw[if_neg a3.out,if_neg a4.out,if_pos hlo]);have aX:p=0->(k == 0)=false:=fun e=>by rw[beq_eq_false_iff_ne];exact fun e'=>hpk ⟨e,e'⟩
  by_cases a1:p=0
  ·have h1:=aX a1;subst a1;clear hpk hlo aX;go_wp2_with fail;refine bodyPost_ret (results_tmp2 rfl _ _ _) rfl ?_;exact⟨by rw[HR.out];rfl,((aB.out _).1 HF.out).2.2.2.2.2⟩
  ·have h1:(p == 0)=false:=by rw[beq_eq_false_iff_ne];exact a1
   clear aX hpk;by_cases hp2':p<2
   ·clear hlo;go_wp2_with fail;refine bodyPost_ret (results_tmp2 rfl _ _ _) rfl ?_;exact⟨by rw[HR.out];rfl,((aB.out _).1 HF.out).2.2.2.2.2⟩
   ·have bA:k<1:=by omega
    clear hlo;go_wp2_with fail;refine bodyPost_ret (results_tmp2 rfl _ _ _) rfl ?_;exact⟨by rw[HR.out];rfl,((aB.out _).1 HF.out).2.2.2.2.2⟩
 obtain⟨P,hP⟩:∃ P,p.toNat=P:=⟨_,rfl⟩;obtain⟨J,hK⟩:∃ J,k.toNat=J:=⟨_,rfl⟩;obtain rfl:p=(P:Int):=by omega
 obtain rfl:k=(J:Int):=by omega
 have a2:2<=P:=by omega
 have bI:1<=J:=by omega
 have a1:((P:Int) == 0)=false:=by rw[beq_eq_false_iff_ne];omega
 have bF:¬ (P:Int)<2:=by omega
 have bE:¬ (J:Int)<1:=by omega
 have aW:=Qh (show JI x y z P J=if 4096<P ^ min J 20 then (false,2) else if QdR P=false then (false,1) else (QdL x y z P (P ^ min J 20),0) by unfold JI;rw[if_neg a3.out,if_neg a4.out,if_neg hlo,Int.toNat_natCast,Int.toNat_natCast]);clear hpk hlo hP hK a4;by_cases hbig:4096<P
 case pos=>
  have hb:(P:Int)>4096:=by omega
  have HR:=Qh (show JI x y z P J=(false,2) by
   rw[aW.out,if_pos];have h1:P ^ 1<=P ^ min J 20:=Nat.pow_le_pow_right (by omega) (by omega);rw[Nat.pow_one] at h1;omega)
  go_wp2_with fail;refine bodyPost_ret (results_tmp2 rfl _ _ _) rfl ?_;exact⟨by rw[HR.out];rfl,((aB.out _).1 HF.out).2.2.2.2.2⟩
 have hb:¬ (P:Int)>4096:=by omega
 have a7:min (J:Int) 20=((min J 20:Nat):Int):=by omega
 have a6:min J 20<=20:=by omega
 obtain⟨M,hM⟩:∃ M,min J 20=M:=⟨_,rfl⟩;rw[hM] at a7 a6 aW;go_wp2_with fail;refine(Qbd P M wc2 a2 (by omega) (by omega)).mono ?_;rintro e wp ⟨rfl,rfl⟩;by_cases hpw:P ^ M<=4096
 case neg=>
  rw[if_neg hpw];have HR:=Qh (show JI x y z P J=(false,2) by rw[aW.out,if_pos (by omega)]);have e0:((0:Nat):Int)=0:=rfl;rw[e0];clear e0;go_wp2_with fail;refine bodyPost_ret (results_tmp2 rfl _ _ _) rfl ?_;exact⟨by rw[HR.out];rfl,((aB.out _).1 HF.out).2.2.2.2.2⟩
 rw[if_pos hpw];have aZ:1<=P ^ M:=Nat.pow_pos (by omega);have bC:J=M:=by rw[<- hM];exact(Qkg a2 (by rw[hM];exact hpw)).symm
 subst bC;obtain⟨Q,hQ⟩:∃ Q,P ^ J=Q:=⟨_,rfl⟩;have bD:=Qh (show (if P ^ J<=4096 then P ^ J else 0:Nat)=Q by rw[if_pos hpw,hQ]);rw[hQ] at hpw aZ aW |-;have a9:((Q:Int) == 0)=false:=by rw[beq_eq_false_iff_ne];omega
 clear hQ hM a7 a6;go_wp2_with fail;refine(QdK P wp (by omega) a2).mono ?_;rintro e wq ⟨rfl,rfl⟩;by_cases hpr:QdR P=true
 case neg=>
  have a5:QdR P=false:=Bool.eq_false_iff.2 hpr;simp only[a5];have HR:=Qh (show JI x y z P J=(false,1) by rw[aW.out,if_neg (by omega),if_pos a5]);go_wp2_with fail;refine bodyPost_ret (results_tmp2 rfl _ _ _) rfl ?_;exact⟨by rw[HR.out];rfl,((aB.out _).1 HF.out).2.2.2.2.2⟩
 simp only[hpr];have HR:=Qh (show JI x y z P J=(QdL x y z P Q,0) by rw[aW.out,if_neg (by omega),if_neg (by rw[hpr];decide)]);clear aW a9;clear aV aU aT aS aR aQ;go_upto_region 11 with fail;refine Qc (by kernel_rfl) [] (S:=fun w'=>Qml w' (w.heap.size) aF aP aI aL aE aO aH aK aD aM aG aJ) (QY ((aB.out _).1 HF.out).1) (fun aA=>?_);replace HF:=Qh (kF.dr HF.out);generalize wq.drew=wd at *;(refine tS 0 rfl ?_;refine tS 1 rfl ?_;refine tS 2 rfl ?_;refine tS 3 rfl ?_)
 (refine oL 4 rfl fun K hK=>tL ?_;go_simp);refine(Qbd P J wd a2 (by omega) (by omega)).mono ?_;rintro e wf ⟨rfl,rfl⟩;rw[bD.out];have a0:=aA;(go_wp2_with fail;clear aA;refine nxL hK a0 fun aA=>tL ?_;clear hK);clear a0;(refine oL 5 rfl fun K hK=>tL ?_;go_simp);refine mz (Qd9 _ x y z P Q wf ((aB.out _).1 HF.out).2.1 aZ hpw (by omega) (by omega) hx9 hy9 hz9) fun wc3 hb=>?_;have a0:=nu hb aA;replace HF:=hu hb HF;clear hb;(go_wp2_with fail;clear aA;refine nxL hK a0 fun aA=>tL ?_;clear hK);clear a0;(refine pL 6 rfl ?_;refine pL 7 rfl ?_)
 refine dT ?_;clear aA;go_wp2_with fail;refine bodyPost_ret (results_tmp2 rfl _ _ _) rfl ?_;exact⟨by rw[HR.out];rfl,((aB.out _).1 HF.out).2.2.2.2.2⟩
