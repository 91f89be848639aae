/-
  law29.DescentMatchesReference: the walk.
-/
import Derived.Test.YteidokhjmbihlaaGreatDZA
import Derived.Test.YteidokhjmbihlaaGreatDD
import Derived.Test.YteidokhjmbihlaaGreatDQ
import Derived.Test.YteidokhjmbihlaaGreatFM
import Derived.Test.YteidokhjmbihlaaGreatDV
import Derived.Test.YteidokhjmbihlaaGreatDF
import Derived.Test.YteidokhjmbihlaaGreatFSB
import Derived.Test.YteidokhjmbihlaaGreatDL
import Derived.Test.YteidokhjmbihlaaGreatDM
import Derived.Test.YteidokhjmbihlaaGreatDW
import Derived.Test.YteidokhjmbihlaaGreatDX
import Derived.Test.YteidokhjmbihlaaGreatFZO
import Derived.Test.YteidokhjmbihlaaGreatDT
import Derived.Test.YteidokhjmbihlaaGreatDS
set_option linter.all false
set_option maxRecDepth 100000
set_option maxHeartbeats 8000000
namespace Go.Proofs.YteidokhjmbihlaaGreat
open Go.RowKit
attribute [local go_sem ↓] Go.wp_at_zero Go.wp_at_succ
theorem Qgy (w:World) :
  Calls Tryz.prog 120 #[] w fun e' w'=>∃ v,e'=.returned v/\It w' v 1099511627776/\Below w.heap.size w w':=by
 obtain⟨F,aC,kF⟩:=kpe (fun w'=>w'.heap[w.heap.size]? = some (Qlr 33 false none 0 0)/\Below w.heap.size w w');have aA:=Qh aC;clear aC;have aD:=Qc w (Qlr 33 false none 0 0);have d0:=Zk1 w (Qlr 33 false none 0 0);have HF:Hid (F (w.alloc (Qlr 33 false none 0 0))):=Qh ((aA.out _).2 ⟨d0,aD⟩);clear aD d0;go_enter Tryz.func120,Tryz.ntmps120
 go_upto_region 1 with fail;generalize w.alloc (Qlr 33 false none 0 0)=W at *;go_wp2_with fail;refine mn (QaX 1099511627776 W (by decide) (by decide)) fun v wc1 hv hb=>?_;obtain⟨aE,aI,aF,aG,rfl⟩:=hv.shape;replace HF:=hu hb HF;have Hr:=Qh hv;clear hb hv;have aB:=Qh (((aA.out _).1 HF.out).1);obtain⟨z0,z1⟩:=Qa1 aB.out;obtain⟨y0,y1⟩:=Qg6 aB.out;go_wp2_with fail;have aH:=(ButS.set wc1 (w.heap.size) 0 (.bool aE)).trans (ButS.set _ (w.heap.size) 1 (.slice aI aF aG));exact Qbl (B:=w.heap.size) rfl rfl rfl (Vx.put (QiO aB.out) (Hr.out)) (fun v hv=>⟨v,rfl,hv,(ButS.below ((aA.out _).1 HF.out).2 aH ((aA.out _).1 HF.out).2.size (fun g e=>by omega))⟩)
theorem Qdr (va:Value) (x:Int) (w:World) (hx:It w va x) (hs:sz x<=4000000) :
  Calls Tryz.prog 62 #[va] w fun e' w'=>e'=.returned (.bool (decide (x.natAbs<1099511627776)))/\Below w.heap.size w w':=by
 obtain⟨aB,aG,aE,aF,rfl⟩:=hx.shape;obtain⟨F,aI,kF⟩:=kpe (fun w'=>w'.heap[w.heap.size]? = some (Qlr 33 aB aG aE aF)/\It w' (Qlv aB aG aE aF) (x)/\Below w.heap.size w w');have aA:=Qh aI;clear aI;have aH:=Qc w (Qlr 33 aB aG aE aF);have d0:=Zk1 w (Qlr 33 aB aG aE aF);have HF:Hid (F (w.alloc (Qlr 33 aB aG aE aF))):=Qh ((aA.out _).2 ⟨d0,hx.up aH,aH⟩);clear aH d0  hx;go_enter Tryz.func62,Tryz.ntmps62
 go_upto_region 1 with fail;generalize w.alloc (Qlr 33 aB aG aE aF)=W at *;obtain⟨aD,aC⟩:=Qa1 ((aA.out _).1 HF.out).1;go_wp2_with fail;refine mn (QcN _ x W ((aA.out _).1 HF.out).2.1 (by omega)) fun v wc1 hv hb=>?_;obtain⟨aL,aS,aO,aQ,rfl⟩:=hv.shape;replace HF:=hu hb HF;have Hr:=Qh hv;clear hb hv;clear aD aC;obtain⟨aD,aC⟩:=Qa1 ((aA.out _).1 HF.out).1;go_wp2_with fail;refine mn (Qgy wc1) fun v wc2 hv hb=>?_;obtain⟨aK,aR,aM,aP,rfl⟩:=hv.shape;replace Hr:=hu hb Hr;replace HF:=hu hb HF;have Ht:=Qh hv;clear hb hv;clear aD aC;obtain⟨aD,aC⟩:=Qa1 ((aA.out _).1 HF.out).1;go_wp2_with fail;refine mz (Qiz _ _ (x.natAbs:Int) 1099511627776 wc2 Hr.out Ht.out (show sz (x.natAbs:Int)<=4611686018427387904 from Qt (show Qq x.natAbs<=4000000 from hs) (by decide)) (by decide)) fun wc3 hb=>?_;replace Hr:=hu hb Hr;replace Ht:=hu hb Ht;replace HF:=hu hb HF;clear hb;clear aD aC;obtain⟨aD,aC⟩:=Qa1 ((aA.out _).1 HF.out).1;have aJ:(QaW (x.natAbs:Int) 1099511627776<0)=(x.natAbs<1099511627776):=by rw[eq_iff_iff];unfold QaW;split <;> (try split) <;> omega
 go_wp2_with fail;go_ret
 exact⟨by first|rfl|(simp only[aJ];rfl),((aA.out _).1 HF.out).2.2⟩
theorem QkM (w:World) (B T:Nat) (fr:Nat×Nat) (x0 x1 x2 x3:Value) (h:w.heap[B]? = some (.cells #[x0,x1,x2,x3] T fr)):(loadVar 35 ⟨B,0,none⟩).run Tryz.prog w=.ok (.agg #[x0,x1,x2,x3]) w:=by
 simp[go_sem,World.cell?,h]
theorem Qfp (va:Value) (a b:Int) (w:World) (hp:Qx w va a b) (sa:sz a<=1000000) (sb:sz b<=1000000) :
  Calls Tryz.prog 95 #[va] w fun e' w'=>∃ t,e'=.returned t/\Qx w' t (-2*a) (a*a-4*b)/\Below w.heap.size w w':=by
 have qp:=hp;obtain⟨aD,aJ,aF,aH,aC,aI,aE,aG,rfl,a4,a3⟩:=hp;obtain⟨F,a6,kF⟩:=kpe (fun w'=>w'.heap[w.heap.size]? = some (Qls 35 aD aJ aF aH aC aI aE aG)/\w'.heap[w.heap.size+1]? = some (Qls 35 false none 0 0 false none 0 0)/\Qx w' (Qlw aD aJ aF aH aC aI aE aG) (a) (b)/\It w' (Qlv aD aJ aF aH) (a)/\It w' (Qlv aC aI aE aG) (b)/\Below w.heap.size w w');have aM:=Qh a6;clear a6;have a7:=Qc w (Qls 35 aD aJ aF aH aC aI aE aG);have d0:=Zk1 w (Qls 35 aD aJ aF aH aC aI aE aG);have a1:=Qc (w.alloc (Qls 35 aD aJ aF aH aC aI aE aG)) (Qls 35 false none 0 0 false none 0 0);have d1:=Zk1 (w.alloc (Qls 35 aD aJ aF aH aC aI aE aG)) (Qls 35 false none 0 0 false none 0 0);rw[show (w.alloc (Qls 35 aD aJ aF aH aC aI aE aG)).heap.size=w.heap.size+1 by simp only[Zk2]] at d1;have aV:=Bl.up a7 a1;have HF:Hid (F ((w.alloc (Qls 35 aD aJ aF aH aC aI aE aG)).alloc (Qls 35 false none 0 0 false none 0 0))):=Qh ((aM.out _).2 ⟨(Kp.blk _ _).up d0 a1,d1,qp.up aV,a4.up aV,a3.up aV,aV⟩);clear a7 d0 a1 d1 aV qp a4 a3;go_enter Tryz.func95,Tryz.ntmps95
 go_upto_region 1 with fail;generalize (w.alloc (Qls 35 aD aJ aF aH aC aI aE aG)).alloc (Qls 35 false none 0 0 false none 0 0)=W at *;refine QaT (by kernel_rfl) [15] (S:=fun w'=>Qmb w' (w.heap.size) aD aJ aF aH aC aI aE aG) (Qa3 ((aM.out _).1 HF.out).1) (fun aA=>?_);replace HF:=Qh (kF.dr HF.out);generalize W.drew=wa at *;have z4:sz 4<=1:=by decide
 have z2:sz (-2)<=1:=by decide
 have z5:=QM a a;have z6:=QM 4 b;(refine tS 1 rfl ?_;refine tS 2 rfl ?_;refine tS 4 rfl ?_;refine tS 5 rfl ?_;refine tS 6 rfl ?_;refine tS 7 rfl ?_;refine tS 10 rfl ?_;refine tS 11 rfl ?_)
 (refine oL 0 rfl fun K hK=>tL ?_;go_simp);refine mn (QaX (-2) wa (by decide) (by decide)) fun v wc1 hv hb=>?_;obtain⟨bB,bN,bF,bJ,rfl⟩:=hv.shape;have aB:=nu hb aA;replace HF:=hu hb HF;have aK:=Qh hv;clear hb hv;(go_wp2_with fail;clear aA;refine nxL hK aB fun aA=>tL ?_;clear hK);clear aB;(refine oL 3 rfl fun K hK=>tL ?_;go_simp);refine mn (QdJ _ _ (-2) a wc1 aK.out ((aM.out _).1 HF.out).2.2.2.1 (by omega) (by omega)) fun v wc2 hv hb=>?_;obtain⟨aQ,aX,aS,aU,rfl⟩:=hv.shape;have aB:=nu hb aA;replace aK:=hu hb aK;replace HF:=hu hb HF;have aL:=Qh hv;clear hb hv;(go_wp2_with fail;clear aA;refine nxL hK aB fun aA=>tL ?_;clear hK);clear aB;(refine oL 8 rfl fun K hK=>tL ?_;go_simp);refine mn (QdJ _ _ a a wc2 ((aM.out _).1 HF.out).2.2.2.1 ((aM.out _).1 HF.out).2.2.2.1 (by omega) (by omega)) fun v wc3 hv hb=>?_;obtain⟨bA,bM,bE,bI,rfl⟩:=hv.shape;have aB:=nu hb aA;replace aK:=hu hb aK;replace aL:=hu hb aL;replace HF:=hu hb HF;have aO:=Qh hv;clear hb hv;(go_wp2_with fail;clear aA;refine nxL hK aB fun aA=>tL ?_;clear hK);clear aB;(refine oL 9 rfl fun K hK=>tL ?_;go_simp);refine mn (QaX 4 wc3 (by decide) (by decide)) fun v wc4 hv hb=>?_;obtain⟨a9,bL,bD,bH,rfl⟩:=hv.shape;have aB:=nu hb aA;replace aK:=hu hb aK;replace aL:=hu hb aL;replace aO:=hu hb aO;replace HF:=hu hb HF;have aY:=Qh hv;clear hb hv;(go_wp2_with fail;clear aA;refine nxL hK aB fun aA=>tL ?_;clear hK);clear aB;(refine oL 12 rfl fun K hK=>tL ?_;go_simp);refine mn (QdJ _ _ 4 b wc4 aY.out ((aM.out _).1 HF.out).2.2.2.2.1 (by omega) (by omega)) fun v wc5 hv hb=>?_;obtain⟨a8,bK,bC,bG,rfl⟩:=hv.shape;have aB:=nu hb aA;replace aK:=hu hb aK;replace aL:=hu hb aL;replace aO:=hu hb aO;replace aY:=hu hb aY;replace HF:=hu hb HF;have a2:=Qh hv;clear hb hv;(go_wp2_with fail;clear aA;refine nxL hK aB fun aA=>tL ?_;clear hK);clear aB;(refine oL 13 rfl fun K hK=>tL ?_;go_simp);refine mn (QfW _ _ (a*a) (4*b) wc5 aO.out a2.out (by omega) (by omega)) fun v wc6 hv hb=>?_;obtain⟨aP,aW,aR,aT,rfl⟩:=hv.shape;have aB:=nu hb aA;replace aK:=hu hb aK;replace aL:=hu hb aL;replace aO:=hu hb aO;replace aY:=hu hb aY;replace a2:=hu hb a2;replace HF:=hu hb HF;have bO:=Qh hv;clear hb hv;(go_wp2_with fail;clear aA;refine nxL hK aB fun aA=>tL ?_;clear hK);clear aB;(refine tS 14 rfl ?_)
 have aZ:=Qh (((aM.out _).1 HF.out).2.1);obtain⟨z0,z1,z2,z3⟩:=Qa3 aZ.out;obtain⟨y0,y1,y2,y3⟩:=Qcf aZ.out;(refine oL 15 rfl fun K hK=>tL ?_;go_simp);(go_wp2_with fail;refine xL hK (tL ?_);clear hK);refine dT ?_;clear aA;go_wp2_with fail;have hh:=Qcw aZ.out (.bool aQ) (.slice aX aS aU) (.bool aP) (.slice aW aR aT);have a0:=QgH wc6 (w.heap.size+1) (.bool aQ) (.slice aX aS aU) (.bool aP) (.slice aW aR aT);have a5:=nw4 aZ.out;exact Qcn (B:=w.heap.size+1) rfl rfl rfl (QkM _ _ _ _ _ _ _ _ hh) ⟨_,rfl,⟨_,_,_,_,_,_,_,_,rfl,(aL.out).fr a0 a5,(bO.out).fr a0 a5⟩,(ButS.below ((aM.out _).1 HF.out).2.2.2.2.2 a0 ((aM.out _).1 HF.out).2.2.2.2.2.size (fun g e=>by omega))⟩
theorem QdY (va vb:Value) (a b:Int) (w:World) (hA:It w va a) (hB:It w vb b) (ha:sz a<=1000000) (hb9:sz b<=1000000) :
  Calls Tryz.prog 47 #[va,vb] w fun e' w'=>e'=.returned (.int .i64 (Yy a b))/\Below w.heap.size w w':=by
 obtain⟨aE,aH,aF,aG,rfl⟩:=hA.shape;obtain⟨aJ,aM,aK,aL,rfl⟩:=hB.shape;obtain⟨F,a7,kF⟩:=kpe (fun w'=>w'.heap[w.heap.size]? = some (Qlr 33 aE aH aF aG)/\w'.heap[w.heap.size+1]? = some (Qlr 33 aJ aM aK aL)/\It w' (Qlv aE aH aF aG) (a)/\It w' (Qlv aJ aM aK aL) (b)/\Below w.heap.size w w');have aA:=Qh a7;clear a7;have a9:=Qc w (Qlr 33 aE aH aF aG);have d0:=Zk1 w (Qlr 33 aE aH aF aG);have a2:=Qc (w.alloc (Qlr 33 aE aH aF aG)) (Qlr 33 aJ aM aK aL);have d1:=Zk1 (w.alloc (Qlr 33 aE aH aF aG)) (Qlr 33 aJ aM aK aL);rw[show (w.alloc (Qlr 33 aE aH aF aG)).heap.size=w.heap.size+1 by simp only[Zk2]] at d1;have aX:=Bl.up a9 a2;have HF:Hid (F ((w.alloc (Qlr 33 aE aH aF aG)).alloc (Qlr 33 aJ aM aK aL))):=Qh ((aA.out _).2 ⟨(Kp.blk _ _).up d0 a2,d1,hA.up aX,hB.up aX,aX⟩);clear a9 d0 a2 d1 aX hA hB;go_enter Tryz.func47,Tryz.ntmps47
 go_upto_region 1 with fail;generalize (w.alloc (Qlr 33 aE aH aF aG)).alloc (Qlr 33 aJ aM aK aL)=W at *;obtain⟨a0,aZ⟩:=Qa1 ((aA.out _).1 HF.out).1;obtain⟨aD,aC⟩:=Qa1 ((aA.out _).1 HF.out).2.1
 have bD:sz (a*a-4*b)<=4000000:=by
  have h1:=Qjl (a*a) (4*b);have h2:=QM a a;have h3:=QM 4 b;have h4:sz 4<=1:=(by decide);omega
 obtain⟨D,aW⟩:∃ D,a*a-4*b=D:=⟨_,rfl⟩;have a6:Yy a b=if b=0\/D=0 then 250 else if 1099511627776<=b.natAbs\/1099511627776<=D.natAbs then 2 else 0:=by unfold Yy;rw[aW]
 have bI:=Qh aW;have aO:=Qh a6;rw[aW] at bD;clear a6 aW;go_wp2_with fail;refine mn (Qfp _ a b W ⟨_,_,_,_,_,_,_,_,rfl,((aA.out _).1 HF.out).2.2.1,((aA.out _).1 HF.out).2.2.2.1⟩ (by omega) (by omega)) fun v wc1 hv hb=>?_;have hq:=hv;obtain⟨bA,bG,bB,bC,aR,aY,aS,aT,rfl,g0,g1⟩:=hv;replace HF:=hu hb HF;have Ho:=Qh hq;have bH:=Qh g0;have a3:=Qh g1;clear hb hq g0 g1;clear a0 aZ aD aC;obtain⟨a0,aZ⟩:=Qa1 ((aA.out _).1 HF.out).1;obtain⟨aD,aC⟩:=Qa1 ((aA.out _).1 HF.out).2.1;rw[bI.out] at a3;clear a0 aZ aD aC;have a1:∀ w,(Instr.field 35 (Qlw bA bG bB bC aR aY aS aT) 1).run Tryz.prog w=.ok (Qlv aR aY aS aT) w:=fun _=>by kernel_rfl
 go_upto_region 2 with fail;have hb:=Qc wc1 (Qlr 33 aR aY aS aT);have aB:=Qh (Vx.new (w:=wc1) (T:=33) rfl a3.out);replace HF:=hu hb HF;obtain⟨BX,a8⟩:∃ B,wc1.heap.size=B:=⟨_,rfl⟩;rw[a8] at aB |-;clear hb a8 Ho bH a3 a1;generalize wc1.alloc (Qlr 33 aR aY aS aT)=wv at *;obtain⟨t1,t2,t3,t4,r0,r1,-,-,it⟩:=aB.out.cells;clear r0 r1;have aI:=Qh it;clear it;clear aI;obtain⟨aD,aC⟩:=Qa1 ((aA.out _).1 HF.out).2.1;go_wp2_with fail;refine mz (Qcp _ b wv ((aA.out _).1 HF.out).2.2.2.1) fun wc2 hb=>?_;replace aB:=hu hb aB;replace HF:=hu hb HF;clear hb;clear aD aC;obtain⟨aD,aC⟩:=Qa1 ((aA.out _).1 HF.out).2.1;have aV:(QaW b 0 == 0)=decide (b=0):=by rw[Bool.eq_iff_iff];simp[Qa4]
 by_cases hb0:b=0
 ·have bF:(QaW b 0 == 0)=true:=by rw[aV];exact decide_eq_true hb0
  have aQ:=Qh hb0;clear aV hb0;go_wp2_with fail;go_ret
  exact⟨by rw[aO.out,if_pos (.inl aQ.out)];rfl,((aA.out _).1 HF.out).2.2.2.2⟩
 have bF:(QaW b 0 == 0)=false:=by rw[aV];exact decide_eq_false hb0
 have aQ:=Qh hb0;clear aV hb0;obtain⟨t1,t2,t3,t4,r0,r1,-,-,it⟩:=aB.out.cells;have aI:=Qh it;clear it;go_wp2_with fail;refine mz (Qcp _ D wc2 aI.out) fun wc3 hb=>?_;replace aB:=hu hb aB;replace HF:=hu hb HF;clear hb;clear aD aC r0 r1;obtain⟨aD,aC⟩:=Qa1 ((aA.out _).1 HF.out).2.1;obtain⟨t1,t2,t3,t4,r0,r1,-,-,it⟩:=aB.out.cells;have aI:=Qh it;clear it;have aU:(QaW D 0 == 0)=decide (D=0):=by rw[Bool.eq_iff_iff];simp[Qa4]
 by_cases hd0:D=0
 ·have bE:(QaW D 0 == 0)=true:=by rw[aU];exact decide_eq_true hd0
  have aP:=Qh hd0;clear aU hd0;go_wp2_with fail;go_ret
  exact⟨by rw[aO.out,if_pos (.inr aP.out)];rfl,((aA.out _).1 HF.out).2.2.2.2⟩
 have bE:(QaW D 0 == 0)=false:=by rw[aU];exact decide_eq_false hd0
 have aP:=Qh hd0;clear aU hd0;go_wp2_with fail;refine mz (Qdr _ b wc3 ((aA.out _).1 HF.out).2.2.2.1 (by omega)) fun wc4 hb=>?_;replace aB:=hu hb aB;replace HF:=hu hb HF;clear hb;clear aD aC r0 r1;obtain⟨aD,aC⟩:=Qa1 ((aA.out _).1 HF.out).2.1;obtain⟨t1,t2,t3,t4,r0,r1,-,-,it⟩:=aB.out.cells;have aI:=Qh it;clear it;by_cases hnb:b.natAbs<1099511627776
 case neg=>
  rw[decide_eq_false hnb];have a5:=Qh hnb;clear hnb;go_wp2_with fail;go_ret
  exact⟨by rw[aO.out,if_neg (by have:=aQ.out;have:=aP.out;omega),if_pos (.inl (by have:=a5.out;omega))];rfl,((aA.out _).1 HF.out).2.2.2.2⟩
 rw[decide_eq_true hnb];have a5:=Qh hnb;clear hnb;go_wp2_with fail;refine mz (Qdr _ D wc4 aI.out (by omega)) fun wc5 hb=>?_;replace aB:=hu hb aB;replace HF:=hu hb HF;clear hb;clear aD aC r0 r1;obtain⟨aD,aC⟩:=Qa1 ((aA.out _).1 HF.out).2.1;obtain⟨t1,t2,t3,t4,r0,r1,-,-,it⟩:=aB.out.cells;have aI:=Qh it;clear it;by_cases hnd:D.natAbs<1099511627776
 ·rw[decide_eq_true hnd];have a4:=Qh hnd;clear hnd;go_wp2_with fail;go_ret
  exact⟨by rw[aO.out,if_neg (by have:=aQ.out;have:=aP.out;omega),if_neg (by have:=a5.out;have:=a4.out;omega)];rfl,((aA.out _).1 HF.out).2.2.2.2⟩
 ·rw[decide_eq_false hnd];have a4:=Qh hnd;clear hnd;go_wp2_with fail;go_ret
  exact⟨by rw[aO.out,if_neg (by have:=aQ.out;have:=aP.out;omega),if_pos (.inr (by have:=a4.out;omega))];rfl,((aA.out _).1 HF.out).2.2.2.2⟩
def PrB (B:Nat) (w:World):Prop:=∀ j,j<3->∃ s a n k s' a' n' k' A C,rc4 w B (j*4) (.bool s) (.slice a n k) (.bool s') (.slice a' n' k')/\It w (Qlv s a n k) A/\It w (Qlv s' a' n' k') C/\sz A<=2/\sz C<=2
theorem PrB.of {w:World} {B T:Nat} {s1 s2 s3 s4:Bool} {a1 a2 a3 a4:Option Addr} {n1 n2 n3 n4 k1 k2 k3 k4:Nat} {A C D E:Int}
  (hB:w.heap[B]? = some (.cells #[.bool s1,.slice a1 n1 k1,.bool s2,.slice a2 n2 k2,.bool s3,.slice a3 n3 k3,.bool s4,.slice a4 n4 k4,.bool s1,.slice a1 n1 k1,.bool s4,.slice a4 n4 k4] T (0,0)))
  (h1:It w (Qlv s1 a1 n1 k1) A) (h2:It w (Qlv s2 a2 n2 k2) C) (h3:It w (Qlv s3 a3 n3 k3) D) (h4:It w (Qlv s4 a4 n4 k4) E)
  (z1:sz A<=2) (z2:sz C<=2) (z3:sz D<=2) (z4:sz E<=2):PrB B w:=fun j hj=>by
 have:j=0\/j=1\/j=2:=by omega
 rcases this with rfl|rfl|rfl
 ·exact⟨_,_,_,_,_,_,_,_,A,C,⟨by simp[World.cell?,hB],by simp[World.cell?,hB],by simp[World.cell?,hB],by simp[World.cell?,hB]⟩,h1,h2,z1,z2⟩
 ·exact⟨_,_,_,_,_,_,_,_,D,E,⟨by simp[World.cell?,hB],by simp[World.cell?,hB],by simp[World.cell?,hB],by simp[World.cell?,hB]⟩,h3,h4,z3,z4⟩
 ·exact⟨_,_,_,_,_,_,_,_,A,E,⟨by simp[World.cell?,hB],by simp[World.cell?,hB],by simp[World.cell?,hB],by simp[World.cell?,hB]⟩,h1,h4,z1,z4⟩
def OnB (B:Nat) (w:World):Prop:=∀ j,j<2->∃ s a n k A,rc2 w B (j*2) (.bool s) (.slice a n k)/\It w (Qlv s a n k) A/\sz A<=2
theorem OnB.of {w:World} {B T:Nat} {s1 s2:Bool} {a1 a2:Option Addr} {n1 n2 k1 k2:Nat} {A C:Int} (hB:w.heap[B]? = some (.cells #[.bool s1,.slice a1 n1 k1,.bool s2,.slice a2 n2 k2] T (0,0)))
  (h1:It w (Qlv s1 a1 n1 k1) A) (h2:It w (Qlv s2 a2 n2 k2) C) (z1:sz A<=2) (z2:sz C<=2):OnB B w:=fun j hj=>by
 have:j=0\/j=1:=by omega
 rcases this with rfl|rfl
 ·exact⟨_,_,_,_,A,⟨by simp[World.cell?,hB],by simp[World.cell?,hB]⟩,h1,z1⟩
 ·exact⟨_,_,_,_,C,⟨by simp[World.cell?,hB],by simp[World.cell?,hB]⟩,h2,z2⟩
structure Nq (w:World) (a:Option Addr) (n c:Nat) (f:Nat->Nat):Prop where
 wd:Wd w a n f
 wf:Wf f n
 nc:n<=c
 cm:c<=9223372036854775807
theorem Nq.up {w w':World} {a:Option Addr} {n c:Nat} {f:Nat->Nat} (h:Nq w a n c f) (hb:Below w.heap.size w w'):Nq w' a n c f:=⟨Wd.up h.wd hb,h.wf,h.nc,h.cm⟩
theorem Nq.made {w:World} {s:Bool} {a:Option Addr} {n c:Nat} {f:Nat->Nat} {z:Int} (h:Nq w a n c f) (hz:sg s (nv f (min n 1))=z) :
  Calls Tryz.prog 14 #[.agg #[.bool s,.slice a n c],.int .i64 1] w fun e w'=>∃ v,e=.returned v/\It w' v z/\Below w.heap.size w w':=
 (Qc9 1 (by decide) s a n c f w h.wd h.wf h.nc h.cm).mono (fun e w' ⟨v,h1,h2,h3⟩=>⟨v,h1,hz▸h2,h3⟩)
