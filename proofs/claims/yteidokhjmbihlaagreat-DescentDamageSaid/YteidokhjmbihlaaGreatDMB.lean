/-
  algoristref29.Bounds, for a right descent.
-/
import Derived.Test.YteidokhjmbihlaaGreatDM
import Derived.Test.YteidokhjmbihlaaGreatDMA
import Derived.Test.YteidokhjmbihlaaGreatDZB
import Derived.Test.YteidokhjmbihlaaGreatDZA
import Derived.Test.YteidokhjmbihlaaGreatDK
import Derived.Test.YteidokhjmbihlaaGreatDN
set_option linter.all false
set_option maxRecDepth 100000
set_option maxHeartbeats 8000000
namespace Go.Proofs.YteidokhjmbihlaaGreat
open Go.RowKit
attribute [local go_sem ↓] Go.wp_at_zero Go.wp_at_succ
theorem Qiv {m:Nat} (h:2<=m):Nat.log2 m=Nat.log2 (m/2)+1:=by
 rw[Nat.log2_def m,if_pos h]
theorem QiQ {m:Nat} (h:m<=1):Nat.log2 m=0:=by
 rw[Nat.log2_def m,if_neg (by omega)]
theorem J6 (n:Nat) (w:World) (hn:n<=1099511627776) :
  Calls Tryz.prog 101 #[.int .i64 (n:Int)] w fun e' w'=>e'=.returned (.int .i64 (Nat.log2 n:Int))/\w'=w:=by
 obtain⟨L,hL⟩:∃ L,Nat.log2 n=L:=⟨_,rfl⟩;rw[hL];have aF:L<=n:=by rw[<- hL];exact Nat.log2_le_self n
 have HL:=Qh hL;clear hL;go_enter Tryz.func101,Tryz.ntmps101
 go_wp2_with fail
 go_loopw [0,3] (fun s0 s3 wr=>∃ (m k:Nat),s0=.int .i64 (m:Int)/\s3=.int .i64 (k:Int)/\m<=n/\k<=L/\Hid (L=k+Nat.log2 m)/\wr=w)
  (fun s0 _ _=>(intOf s0).toNat)
 case atStart=>exact⟨n,0,rfl,rfl,Nat.le_refl _,Nat.zero_le _,Qh (by rw[HL.out];omega),by first|rfl|trivial⟩
 case round=>
  obtain⟨m,k,rfl,rfl,hm,hk,HK,rfl⟩:=hrel;by_cases h1:1<m
  ·have c1:(m:Int)>1:=by omega
   have e1:(m:Int).tdiv 2=((m/2:Nat):Int):=by rw[Int.tdiv_eq_ediv_of_nonneg (by omega)];rfl
   have aE:(m:Int)/2=((m/2:Nat):Int):=rfl;have HN:=Qh (show L=(k+1)+Nat.log2 (m/2) by rw[HK.out,Qiv h1];omega);have aD:k+1<=L:=by rw[HN.out];omega
   have aB:m/2<=n/\m/2<m:=by omega
   obtain⟨q,hq⟩:∃ q,m/2=q:=⟨_,rfl⟩;rw[hq] at e1 aE HN aB;obtain⟨aA,aC⟩:=aB;have e2:IntKind.i64.wrap (q:Int)=(q:Int):=by rw[IntKind.wrap_i64];omega
   have e3:IntKind.i64.wrap ((k:Int)+1)=((k+1:Nat):Int):=by rw[IntKind.wrap_i64];omega
   clear hq;go_wp2_with fail;exact⟨⟨q,k+1,rfl,rfl,aA,aD,HN,by first|rfl|trivial⟩,by simp only[intOf,Int.toNat_natCast];omega⟩
  ·have c1:¬ (m:Int)>1:=by omega
   have HR:=Qh (show k=L by rw[HK.out,QiQ (by omega)];omega);go_wp2_with fail;go_ret
   exact⟨by rw[<- HR.out];rfl,rfl⟩
theorem QgH {o:List Int} (f:Int->Int) {k:Nat} (hk:k<o.length):o++(o.take k).map f++[f (o.getD k 0)]=o++(o.take (k+1)).map f:=by
 rw[Y1 hk 0,List.map_append,List.append_assoc];rfl
theorem QcT (va:Value) (l C:List Int) (n:Nat) (w:World) (ha:Sr eI w va l) (hC:Cand n C) (hn0:1<=n) (hn:n<1099511627776) (hl:∀ x∈l,x∈C) (hL:l.length<=1099511627776) :
  Calls Tryz.prog 102 #[va] w fun e' w'=>∃ v,e'=.returned v/\Sr eI w' v (rkG l)/\Below w.heap.size w w':=by
 obtain⟨aL,cL,rfl,-⟩:=id ha;have aU:=Qh (Yc hn0 hn (fun d hd=>((hC.2 d).1 hd).2.2));have bQ:=Qh (fun i=>Qch (l:=l.take i) hC (fun x hx=>hl x (List.mem_of_mem_take hx)));have bP:=Qh (fun i=>Qt (QbW (l:=l.take i) hC (fun x hx=>hl x (List.mem_of_mem_take hx))) (QK hC hn0 hn));have bO:=Qh hl;have bD:=Qh ha;have bM:=Qh (show ∀ y∈C,y≠0 from fun y hy=>by have:=((hC.2 y).1 hy).1;omega);clear ha hl hC;go_enter Tryz.func102,Tryz.ntmps102
 go_wp2_with fail;refine mn (Qm 1 w (by decide) (by decide)) fun v w1 hv hb=>?_;obtain⟨so,ao,no,ko,rfl⟩:=hv.shape;have bn:=Qa w1 (Qma 33 so ao no ko);have HS:=Qh (So.ints1 (base:=w.heap.size) (Zk1 w1 (Qma 33 so ao no ko)) hb.size (hv.alloc _));have HB:=Qh (Bl.up hb bn);go_upto_region 2 with fail;clear hv hb bn;generalize w1.alloc (Qma 33 so ao no ko)=w2 at *;generalize w1.heap.size=g0 at *;go_wp2_with fail
 go_loopw [3,4,5,6,7] (fun s3 s4 _ _ _ wr=>∃ (i g cap M:Nat),s3=.slice (some ⟨g,0,none⟩) M cap/\s4=.int .i64 (i:Int)/\i<=l.length/\Hid ((rkG (l.take i)).length=M)/\Hid (So eI wr w.heap.size (.slice (some ⟨g,0,none⟩) M cap) (rkG (l.take i)))/\Hid (Below w.heap.size w wr))
  (fun _ s4 _ _ _ _=>l.length-(intOf s4).toNat)
 case atStart=>exact⟨0,g0,1,1,rfl,rfl,Nat.zero_le _,Qh rfl,HS,HB⟩
 case round=>
  clear HS HB;obtain⟨i,g,cap,M,rfl,rfl,hi,HM,HS,HB⟩:=hrel;by_cases hil:i<l.length
  ·have i1:(i:Int)<(l.length:Int):=by omega
   have i0:(0:Int)<=(i:Int):=by omega
   have bW:M<=67108864:=by rw[<- HM.out];exact bP.out i
   obtain⟨bL,oF,rfl,-,aE⟩:=(bD.out.up HB.out).at hil;obtain⟨sx,ax,nx,kx,p0,p1,hx⟩:=aE.int hil;have aH:=Qh (Qf1 hil);have aR:=Qo hil 0;obtain⟨x,aZ⟩:∃ x,l.getD i 0=x:=⟨_,rfl⟩;rw[aZ] at hx aR aH;have bF:=bO.out x aR;have zx:=aU.out x bF;have aQ:=Qh (bQ.out i).sub;obtain⟨G,hG⟩:∃ G,rkG (l.take i)=G:=⟨_,rfl⟩;rw[hG] at HS HM aH aQ;have HX:=Qh (And.intro (And.intro p0 p1:rc2 wr bL (oF+i*2) (.bool sx) (.slice ax nx kx)) hx);have kX:Kp fun w'=>rc2 w' bL (oF+i*2) (.bool sx) (.slice ax nx kx)/\It w' (Qme sx ax nx kx) x:=kpf;have kB:Kp fun w'=>Below w.heap.size w w':=Kp.bl _;clear aE hx aR hG;go_wp2_with fail;clear p0 p1;refine mz (Ja _ _ G x wr HS.out.sr HX.out.2 (fun y hy=>Qt (aU.out y (aQ.out y hy)) (by decide)) (by omega) (by rw[HM.out];omega)) fun wh hb=>?_;replace HS:=hu hb HS;replace HB:=hu hb HB;replace HX:=hu hb HX;clear hb;by_cases hin:x∈G
   ·simp only[show decide (x∈G)=true from decide_eq_true hin];have aI:=Qh (show rkG (l.take (i+1))=G by rw[aH.out];unfold rkS;rw[if_pos hin]);have j7:IntKind.i64.wrap ((i:Int)+1)=((i+1:Nat):Int):=by rw[IntKind.wrap_i64];omega
    clear hin HX kX;go_wp2_with fail;exact⟨⟨i+1,g,cap,M,rfl,rfl,by omega,by rw[aI.out];exact HM,by rw[aI.out];exact HS,HB⟩,by simp only[intOf,Int.toNat_natCast];omega⟩
   ·simp only[show decide (x∈G)=false from decide_eq_false hin];have aI:=Qh (show rkG (l.take (i+1))=G++G.map (rkM x) by rw[aH.out];unfold rkS;rw[if_neg hin]);clear hin aH;go_wp2_with fail
    go_loopw [3,6,7] (fun s3 s6 _ wq=>∃ (k g cap Z:Nat) (q:List Int),s3=.slice (some ⟨g,0,none⟩) Z cap/\s6=.int .i64 (k:Int)/\k<=M/\Z=M+k/\Hid (q.length=Z/\q=G++(G.take k).map (rkM x))/\Hid (So eI wq w.heap.size (.slice (some ⟨g,0,none⟩) Z cap) q)/\Hid (Below w.heap.size w wq))
     (fun _ s6 _ _=>M-(intOf s6).toNat)
    case atStart=>exact⟨0,g,cap,M,G,rfl,rfl,Nat.zero_le _,rfl,Qh ⟨HM.out,by simp⟩,HS,HB⟩
    case round=>
     clear HS HB HX kX;obtain⟨k,g,cap,Z,q,rfl,rfl,hk,bB,aC,HS,HB⟩:=hrel;by_cases hkM:k<M
     ·have k1:(k:Int)<(M:Int):=by omega
      have k2:(k:Int)<(Z:Int):=by omega
      have k0:(0:Int)<=(k:Int):=by omega
      have bX:Z<=134217728:=by omega
      have bE:=Qh bB;have aJ:k<G.length:=by rw[HM.out];exact hkM
      clear bB;obtain⟨sc,ac,nc,kc,p0,p1,hy⟩:=HS.out.sc.int (i:=k) (by rw[aC.out.1];have:=bE.out;omega);rw[Nat.zero_add] at p0 p1;have a4:q.getD k 0=G.getD k 0:=by rw[aC.out.2];exact Qex aJ
      rw[a4] at hy;have aK:=Qo aJ 0;have aX:=Qh (QgH (o:=G) (rkM x) aJ);obtain⟨c,a6⟩:∃ c,G.getD k 0=c:=⟨_,rfl⟩;rw[a6] at hy aX aK;have zc:=aU.out c (aQ.out c aK);have bI:=bM.out c (aQ.out c aK);have bA:=bD.out.up HB.out;obtain⟨b2,o2,e2,-,aE⟩:=bA.at hil;injection e2 with e2;injection e2 with e2 e3;subst e2 e3;obtain⟨sx,ax,nx,kx,r0,r1,hx⟩:=aE.int hil;rw[aZ] at hx;have HE:=Qh (And.intro (And.intro (And.intro p0 p1:rc2 wr g (k*2) (.bool sc) (.slice ac nc kc)) (And.intro r0 r1:rc2 wr bL (oF+i*2) (.bool sx) (.slice ax nx kx))) (And.intro hy hx));have kE:Kp fun w'=>(rc2 w' g (k*2) (.bool sc) (.slice ac nc kc)/\rc2 w' bL (oF+i*2) (.bool sx) (.slice ax nx kx))/\It w' (Qme sc ac nc kc) c/\It w' (Qme sx ax nx kx) x:=kpf;have aY:Kp fun w'=>So eI w' w.heap.size (.slice (some ⟨g,0,none⟩) Z cap) q:=Kp.so _ _ _ _;clear aE hx hy a4 a6 aK p0 p1 r0 r1 aJ bA;go_upto_region 10 with fail;refine Qc (by kernel_rfl) [10] (S:=fun w'=>rc2 w' g (k*2) (.bool sc) (.slice ac nc kc)/\rc2 w' bL (oF+i*2) (.bool sx) (.slice ax nx kx)) (HE.out.1) (fun aA=>?_);have kS:Kp fun w'=>rc2 w' g (k*2) (.bool sc) (.slice ac nc kc)/\rc2 w' bL (oF+i*2) (.bool sx) (.slice ax nx kx):=kpf;replace HS:=Qh (aY.dr HS.out);replace HB:=Qh (kB.dr HB.out);replace HE:=Qh (kE.dr HE.out);generalize wr.drew=wa at *;(refine tS 0 rfl ?_;refine tS 1 rfl ?_;refine tS 2 rfl ?_;refine tS 3 rfl ?_;refine tS 4 rfl ?_;refine tS 5 rfl ?_;refine tS 6 rfl ?_;refine tS 7 rfl ?_)
      have aV:=Qh aA;clear aA;refine Qy [(8,some 37),(9,some 7),(10,none)] 0 (FlI (fun i=>if i=8 then .int (Int.gcd c x:Int) else .any) [(9,10,(Int.gcd c x:Int))] [] wa) rfl (by kernel_rfl) (by decide) (by kernel_rfl) (by kernel_rfl) (by kernel_rfl) (fun bb xx wz h=>(fun hb'=>kS.up aV.out hb') h.bl) (fun xx=>FlI.start0 _ _ _ _ _) ?_ ?_
      ·intro i hi;have bG:i=8\/i=9\/i=10:=by simpa using hi
       clear hi;rcases bG with rfl|rfl|rfl
       ·refine⟨_,rfl,fun bb xx wz hJ hbf hw K hK=>?_⟩;clear hbf hw;simp only[QG] at hK |-;go_simp;refine mn (Qck _ _ c x wz (HE.out.2.1.up hJ.bl) (HE.out.2.2.up hJ.bl) (by omega) (by omega)) fun v w8 hv hb=>?_;exact hK.out _ _ (hJ.put 8 rfl (by intro u hU;simp only[List.mem_cons,List.not_mem_nil,or_false] at hU;rcases hU with rfl <;> simp) hv hb)
       ·refine⟨_,rfl,fun bb xx wz hJ hbf hw K hK=>?_⟩;clear hw;simp only[QG] at hK |-;go_simp;exact hK.out _ _ (hJ.var 9 (v:=(9,10,(Int.gcd c x:Int))) (by simp) rfl hbf rfl (by intro u hU;simp only[List.mem_cons,List.not_mem_nil,or_false] at hU;rcases hU with rfl <;> simp))
       ·refine⟨_,rfl,fun bb xx wz hJ hbf hw K hK=>?_⟩;have hv:=hw 9 (by kernel_rfl);have hd:=hJ.sto (v:=(9,10,(Int.gcd c x:Int))) (by simp) hv (hJ.int 8 _ rfl (hw 8 (by kernel_rfl)));have hh:=Classical.choose_spec hd;generalize Classical.choose hd=p at hh;have a1:xx 8=_:=hh.hv;have a0:xx 9=_:=hh.hx;have d0:=hh.c0;have d1:=hh.c1;have f0:=hh.f0;have f1:=hh.f1;have HJ:=Qh hJ;have HH:=Qh hh;clear hbf hw hh hJ hd;simp only[QG,a1,a0] at hK |-;clear a1 a0;go_simp;go_wp2_with fail;exact hK.out _ _ (HJ.out.st 10 (v:=(9,10,(Int.gcd c x:Int))) (by simp) rfl rfl (by intro u hU;simp only[List.mem_cons,List.not_mem_nil,or_false] at hU;rcases hU with rfl <;> simp) (by intro u hU;simp only[List.mem_cons,List.not_mem_nil,or_false] at hU;rcases hU with rfl <;> simp) hv (by simp) HH.out (d:=undef))
      intro bb xx wz aT hJ;obtain⟨B9,e9,bJ,-,aF⟩:=hJ.vr (9,10,(Int.gcd c x:Int)) (by simp) (aT 9 (by decide));replace aF:=aF (aT 10 (by decide));dsimp only at aF;have aS:=hJ.bl;clear aT hJ;obtain⟨u8,a2⟩:∃ u,u=xx 8:=⟨_,rfl⟩;simp only[Qdr,show xx 9=_ from e9,<- a2];clear e9 a2;have aA:rc2 wz g (k*2) (.bool sc) (.slice ac nc kc)/\rc2 wz bL (oF+i*2) (.bool sx) (.slice ax nx kx):=kS.up aV.out aS;have hb:=aS;replace HS:=hu hb HS;replace HB:=hu hb HB;replace HE:=hu hb HE;have HV:=Qh aF;clear aS hb aF bJ aV;refine dT ?_;clear aA kS;obtain⟨sg,ag,ng,kg,r0,r1,-,-,ig⟩:=HV.out.cells;have HG:=Qh ig;have kG:Kp fun w'=>It w' (Qme sg ag ng kg) (Int.gcd c x:Int):=Kp.it _ _;have a9:rc2 wz g (k*2) (.bool sc) (.slice ac nc kc)/\rc2 wz bL (oF+i*2) (.bool sx) (.slice ax nx kx)/\Qmj wz B9 sg ag ng kg:=⟨HE.out.1.1,HE.out.1.2,⟨r0,r1⟩⟩;clear r0 r1 ig HV;go_upto_region 11 with fail;refine Qc (by kernel_rfl) [15] (S:=fun w'=>rc2 w' g (k*2) (.bool sc) (.slice ac nc kc)/\rc2 w' bL (oF+i*2) (.bool sx) (.slice ax nx kx)/\Qmj w' B9 sg ag ng kg) a9 (fun aA=>?_);have kS:Kp fun w'=>rc2 w' g (k*2) (.bool sc) (.slice ac nc kc)/\rc2 w' bL (oF+i*2) (.bool sx) (.slice ax nx kx)/\Qmj w' B9 sg ag ng kg:=kpf;clear a9;replace HS:=Qh (aY.dr HS.out);replace HB:=Qh (kB.dr HB.out);replace HE:=Qh (kE.dr HE.out);replace HG:=Qh (kG.dr HG.out);generalize wz.drew=wb at *;have a5:(Int.gcd c x:Int)≠0:=by have:=Int.gcd_pos_of_ne_zero_left x bI;omega
      have zg:sz (Int.gcd c x:Int)<=2:=QgI zc zx;have bT:sz (c/(Int.gcd c x:Int))<=2:=Qt (QA (Int.natAbs_ediv_le_natAbs _ _)) zc;have bS:sz (x/(Int.gcd c x:Int))<=2:=Qt (QA (Int.natAbs_ediv_le_natAbs _ _)) zx;(refine tS 0 rfl ?_;refine tS 1 rfl ?_;refine tS 2 rfl ?_;refine tS 3 rfl ?_;refine tS 4 rfl ?_;refine tS 5 rfl ?_;refine tS 7 rfl ?_;refine tS 8 rfl ?_;refine tS 9 rfl ?_;refine tS 10 rfl ?_;refine tS 11 rfl ?_)
      (refine oL 6 rfl fun K hK=>tL ?_;go_simp);refine mn (Qae _ _ c (Int.gcd c x:Int) wb HE.out.2.1 HG.out a5 (by omega) (by omega)) fun v w6 hv hb=>?_;obtain⟨sp,ap,np,kp,rfl⟩:=hv.shape;replace HS:=hu hb HS;replace HB:=hu hb HB;replace HE:=hu hb HE;replace HG:=hu hb HG;have aB:=kS.up aA hb;have Hp:=Qh hv;clear hb hv;(go_wp2_with fail;clear aA;refine nxL hK aB fun aA=>tL ?_;clear hK);clear aB;have bV:Kp fun w'=>It w' (Qme sp ap np kp) (c/(Int.gcd c x:Int)):=Kp.it _ _;(refine oL 12 rfl fun K hK=>tL ?_;go_simp);refine mn (Qae _ _ x (Int.gcd c x:Int) w6 HE.out.2.2 HG.out a5 (by omega) (by omega)) fun v w7 hv hb=>?_;obtain⟨sq,aq,nq,kq,rfl⟩:=hv.shape;replace HS:=hu hb HS;replace HB:=hu hb HB;replace HE:=hu hb HE;replace HG:=hu hb HG;replace Hp:=hu hb Hp;have aB:=kS.up aA hb;have Hq:=Qh hv;clear hb hv;(go_wp2_with fail;clear aA;refine nxL hK aB fun aA=>tL ?_;clear hK);clear aB;have bU:Kp fun w'=>It w' (Qme sq aq nq kq) (x/(Int.gcd c x:Int)):=Kp.it _ _;(refine oL 13 rfl fun K hK=>tL ?_;go_simp);refine mn (QI _ _ (c/(Int.gcd c x:Int)) (x/(Int.gcd c x:Int)) w7 Hp.out Hq.out (by omega) (by omega)) fun v w8 hv hb=>?_;obtain⟨sm,am,nm,km,rfl⟩:=hv.shape;replace HS:=hu hb HS;replace HB:=hu hb HB;replace HE:=hu hb HE;replace HG:=hu hb HG;replace Hp:=hu hb Hp;replace Hq:=hu hb Hq;have aB:=kS.up aA hb;have Hm:=Qh hv;clear hb hv;(go_wp2_with fail;clear aA;refine nxL hK aB fun aA=>tL ?_;clear hK);clear aB;rw[show c/(Int.gcd c x:Int)*(x/(Int.gcd c x:Int))=rkM x c by unfold rkM;rw[Int.gcd_comm,Int.mul_comm]] at Hm;(refine oL 14 rfl fun K hK=>tL ?_;go_simp);have hD:=Zk1 w8 (Qma 33 sm am nm km);have aM:=Qa w8 (Qma 33 sm am nm km);have a3:=(So.ints1 (base:=0) hD (Nat.zero_le _) (Hm.out.alloc _)).sc;have aO:=HS.out.up aM;have aP:=Bl.up HB.out aM;have aB:=kS.up aA aM;have aD:q.length=Z:=aC.out.1;rw[<- aD] at aO |-;(go_wp2_with fail;clear aA;refine nxL hK aB fun aA=>tL ?_;clear hK);clear aB;refine QN (i:=15) (by as_aux_lemma=>kernel_rfl) rfl (fun KK hKK=>?_);refine Yr (E:=eI) (by rfl) (.tmp 38) (.tmp 52) _ (by rfl) Tryz.underlying46 w.heap.size _ q [rkM x c] (by rfl) aO aP.size w8.heap.size 0 1 1 (by rfl) rfl a3 (by decide) (by omega) ?_;intro g' aG w4 a8 a7 bH;have bC:=ButS.below aP a7 aP.size (fun g hg=>(aO.lt g hg).1);have bK:=Qh (show So eI w4 w.heap.size (.slice (some ⟨g',0,none⟩) (Z+1) aG) (q++[rkM x c]) by rw[<- aD];exact a8);have bR:=Qh bC;have bN:=Qh (show (q++[rkM x c]).length=Z+1/\q++[rkM x c]=G++(G.take (k+1)).map (rkM x) from ⟨by rw[List.length_append,aD];rfl,by rw[<- aX.out,aC.out.2]⟩);rw[aD];clear aO aP a8 a7 bH bC a3 hD aM Hm Hp Hq HG HS HB HE aX aD;refine hKK.out _ _ nzz ?_;clear hKK aA;refine tL ?_;(refine pL 16 rfl ?_)
      refine dT ?_;have j7:IntKind.i64.wrap ((k:Int)+1)=((k+1:Nat):Int):=by rw[IntKind.wrap_i64];omega
      generalize q++[rkM x c]=q2 at *;go_wp2_with fail;exact⟨⟨k+1,g',aG,Z+1,q2,rfl,rfl,by omega,by have:=bE.out;omega,bN,bK,bR⟩,by simp only[intOf,Int.toNat_natCast];omega⟩
     ·obtain rfl:k=M:=by omega
      have j7:IntKind.i64.wrap ((i:Int)+1)=((i+1:Nat):Int):=by rw[IntKind.wrap_i64];omega
      have aW:=Qh (show q.length=Z/\rkG (l.take (i+1))=q from ⟨aC.out.1,by rw[aI.out,aC.out.2,<- HM.out,List.take_length]⟩);clear aC aI;go_wp2_with fail;exact⟨⟨i+1,g,cap,Z,rfl,rfl,by omega,by rw[aW.out.2];exact Qh aW.out.1,by rw[aW.out.2];exact HS,HB⟩,by simp only[intOf,Int.toNat_natCast];omega⟩
  ·obtain rfl:i=l.length:=by omega
   have HE:=Qh (show Sr eI wr (.slice (some ⟨g,0,none⟩) M cap) (rkG l) by have:=HS.out.sr;rwa [List.take_length] at this);go_wp2_with fail;go_ret
   exact⟨_,rfl,HE.out,HB.out⟩
theorem Qln {w:World} {B T:Nat} {fr:Nat×Nat} {x0 x1:Value} (h:w.heap[B]? = some (.cells #[x0,x1] T fr)) (y0 y1:Value) :
  ((w.setCell ⟨B,0,none⟩ y0).setCell ⟨B,1,none⟩ y1).heap[B]? = some (.cells #[y0,y1] T fr):=by
 simp[World.setCell,Array.getElem?_modify,h]
theorem QkR (w:World) (B T:Nat) (fr:Nat×Nat) (x0 x1:Value) (h:w.heap[B]? = some (.cells #[x0,x1] T fr)):(loadVar 96 ⟨B,0,none⟩).run Tryz.prog w=.ok (.agg #[x0,x1]) w:=by
 simp[go_sem,World.cell?,h]
theorem Qhq (m:List (Int×Int×Int)) (h:∀ i,i<m.length->0<i->(m.getD (i-1) (0,0,0)).1<(m.getD i (0,0,0)).1):∀ j i,i<j->j<m.length->(m.getD i (0,0,0)).1<(m.getD j (0,0,0)).1
 | j + 1, i, hij, hj => by
   have h1:=h (j+1) hj (by omega);rw[Nat.add_sub_cancel] at h1;rcases Nat.lt_or_ge i j with hlt|hge
   ·exact Int.lt_trans (Qhq m h j i hlt (by omega)) h1
   ·obtain rfl:i=j:=by omega
    exact h1
theorem QeE {a b:Int} {C:List Int} {m:List (Int×Int×Int)} (h:∀ i,i<m.length->YT a b C m i):m.length<=C.length:=by
 have h1:(m.map Prod.fst).Nodup:=by
  rw[List.nodup_iff_pairwise_ne,List.pairwise_map,List.pairwise_iff_getElem];intro i j hi hj aA;have:=Qhq m (fun i hi=>(h i hi).1) j i aA hj;rw[Zk3,Zk4 hi,Zk3,Zk4 hj] at this;exact Int.ne_of_lt this
 have h2:=Qaa (m:=C) h1 (fun x hx=>by
  obtain⟨y,hy,rfl⟩:=List.mem_map.1 hx;obtain⟨n,hn,rfl⟩:=List.getElem_of_mem hy;have:=(h n hn).2.1;rwa [Zk3,Zk4 hn] at this)
 rwa [List.length_map] at h2
structure Bd1 (w1:World) (D:Nat) (l:List (Int×Int×Int×Int)) (m:List (Int×Int×Int)) (C:List Int) (f:Int) (r h:Nat) (dl:Option Addr) (ql:Nat) (dm:Option Addr) (qm:Nat) (i:Nat) (ca cb lo hi lo' hi':Int):Prop where
 cl:∀ w':World,Below w1.heap.size w1 w'->w'.cell? ⟨D,4+i,none⟩=some (.slice dl l.length ql)/\w'.cell? ⟨D,6+i,none⟩=some (.slice dm m.length qm)
 sl:Sr eFd w1 (.slice dl l.length ql) l
 ll:l.length<=549755813888
 fr:FrZ cb f
 cd:Cand cb.natAbs C
 b0:cb≠0
 b1:cb.natAbs<1099511627776
 sa:sz ca<=2
 sb:sz cb<=2
 el:∀ q∈f :: l.map Prod.fst,q∈C
 rk:Nat.log2 (rkG (f :: l.map Prod.fst)).length=r
 hl:Nat.log2 (C.length-m.length)=h
 ml:m.length<=C.length
 rb:r<=67108864
 hb:h<=67108864
 lb : -2<=lo/\lo<=67108864 /\ -2<=hi/\hi<=67108864
 nx:lo'=lo+(r:Int)/\hi'=hi+(h:Int)
theorem Ql0 {w1:World} {D:Nat} {l:List (Int×Int×Int×Int)} {m:List (Int×Int×Int)} {C:List Int} {f ca cb lo hi:Int} {dl dm:Option Addr} {ql qm i:Nat} (hA:∀ i,i<l.length->Y5 ca cb C l i) (hN:∀ i,i<m.length->YT ca cb C m i) (hf:FrZ cb f) (hC:Cand cb.natAbs C) (h0:cb≠0) (h1:cb.natAbs<1099511627776) (sa:sz ca<=2) (sb:sz cb<=2) (hl:l.length<=549755813888) (hs:Sr eFd w1 (.slice dl l.length ql) l)
  (hc:∀ w':World,Below w1.heap.size w1 w'->w'.cell? ⟨D,4+i,none⟩=some (.slice dl l.length ql)/\w'.cell? ⟨D,6+i,none⟩=some (.slice dm m.length qm)) (hlo : -2<=lo/\lo<=67108864) (hhi : -2<=hi/\hi<=67108864) :
  Bd1 w1 D l m C f (rkF (f :: l.map Prod.fst)) (Nat.log2 (C.length-m.length)) dl ql dm qm i ca cb lo hi (lo+(rkF (f :: l.map Prod.fst):Int)) (hi+(Nat.log2 (C.length-m.length):Int)):=by
 have aA:∀ q∈f :: l.map Prod.fst,q∈C:=fun q hq=>by
  rcases List.mem_cons.1 hq with rfl|hq
  ·exact hf.mem hC
  ·obtain⟨y,hy,rfl⟩:=List.mem_map.1 hq;obtain⟨n,hn,rfl⟩:=List.getElem_of_mem hy;have:=(hA n hn).2.1;rwa [Zk3,Zk4 hn] at this
 exact⟨hc,hs,hl,hf,hC,h0,h1,sa,sb,aA,rfl,rfl,QeE hN,QgR hC (by omega) h1 aA,Qt (Nat.log2_le_self _) (Qt (Nat.sub_le _ _) (QK hC (by omega) h1)),⟨hlo.1,hlo.2,hhi.1,hhi.2⟩,rfl,rfl⟩
theorem Qcz (vd:Value) (a b:Int) (l0 l1:List (Int×Int×Int×Int)) (m0 m1:List (Int×Int×Int)) (w:World) (h:Dsc w vd a b l0 l1 m0 m1)
  (hl0:SzF l0) (hl1:SzF l1) (hm0:SzN m0) (hm1:SzN m1) (hz:JG a b=0) (hg0:Qai a b l0 m0) (hg1:Qai (-2*a) (a*a-4*b) l1 m1) :
  Calls Tryz.prog 45 #[vd] w fun e' w'=>∃ lo hi,e'=.returned (.agg #[.int .i64 lo,.int .i64 hi])/\BndTo a b l0 l1 m0 m1 lo hi 0/\Below w.heap.size w w':=by
 obtain⟨s1,a1,n1,g1,s2,a2,n2,g2,d0,o0,q0,d1,o1,q1,d2,o2,q2,d3,o3,q3,rfl,hA,hB,hl,aU,hm,bJ⟩:=h;obtain⟨rfl,-⟩:=hl.len;obtain⟨rfl,-⟩:=aU.len;obtain⟨rfl,-⟩:=hm.len;obtain⟨rfl,-⟩:=bJ.len;obtain⟨bR,bO,aZ,aX⟩:=Q3 hz;obtain⟨z1,z2,z3,z4⟩:=Qam hz;obtain⟨C0,bY,aE,a4⟩:=hg0;obtain⟨C1,bX,bZ,a3⟩:=hg1;obtain⟨f0,bN⟩:=QeM bR;obtain⟨f1,bM⟩:=QeM bO;have bC:=Qh bY;have bB:=Qh bX;have b5:=Qh bN;have b4:=Qh bM;have b8:=Qh aE;have b7:=Qh bZ;clear bY bX bN bM aE bZ;have b0:=Qa w (Qmi 87 s1 a1 n1 g1 s2 a2 n2 g2 d0 l0.length q0 d1 l1.length q1 d2 m0.length q2 d3 m1.length q3);have b1:=Qa (w.alloc (Qmi 87 s1 a1 n1 g1 s2 a2 n2 g2 d0 l0.length q0 d1 l1.length q1 d2 m0.length q2 d3 m1.length q3)) (.cells #[.int .i64 0,.int .i64 0] 96);have e0:=Zk1 w (Qmi 87 s1 a1 n1 g1 s2 a2 n2 g2 d0 l0.length q0 d1 l1.length q1 d2 m0.length q2 d3 m1.length q3);have e1:=Zk1 (w.alloc (Qmi 87 s1 a1 n1 g1 s2 a2 n2 g2 d0 l0.length q0 d1 l1.length q1 d2 m0.length q2 d3 m1.length q3)) (.cells #[.int .i64 0,.int .i64 0] 96);rw[Zk2] at e1;have bb:=Bl.up b0 b1;have kF:Kp fun w'=>w'.heap[w.heap.size]? = some (Qmi 87 s1 a1 n1 g1 s2 a2 n2 g2 d0 l0.length q0 d1 l1.length q1 d2 m0.length q2 d3 m1.length q3)/\w'.heap[w.heap.size+1]? = some (.cells #[.int .i64 0,.int .i64 0] 96)/\It w' (Qme s1 a1 n1 g1) a/\It w' (Qme s2 a2 n2 g2) b/\Sr eFd w' (.slice d0 l0.length q0) l0/\Sr eFd w' (.slice d1 l1.length q1) l1/\Below w.heap.size w w':=kpf;have HF:=Qh (And.intro ((Kp.blk _ _).up e0 b1) (And.intro e1 (And.intro (hA.up bb) (And.intro (hB.up bb) (And.intro (hl.up bb) (And.intro (aU.up bb) bb))))));clear hA hB hl aU hm bJ b0 b1 e0 e1 bb;go_enter Tryz.func45,Tryz.ntmps45
 go_upto_region 1 with fail;generalize (w.alloc (Qmi 87 s1 a1 n1 g1 s2 a2 n2 g2 d0 l0.length q0 d1 l1.length q1 d2 m0.length q2 d3 m1.length q3)).alloc (.cells #[.int .i64 0,.int .i64 0] 96)=w1 at *;obtain⟨p0,p1,p2,p3,p4,p5,p6,p7⟩:=QM HF.out.1;go_upto_region 2 with fail;clear p0 p1 p2 p3 p4 p5 p6 p7;have bn:=Qa w1 (Qmb 35 s1 a1 n1 g1 s2 a2 n2 g2);have HW:=Qh bn;obtain⟨BQ,a6⟩:∃ B,w1.heap.size=B:=⟨_,rfl⟩;have hd:=Zk1 w1 (Qmb 35 s1 a1 n1 g1 s2 a2 n2 g2);rw[a6] at hd |-;have aS:=Qh a6;have HQ:=Qh (show ∃ u1 u2 u3 u4 u5 u6 u7 u8,(w1.alloc (Qmb 35 s1 a1 n1 g1 s2 a2 n2 g2)).heap[BQ]? = some (Qmb 35 u1 u2 u3 u4 u5 u6 u7 u8)/\Qx (w1.alloc (Qmb 35 s1 a1 n1 g1 s2 a2 n2 g2)) (Qmf u1 u2 u3 u4 u5 u6 u7 u8) a b from ⟨_,_,_,_,_,_,_,_,hd,_,_,_,_,_,_,_,_,rfl,HF.out.2.2.1.up bn,HF.out.2.2.2.1.up bn⟩);clear bn hd a6;generalize w1.alloc (Qmb 35 s1 a1 n1 g1 s2 a2 n2 g2)=w2 at *;obtain⟨A,B,aE,aQ,aR⟩:∃ A B:Nat->Int,A 0=a/\B 0=b/\∀ i,A (i+1) = -2*A i/\B (i+1)=A i*A i-4*B i:=⟨fun i=>(ab9 a b i).1,fun i=>(ab9 a b i).2,rfl,rfl,fun _=>⟨rfl,rfl⟩⟩
 have aH:∃ LO HI:Nat->Int,(LO 0 = -2/\HI 0 = -2)/\(∀ i,i<2->∃ l m C f r h dl ql dm qm,Bd1 w1 w.heap.size l m C f r h dl ql dm qm i (A i) (B i) (LO i) (HI i) (LO (i+1)) (HI (i+1)))/\LO 2 = -2+(rkF (f0 :: l0.map Prod.fst):Int)+(rkF (f1 :: l1.map Prod.fst):Int)/\HI 2 = -2+(Nat.log2 (C0.length-m0.length):Int)+(Nat.log2 (C1.length-m1.length):Int):=by
  have aO:∀ w':World,Below w1.heap.size w1 w'->bc8 w' w.heap.size (.bool s1) (.slice a1 n1 g1) (.bool s2) (.slice a2 n2 g2) (.slice d0 l0.length q0) (.slice d1 l1.length q1) (.slice d2 m0.length q2) (.slice d3 m1.length q3):=fun w' hb=>QM (kF.up HF.out hb).1;have e1:=Ql0 (i:=0) (lo:=-2) (hi:=-2) b8.out a4 b5.out bC.out bR aZ z1 z2 hl0.len HF.out.2.2.2.2.1 (fun w' hb=>⟨(aO w' hb).2.2.2.2.1,(aO w' hb).2.2.2.2.2.2.1⟩) (by omega) (by omega);have e2:=Ql0 (i:=1) (lo:=-2+(rkF (f0 :: l0.map Prod.fst):Int)) (hi:=-2+(Nat.log2 (C0.length-m0.length):Int)) b7.out a3 b4.out bB.out bO aX z3 z4 hl1.len HF.out.2.2.2.2.2.1 (fun w' hb=>⟨(aO w' hb).2.2.2.2.2.1,(aO w' hb).2.2.2.2.2.2.2⟩) (by have:=e1.rb;omega) (by have:=e1.hb;omega);refine⟨fun i=>if i=0 then -2 else if i=1 then -2+(rkF (f0 :: l0.map Prod.fst):Int) else -2+(rkF (f0 :: l0.map Prod.fst):Int)+(rkF (f1 :: l1.map Prod.fst):Int),fun i=>if i=0 then -2 else if i=1 then -2+(Nat.log2 (C0.length-m0.length):Int) else -2+(Nat.log2 (C0.length-m0.length):Int)+(Nat.log2 (C1.length-m1.length):Int),⟨rfl,rfl⟩,fun i hi=>?_,rfl,rfl⟩;rcases (show i=0\/i=1 by omega) with rfl|rfl
  ·rw[aE,aQ];exact⟨_,_,_,_,_,_,_,_,_,_,e1⟩
  ·rw[(aR 0).1,(aR 0).2,aE,aQ];exact⟨_,_,_,_,_,_,_,_,_,_,e2⟩
 obtain⟨LO,HI,⟨bT,bV⟩,hK,bS,bU⟩:=aH;have HK:=Qh hK;have b6:=Qh aR;have b2:=Qh (And.intro bS bU);have HQ:=Qh (show ∃ u1 u2 u3 u4 u5 u6 u7 u8,w2.heap[BQ]? = some (Qmb 35 u1 u2 u3 u4 u5 u6 u7 u8)/\Qx w2 (Qmf u1 u2 u3 u4 u5 u6 u7 u8) (A 0) (B 0) by rw[aE,aQ];exact HQ.out);have b3:=Qh (And.intro bT bV);clear hK aR bS bU aE aQ bT bV;go_wp2_with fail
 go_loopw [4,5,6,7,8] (fun s4 s5 s6 _ _ wr=>∃ i:Nat,s4=.int .i64 (LO i)/\s5=.int .i64 (HI i)/\s6=.int .i64 (i:Int)/\i<=2/\Hid (Below w1.heap.size w1 wr)/\Hid (∃ u1 u2 u3 u4 u5 u6 u7 u8,wr.heap[BQ]? = some (Qmb 35 u1 u2 u3 u4 u5 u6 u7 u8)/\Qx wr (Qmf u1 u2 u3 u4 u5 u6 u7 u8) (A i) (B i)))
  (fun _ _ s6 _ _ _=>2-(intOf s6).toNat)
 case atStart=>exact⟨0,by rw[b3.out.1],by rw[b3.out.2],rfl,by decide,HW,HQ⟩
 case round=>
  clear HW HQ;obtain⟨i,rfl,rfl,rfl,hi,HW,HQ⟩:=hrel;by_cases hlt:i<2
  ·have i0:(0:Int)<=(i:Int):=by omega
   have i1:(i:Int)<2:=by omega
   obtain⟨l,m,C,f,r,h,dl,ql,dm,qm,hK⟩:=HK.out i hlt;have aA:=Qh hK;clear hK;obtain⟨u1,u2,u3,u4,u5,u6,u7,u8,bH,bG⟩:=HQ.out;have HP:=Qh (And.intro bH bG);have kP:Kp fun w'=>w'.heap[BQ]? = some (Qmb 35 u1 u2 u3 u4 u5 u6 u7 u8)/\Qx w' (Qmf u1 u2 u3 u4 u5 u6 u7 u8) (A i) (B i):=kpf;clear bH bG HQ;obtain⟨p0,p1,p2,p3⟩:=Qq HP.out.1;go_wp2_with fail;clear p0 p1 p2 p3;refine(QbH _ (B i) wr HP.out.2.snd aA.out.b0 aA.out.b1).mono ?_;rintro e wa ⟨v,f',rfl,hv,hf,hb⟩;rw[hf.uniq aA.out.fr] at hv;obtain⟨sf,af,nf,kf,rfl⟩:=hv.shape;replace HW:=hu hb HW;replace HP:=hu hb HP;go_upto_region 6 with fail;have bn:=Qa wa (Qma 33 sf af nf kf);have HS:=Qh (So.ints1 (base:=w1.heap.size+1) (Zk1 wa (Qma 33 sf af nf kf)) (by have:=HW.out.size;have h5:=(Ql HP.out.1).1;have:=aS.out;omega) (hv.alloc _));replace HW:=hu bn HW;replace HP:=hu bn HP;clear bn hv hf hb;generalize wa.alloc (Qma 33 sf af nf kf)=wb at *;generalize wa.heap.size=g0 at *;go_wp2_with fail
   go_loopw [7,8] (fun s7 s8 wq=>∃ (k g cap:Nat),s7=.slice (some ⟨g,0,none⟩) (k+1) cap/\s8=.int .i64 (k:Int)/\k<=l.length/\Hid (So eI wq (w1.heap.size+1) (.slice (some ⟨g,0,none⟩) (k+1) cap) (f :: (l.take k).map Prod.fst))/\Hid (Below w1.heap.size w1 wq)/\Hid (wq.heap[BQ]? = some (Qmb 35 u1 u2 u3 u4 u5 u6 u7 u8)/\Qx wq (Qmf u1 u2 u3 u4 u5 u6 u7 u8) (A i) (B i)))
    (fun _ s8 _=>l.length-(intOf s8).toNat)
   case atStart=>exact⟨0,g0,1,rfl,rfl,Nat.zero_le _,HS,HW,HP⟩
   case round=>
    clear HS HW HP;obtain⟨k,g,cap,rfl,rfl,hk,HS,HW,HP⟩:=hrel;obtain⟨p4,p6⟩:=aA.out.cl _ HW.out;by_cases hkl:k<l.length
    ·have k1:(k:Int)<(l.length:Int):=by omega
     have k0:(0:Int)<=(k:Int):=by omega
     obtain⟨bL,oF,e9,-,bK⟩:=(aA.out.sl.up HW.out).at hkl;subst e9;obtain⟨t1,t2,t3,t4,_,_,_,_,_,_,_,_,_,_,_,_,hc,-,hx⟩:=bK.fd hkl;obtain⟨c0,c1,-⟩:=hc;have bA:=Qh (show f :: (l.take (k+1)).map Prod.fst=(f :: (l.take k).map Prod.fst)++[(l.getD k (0,0,0,0)).1] by rw[Y1 hkl (0,0,0,0),List.map_append];rfl);obtain⟨x,bE⟩:∃ x,(l.getD k (0,0,0,0)).1=x:=⟨_,rfl⟩;rw[bE] at hx bA;have aK:(f :: (l.take k).map Prod.fst).length=k+1:=by simp;omega
     have cK:=aA.out.ll;have bn:=Qa wr (Qma 33 t1 t2 t3 t4);have bF:=(So.ints1 (base:=0) (Zk1 wr (Qma 33 t1 t2 t3 t4)) (Nat.zero_le _) (hx.alloc _)).sc;have aF:=HS.out.up bn;have a8:=Qh (Bl.up HW.out bn);have aJ:=Qh (kP.up HP.out bn);have bQ:w1.heap.size+1<=(wr.alloc (Qma 33 t1 t2 t3 t4)).heap.size:=by have h5:=(Ql aJ.out.1).1;have:=aS.out;omega
     have j7:IntKind.i64.wrap ((k:Int)+1)=((k+1:Nat):Int):=by rw[IntKind.wrap_i64];omega
     have cJ:(f :: (l.take k).map Prod.fst).length+1<=1099511627776:=by omega
     rw[<- aK] at aF |-;clear bn bK hx bE HS HW HP;go_upto_region 8 with (at_builtin;go_must (refine YX (E:=eI) rfl (.tmp 31) (.tmp 40) _ rfl Tryz.underlying46 (w1.heap.size+1) _ (f :: (l.take k).map Prod.fst) [x] rfl aF bQ _ 0 1 1 rfl rfl bF (by decide) cJ ?_);intro g' a7 w7 a0 aP cM);have cN:=Qh (ButS.below a8.out aP a8.out.size (fun g hg=>by have:=(aF.lt g hg).1;omega));have cP:=Qh (And.intro ((aP.block BQ (Ql aJ.out.1).1 (fun h=>by have:=(aF.lt BQ h).1;have:=aS.out;omega)).trans aJ.out.1) (aJ.out.2.fr aP (fun g hg=>aF.nw g hg)));rw[<- bA.out,aK] at a0;try rw[aK]
     have cO:=Qh a0;clear a0 aP cM bF aF bQ a8 aJ bA p4 p6 c0 c1 aK;go_wp2_with fail;exact⟨⟨k+1,g',a7,rfl,rfl,by omega,cO,cN,cP⟩,by simp only[intOf,Int.toNat_natCast];omega⟩
    ·obtain rfl:k=l.length:=by omega
     rw[List.take_length] at HS;have cK:=aA.out.ll;have k1:¬ (l.length:Int)<(l.length:Int):=by omega
     go_wp2_with fail;clear p4 p6;refine mn (QcT _ (f :: l.map Prod.fst) C (B i).natAbs wr HS.out.sr aA.out.cd (by have:=aA.out.b0;omega) aA.out.b1 aA.out.el (by simp;omega)) fun v wc hv hb=>?_;obtain⟨aG,cG,rfl,-⟩:=id hv;replace HW:=hu hb HW;replace HP:=hu hb HP;have aY:=QK aA.out.cd (by have:=aA.out.b0;omega) aA.out.b1;have cL:=Qt (QbW aA.out.cd aA.out.el) aY;clear hb hv HS;have aT:=aA.out.rk;obtain⟨GL,bW⟩:∃ q,(rkG (f :: l.map Prod.fst)).length=q:=⟨_,rfl⟩;rw[bW] at cL aT |-;clear bW;go_wp2_with fail;refine(J6 GL wc (by omega)).mono ?_;rintro e we ⟨rfl,rfl⟩;rw[aT];clear aT;have cS:=aA.out.rb;have cT:=aA.out.hb;obtain⟨cF,cE,cD,b9⟩:=aA.out.lb;have lw:IntKind.i64.wrap (LO i+(r:Int))=LO i+(r:Int):=by rw[IntKind.wrap_i64];omega
     go_upto_region 11 with fail;refine Qc (by kernel_rfl) [] (S:=fun w'=>Qmk w' BQ u1 u2 u3 u4 u5 u6 u7 u8/\w'.cell? ⟨w.heap.size,6+i,none⟩=some (.slice dm m.length qm)) ⟨Qq HP.out.1,(aA.out.cl _ HW.out).2⟩ (fun aB=>?_);replace HW:=Qh (Bl.drew HW.out);replace HP:=Qh (kP.dr HP.out);generalize we.drew=wf at *;have a5:=aA.out.ml;(refine tS 0 rfl ?_;refine tS 1 rfl ?_;refine tS 2 rfl ?_;refine tS 5 rfl ?_;refine tS 6 rfl ?_;refine tS 7 rfl ?_;refine tS 8 rfl ?_;refine tS 9 rfl ?_)
     (refine oL 3 rfl fun K hK=>tL ?_;go_simp);refine(Yq _ (B i) wf HP.out.2.snd aA.out.b0 aA.out.b1).mono ?_;rintro e wg ⟨v,C9,rfl,hv,hc,hb⟩;rw[hc.uniq aA.out.cd] at hv;obtain⟨aC,cC,rfl,-⟩:=id hv;replace HW:=hu hb HW;replace HP:=hu hb HP;have aI:=nu hb aB;clear hb hv hc;(go_wp2_with fail;clear aB;refine nxL hK aI fun aB=>tL ?_;clear hK);clear aI;have aL:=aA.out.hl;obtain⟨cn,bP⟩:∃ n,C.length=n:=⟨_,rfl⟩;obtain⟨mN,bI⟩:∃ n,m.length=n:=⟨_,rfl⟩;rw[bP] at aY a5 aL |-;rw[bI] at a5 aL aB |-;have cH:IntKind.i64.wrap ((cn:Int)-(mN:Int))=((cn-mN:Nat):Int):=by rw[IntKind.wrap_i64];omega
     have cR:IntKind.i64.wrap (HI i+(h:Int))=HI i+(h:Int):=by rw[IntKind.wrap_i64];omega
     (refine tS 4 rfl ?_;refine tS 10 rfl ?_)
     (refine oL 11 rfl fun K hK=>tL ?_;go_simp);refine(J6 (cn-mN) wg (by omega)).mono ?_;rintro e wh ⟨rfl,rfl⟩;rw[aL];have aI:=aB;(go_wp2_with fail;clear aB;refine nxL hK aI fun aB=>tL ?_;clear hK);clear aI;(refine tS 12 rfl ?_;refine tS 13 rfl ?_)
     refine dT ?_;clear aB cH aL bP bI aY a5;obtain⟨p0,p1,p2,p3⟩:=Qq HP.out.1;go_wp2_with fail;clear p0 p1 p2 p3;refine mn (YG _ (A i) (B i) wh HP.out.2 (Qt aA.out.sa (by decide)) (Qt aA.out.sb (by decide))) fun v wd hv hb=>?_;rw[<- (b6.out i).1,<- (b6.out i).2] at hv;replace HW:=hu hb HW;replace HP:=hu hb HP;have HV:=Qh hv;obtain⟨v1,v2,v3,v4,v5,v6,v7,v8,rfl,-,-⟩:=hv;have aD:=Qh HP.out.1;obtain⟨p0,p1,p2,p3⟩:=Qq aD.out;obtain⟨f0,f1,f2,f3⟩:=JH aD.out;have j7:IntKind.i64.wrap ((i:Int)+1)=((i+1:Nat):Int):=by rw[IntKind.wrap_i64];omega
     clear hb HP cF cE cD b9;go_wp2_with fail;have hh:=Qak aD.out (.bool v1) (.slice v2 v3 v4) (.bool v5) (.slice v6 v7 v8);have aM:=QfG wd BQ (.bool v1) (.slice v2 v3 v4) (.bool v5) (.slice v6 v7 v8);have cI:=nw4 aD.out;have a9:=ButS.below HW.out aM HW.out.size (fun g e=>by have:=aS.out;omega);exact⟨⟨i+1,by rw[aA.out.nx.1],by rw[aA.out.nx.2],rfl,by omega,Qh a9,Qh ⟨_,_,_,_,_,_,_,_,hh,HV.out.fr aM cI⟩⟩,by simp only[intOf,Int.toNat_natCast];omega⟩
  ·obtain rfl:i=2:=by omega
   have bD:=Qh (kF.up HF.out HW.out);obtain⟨lo,aH⟩:∃ z,LO 2=z:=⟨_,rfl⟩;obtain⟨aV,aW⟩:∃ z,HI 2=z:=⟨_,rfl⟩
   have cQ:=Qh (show BndTo a b l0 l1 m0 m1 (max lo 0) aV 0 by
    rw[<- aH,<- aW,b2.out.1,b2.out.2];refine⟨.inr (.inl ⟨hz,⟨⟨C0,bC.out,b8.out,a4⟩,⟨C1,bB.out,b7.out,a3⟩⟩,rfl⟩),.inr ⟨rfl,f0,f1,C0,C1,b5.out,b4.out,bC.out,bB.out,rfl,?_⟩⟩;have:=QeE a4;have:=QeE a3;rw[show ((C0.length:Int)-m0.length).toNat=C0.length-m0.length by omega,show ((C1.length:Int)-m1.length).toNat=C1.length-m1.length by omega])
   rw[aH,aW];clear aH aW;have aD:=Qh bD.out.2.1;obtain⟨z0,z1⟩:=Qz aD.out;obtain⟨y0,y1⟩:=Qfo aD.out;go_wp2_with fail;have hh:=Qln aD.out (.int .i64 (max lo 0)) (.int .i64 aV);have aM:=(ButS.set wr (w.heap.size+1) 0 (.int .i64 (max lo 0))).trans (ButS.set _ (w.heap.size+1) 1 (.int .i64 aV));have a9:=ButS.below bD.out.2.2.2.2.2.2 aM bD.out.2.2.2.2.2.2.size (fun g e=>by omega);exact JY (B:=w.heap.size+1) rfl rfl rfl (QkR _ _ _ _ _ _ hh) ⟨_,_,rfl,cQ.out,a9⟩
