/-
  algoristref29.Check.
-/
import Derived.Test.YteidokhjmbihlaaGreatDZA
import Derived.Test.YteidokhjmbihlaaGreatFN
import Derived.Test.YteidokhjmbihlaaGreatDZB
import Derived.Test.YteidokhjmbihlaaGreatDK
import Derived.Test.YteidokhjmbihlaaGreatDL
import Derived.Test.YteidokhjmbihlaaGreatDM
set_option linter.all false
set_option maxRecDepth 100000
set_option maxHeartbeats 8000000
namespace Go.Proofs.YteidokhjmbihlaaGreat
open Go.RowKit
attribute [local go_sem ↓] Go.wp_at_zero Go.wp_at_succ
theorem QgI {m k:Int} {q:Nat} (hm:sz m<=q) (hk:sz k<=q):sz (Int.gcd m k:Int)<=q:=by
 by_cases h:m=0
 ·subst h;rw[Int.gcd_zero_left];exact hk
 ·exact Qt (QA (Nat.le_of_dvd (Int.natAbs_pos.2 h) (Int.natAbs_dvd_natAbs.2 (Int.gcd_dvd_left ..)))) hm
theorem Qa9 (va vb:Value) (x y z b m k n:Int) (w:World) (h:Sx w va x y z) (h2:Fnd w vb b m k n) (hx9:sz x<=1000000) (hy9:sz y<=1000000) (hz9:sz z<=1000000) (hb9:sz b<=1000000) (hm9:sz m<=1000000) (hk9:sz k<=1000000) (hn9:sz n<=1000000) :
  Calls Tryz.prog 138 #[va,vb] w fun e' w'=>e'=.returned (.bool (Q0 x y z b m k n))/\Below w.heap.size w w':=by
 have qp:=h;obtain⟨aF,aQ,aI,aL,aE,aP,aH,aK,aD,aO,aG,aJ,rfl,bN,bM,bL⟩:=h;have qq:=h2;obtain⟨aW,a9,a0,a4,aV,a8,aZ,a3,aU,a7,aY,a2,aT,a6,aX,a1,rfl,bK,bJ,bI,bH⟩:=h2;obtain⟨F,bO,kF⟩:=kpe (fun w'=>w'.heap[w.heap.size]? = some (Qmc 53 aF aQ aI aL aE aP aH aK aD aO aG aJ)/\w'.heap[w.heap.size+1]? = some (Qmd 78 aW a9 a0 a4 aV a8 aZ a3 aU a7 aY a2 aT a6 aX a1)/\Sx w' (Qmg aF aQ aI aL aE aP aH aK aD aO aG aJ) (x) (y) (z)/\It w' (Qme aF aQ aI aL) (x)/\It w' (Qme aE aP aH aK) (y)/\It w' (Qme aD aO aG aJ) (z)/\Fnd w' (Qmh aW a9 a0 a4 aV a8 aZ a3 aU a7 aY a2 aT a6 aX a1) (b) (m) (k) (n)/\It w' (Qme aW a9 a0 a4) (b)/\It w' (Qme aV a8 aZ a3) (m)/\It w' (Qme aU a7 aY a2) (k)/\It w' (Qme aT a6 aX a1) (n)/\Below w.heap.size w w');have aC:=Qh bO;clear bO;have bP:=Qa w (Qmc 53 aF aQ aI aL aE aP aH aK aD aO aG aJ);have d0:=Zk1 w (Qmc 53 aF aQ aI aL aE aP aH aK aD aO aG aJ);have bE:=Qa (w.alloc (Qmc 53 aF aQ aI aL aE aP aH aK aD aO aG aJ)) (Qmd 78 aW a9 a0 a4 aV a8 aZ a3 aU a7 aY a2 aT a6 aX a1);have d1:=Zk1 (w.alloc (Qmc 53 aF aQ aI aL aE aP aH aK aD aO aG aJ)) (Qmd 78 aW a9 a0 a4 aV a8 aZ a3 aU a7 aY a2 aT a6 aX a1);rw[show (w.alloc (Qmc 53 aF aQ aI aL aE aP aH aK aD aO aG aJ)).heap.size=w.heap.size+1 by simp only[Zk2]] at d1;have aM:=Bl.up bP bE;have HF:Hid (F ((w.alloc (Qmc 53 aF aQ aI aL aE aP aH aK aD aO aG aJ)).alloc (Qmd 78 aW a9 a0 a4 aV a8 aZ a3 aU a7 aY a2 aT a6 aX a1))):=Qh ((aC.out _).2 ⟨(Kp.blk _ _).up d0 bE,d1,qp.up aM,bN.up aM,bM.up aM,bL.up aM,qq.up aM,bK.up aM,bJ.up aM,bI.up aM,bH.up aM,aM⟩);clear bP d0 bE d1 aM qp bN bM bL qq bK bJ bI bH;go_enter Tryz.func138,Tryz.ntmps138
 go_upto_region 1 with fail;generalize (w.alloc (Qmc 53 aF aQ aI aL aE aP aH aK aD aO aG aJ)).alloc (Qmd 78 aW a9 a0 a4 aV a8 aZ a3 aU a7 aY a2 aT a6 aX a1)=W at *;refine Qc (by kernel_rfl) [] (S:=fun w'=>Qml w' (w.heap.size) aF aQ aI aL aE aP aH aK aD aO aG aJ/\Qmm w' (w.heap.size+1) aW a9 a0 a4 aV a8 aZ a3 aU a7 aY a2 aT a6 aX a1) ⟨QY ((aC.out _).1 HF.out).1,QM ((aC.out _).1 HF.out).2.1⟩ (fun aA=>?_);replace HF:=Qh (kF.dr HF.out);generalize W.drew=wa at *;(refine tS 0 rfl ?_;refine tS 1 rfl ?_;refine tS 2 rfl ?_;refine tS 3 rfl ?_)
 (refine oL 4 rfl fun K hK=>tL ?_;go_simp);refine mz (YH _ _ x b wa ((aC.out _).1 HF.out).2.2.2.1 ((aC.out _).1 HF.out).2.2.2.2.2.2.2.1 (by omega) (by omega)) fun wc1 hb=>?_;have aB:=nu hb aA;replace HF:=hu hb HF;clear hb;(go_wp2_with fail;clear aA;refine nxL hK aB fun aA=>tL ?_;clear hK);clear aB;by_cases hxb:x=b
 case neg=>
  have a5:Y9 (x) (b)=false:=by rw[Bool.eq_false_iff];exact fun h=>hxb (Yj.1 h)
  simp only[a5];have HP:=Qh (show Q0 x y z b m k n=false from by unfold Q0;skip;simp[hxb]);clear a5;(refine tS 5 rfl ?_)
  (refine uL 6 rfl ?_;refine uL 7 rfl ?_;refine uL 8 rfl ?_;refine uL 9 rfl ?_;refine uL 10 rfl ?_;refine uL 11 rfl ?_;refine uL 12 rfl ?_)
  (refine tS 13 rfl ?_;refine tS 14 rfl ?_)
  (refine uL 15 rfl ?_;refine uL 16 rfl ?_;refine uL 17 rfl ?_;refine uL 18 rfl ?_;refine uL 19 rfl ?_;refine uL 20 rfl ?_;refine uL 21 rfl ?_;refine uL 22 rfl ?_;refine uL 23 rfl ?_;refine uL 24 rfl ?_;refine uL 25 rfl ?_;refine uL 26 rfl ?_)
  (refine tS 27 rfl ?_)
  (refine pL 28 rfl ?_)
  refine dT ?_;clear aA;go_wp2_with fail;go_ret
  exact⟨by rw[HP.out];rfl,((aC.out _).1 HF.out).2.2.2.2.2.2.2.2.2.2.2⟩
 simp only[show Y9 (x) (b)=true from Yj.2 hxb];have bB:=Qh hxb;clear hxb;(refine tS 5 rfl ?_;refine tS 6 rfl ?_;refine tS 7 rfl ?_;refine tS 8 rfl ?_;refine tS 9 rfl ?_)
 (refine oL 10 rfl fun K hK=>tL ?_;go_simp);refine mn (Qck _ _ m k wc1 ((aC.out _).1 HF.out).2.2.2.2.2.2.2.2.1 ((aC.out _).1 HF.out).2.2.2.2.2.2.2.2.2.1 (by omega) (by omega)) fun v wc2 hv hb=>?_;obtain⟨bT,b5,bX,b1,rfl⟩:=hv.shape;have aB:=nu hb aA;replace HF:=hu hb HF;have aR:=Qh hv;clear hb hv;(go_wp2_with fail;clear aA;refine nxL hK aB fun aA=>tL ?_;clear hK);clear aB;(refine oL 11 rfl fun K hK=>tL ?_;go_simp);refine mn (Qm 1 wc2 (by decide) (by decide)) fun v wc3 hv hb=>?_;obtain⟨bS,b4,bW,b0,rfl⟩:=hv.shape;have aB:=nu hb aA;replace aR:=hu hb aR;replace HF:=hu hb HF;have aS:=Qh hv;clear hb hv;(go_wp2_with fail;clear aA;refine nxL hK aB fun aA=>tL ?_;clear hK);clear aB;have b6:sz (Int.gcd m k:Int)<=1000000:=QgI hm9 hk9;(refine oL 12 rfl fun K hK=>tL ?_;go_simp);refine mz (YH _ _ (Int.gcd m k:Int) 1 wc3 aR.out aS.out (by omega) (by decide)) fun wc4 hb=>?_;have aB:=nu hb aA;replace aR:=hu hb aR;replace aS:=hu hb aS;replace HF:=hu hb HF;clear hb;(go_wp2_with fail;clear aA;refine nxL hK aB fun aA=>tL ?_;clear hK);clear aB;by_cases hg1:(Int.gcd m k:Int)=1
 case neg=>
  have a5:Y9 ((Int.gcd m k:Int)) (1)=false:=by rw[Bool.eq_false_iff];exact fun h=>hg1 (Yj.1 h)
  simp only[a5];have HP:=Qh (show Q0 x y z b m k n=false from by unfold Q0;have bD:¬ Int.gcd m k=1:=fun e=>hg1 (by rw[e];rfl);simp[bB.out,bD]);clear a5;(refine tS 13 rfl ?_;refine tS 14 rfl ?_)
  (refine uL 15 rfl ?_;refine uL 16 rfl ?_;refine uL 17 rfl ?_;refine uL 18 rfl ?_;refine uL 19 rfl ?_;refine uL 20 rfl ?_;refine uL 21 rfl ?_;refine uL 22 rfl ?_;refine uL 23 rfl ?_;refine uL 24 rfl ?_;refine uL 25 rfl ?_;refine uL 26 rfl ?_)
  (refine tS 27 rfl ?_)
  (refine pL 28 rfl ?_)
  refine dT ?_;clear aA;go_wp2_with fail;go_ret
  exact⟨by rw[HP.out];rfl,((aC.out _).1 HF.out).2.2.2.2.2.2.2.2.2.2.2⟩
 simp only[show Y9 ((Int.gcd m k:Int)) (1)=true from Yj.2 hg1];have bC:=Qh hg1;clear hg1;have z1:=Qj n n;have z2:=Qll x y z m k;(refine tS 13 rfl ?_;refine tS 14 rfl ?_;refine tS 15 rfl ?_;refine tS 16 rfl ?_;refine tS 17 rfl ?_;refine tS 18 rfl ?_;refine tS 20 rfl ?_;refine tS 21 rfl ?_;refine tS 22 rfl ?_;refine tS 23 rfl ?_;refine tS 24 rfl ?_)
 (refine oL 19 rfl fun K hK=>tL ?_;go_simp);refine mn (QI _ _ n n wc4 ((aC.out _).1 HF.out).2.2.2.2.2.2.2.2.2.2.1 ((aC.out _).1 HF.out).2.2.2.2.2.2.2.2.2.2.1 (by omega) (by omega)) fun v wc5 hv hb=>?_;obtain⟨bR,b3,bV,bZ,rfl⟩:=hv.shape;have aB:=nu hb aA;replace aR:=hu hb aR;replace aS:=hu hb aS;replace HF:=hu hb HF;have bA:=Qh hv;clear hb hv;(go_wp2_with fail;clear aA;refine nxL hK aB fun aA=>tL ?_;clear hK);clear aB;(refine oL 25 rfl fun K hK=>tL ?_;go_simp);refine mn (Qdv _ _ _ x y z m k wc5 ((aC.out _).1 HF.out).2.2.1 ((aC.out _).1 HF.out).2.2.2.2.2.2.2.2.1 ((aC.out _).1 HF.out).2.2.2.2.2.2.2.2.2.1 (by omega) (by omega) (by omega) (by omega) (by omega)) fun v wc6 hv hb=>?_;obtain⟨bQ,b2,bU,bY,rfl⟩:=hv.shape;have aB:=nu hb aA;replace aR:=hu hb aR;replace aS:=hu hb aS;replace bA:=hu hb bA;replace HF:=hu hb HF;have bF:=Qh hv;clear hb hv;(go_wp2_with fail;clear aA;refine nxL hK aB fun aA=>tL ?_;clear hK);clear aB;(refine oL 26 rfl fun K hK=>tL ?_;go_simp);refine mz (YH _ _ (n*n) (JS x y z m k) wc6 bA.out bF.out (by omega) (by omega)) fun wc7 hb=>?_;have aB:=nu hb aA;replace aR:=hu hb aR;replace aS:=hu hb aS;replace bA:=hu hb bA;replace bF:=hu hb bF;replace HF:=hu hb HF;clear hb;(go_wp2_with fail;clear aA;refine nxL hK aB fun aA=>tL ?_;clear hK);clear aB;by_cases hnv:n*n=JS x y z m k
 case neg=>
  have a5:Y9 (n*n) (JS x y z m k)=false:=by rw[Bool.eq_false_iff];exact fun h=>hnv (Yj.1 h)
  simp only[a5];have HP:=Qh (show Q0 x y z b m k n=false from by unfold Q0;have bD:Int.gcd m k=1:=(by have:=bC.out;omega);simp[decide_eq_false hnv]);clear a5;(refine tS 27 rfl ?_)
  (refine pL 28 rfl ?_)
  refine dT ?_;clear aA;go_wp2_with fail;go_ret
  exact⟨by rw[HP.out];rfl,((aC.out _).1 HF.out).2.2.2.2.2.2.2.2.2.2.2⟩
 simp only[show Y9 (n*n) (JS x y z m k)=true from Yj.2 hnv];have bG:=Qh hnv;clear hnv;have HP:=Qh (show Q0 x y z b m k n=true from by unfold Q0;have bD:Int.gcd m k=1:=(by have:=bC.out;omega);simp[bB.out,bD,bG.out]);(refine tS 27 rfl ?_)
 (refine pL 28 rfl ?_)
 refine dT ?_;clear aA;go_wp2_with fail;go_ret
 exact⟨by rw[HP.out];rfl,((aC.out _).1 HF.out).2.2.2.2.2.2.2.2.2.2.2⟩
theorem QaY (va vl:Value) (a b:Int) (C:List Int) (l:List (Int×Int×Int×Int)) (w:World) (h:Qx w va a b) (hl:Sr eFd w vl l) (hC:Cand b.natAbs C) (hb0:b≠0) (hbl:b.natAbs<1099511627776) (hsa:sz a<=1000000) (hsb:sz b<=1000000) (hL:l.length<=549755813888)
  (hsl:∀ f∈l,sz f.1<=1000000/\sz f.2.1<=1000000/\sz f.2.2.1<=1000000/\sz f.2.2.2<=1000000) :
  Calls Tryz.prog 97 #[va,vl] w fun e' w'=>∃ r,e'=.returned (.bool r)/\(r=true↔∀ i,i<l.length->Y5 a b C l i)/\Below w.heap.size w w':=by
 have aW:=h;obtain⟨sa,aa,na,ka,sb,ab,nb,kb,rfl,hA,hB⟩:=h;obtain⟨aL,cL,rfl,-⟩:=id hl;have a9:=Yc (by omega) hbl (fun d hd=>((hC.2 d).1 hd).2.2);have bA:C.length<=1000000000:=Qt (QK hC (by omega) hbl) (by decide);have bn:=Qa w (Qmb 35 sa aa na ka sb ab nb kb);have hD:=Zk1 w (Qmb 35 sa aa na ka sb ab nb kb);have hq:=aW.up bn;have aY:=hl.up bn;have a1:=hB.up bn;go_enter Tryz.func97,Tryz.ntmps97
 go_upto_region 1 with fail;generalize w.alloc (Qmb 35 sa aa na ka sb ab nb kb)=W at *;obtain⟨p0,p1,p2,p3⟩:=Qq hD;go_wp2_with fail;clear p0 p1 p2 p3;refine(Yq _ b W a1 hb0 hbl).mono ?_;rintro e w1 ⟨v,C',rfl,aE,a0,hb⟩;rw[a0.uniq hC] at aE;obtain⟨aC,cC,rfl,-⟩:=id aE;have kF:Kp fun w'=>w'.heap[w.heap.size]? = some (Qmb 35 sa aa na ka sb ab nb kb)/\Qx w' (Qmf sa aa na ka sb ab nb kb) a b/\Sr eFd w' (.slice aL l.length cL) l/\Sr eI w' (.slice aC C.length cC) C/\Below w.heap.size w w':=kpf;have HF:=Qh (And.intro ((Kp.blk _ _).up hD hb) (And.intro (hq.up hb) (And.intro (aY.up hb) (And.intro aE (Bl.up bn hb)))));have a2:=Qh hsl;clear hb aE a0 hD hq aY a1 bn hA hB aW hl hsl;go_wp2_with fail
 go_loopw [4,6] (fun _ s6 wr=>∃ i:Nat,s6=.int .i64 (i:Int)/\i<=l.length/\Hid (∀ q,q<i->Y5 a b C l q)/\Hid (wr.heap[w.heap.size]? = some (Qmb 35 sa aa na ka sb ab nb kb)/\Qx wr (Qmf sa aa na ka sb ab nb kb) a b/\Sr eFd wr (.slice aL l.length cL) l/\Sr eI wr (.slice aC C.length cC) C/\Below w.heap.size w wr))
  (fun _ s6 _=>l.length-(intOf s6).toNat)
 case atStart=>exact⟨0,rfl,Nat.zero_le _,Qh (fun q hq=>by omega),HF⟩
 case round=>
  clear HF;obtain⟨i,rfl,hi,HA,HF⟩:=hrel;by_cases hil:i<l.length
  ·obtain⟨k,hk⟩:∃ k,k=i-1:=⟨_,rfl⟩;have aJ:k<l.length:=by omega
   have j0:(0:Int)<=(i:Int):=by omega
   have j1:(i:Int)<(l.length:Int):=by omega
   have j2:(k:Int)<(l.length:Int):=by omega
   have j3:(0:Int)<=(k:Int):=by omega
   obtain⟨bL,oF,rfl,-,aI⟩:=HF.out.2.2.1.at hil;obtain⟨u1,u2,u3,u4,u5,u6,u7,u8,u9,u10,u11,u12,u13,u14,u15,u16,c1,aK,aH⟩:=aI.fd hil;obtain⟨v1,v2,v3,v4,v5,v6,v7,v8,v9,aU,aT,aS,aR,aQ,aP,aO,c2,-,aG⟩:=aI.fd aJ;have aX:=a2.out _ (Qo hil (0,0,0,0));have a7:=(a2.out _ (Qo aJ (0,0,0,0))).1;obtain⟨y,hy⟩:∃ y,(l.getD i (0,0,0,0)).1=y:=⟨_,rfl⟩;obtain⟨m,hm⟩:∃ y,(l.getD i (0,0,0,0)).2.1=y:=⟨_,rfl⟩;obtain⟨e0,he⟩:∃ y,(l.getD i (0,0,0,0)).2.2.1=y:=⟨_,rfl⟩;obtain⟨n,hn⟩:∃ y,(l.getD i (0,0,0,0)).2.2.2=y:=⟨_,rfl⟩;obtain⟨d,hd⟩:∃ y,(l.getD k (0,0,0,0)).1=y:=⟨_,rfl⟩;rw[hy,hm,he,hn] at aK aX;rw[hy] at aH;rw[hd] at aG a7;obtain⟨s1,s2,s3,s4⟩:=aX;have HY:=Qh hy;have HM:=Qh hm;have HK:=Qh he;have HN:=Qh hn;have a3:=Qh (show (l.getD (i-1) (0,0,0,0)).1=d by rw[<- hk];exact hd);have bB:=Qh hk;have HE:=Qh (And.intro aK (And.intro aH aG));have kE:Kp fun w'=>Fnd w' (Qmh u1 u2 u3 u4 u5 u6 u7 u8 u9 u10 u11 u12 u13 u14 u15 u16) y m e0 n/\It w' (Qme u1 u2 u3 u4) y/\It w' (Qme v1 v2 v3 v4) d:=kpf;have aZ:Qmk wr w.heap.size sa aa na ka sb ab nb kb/\rc8 wr bL (oF+i*8) (.bool u1) (.slice u2 u3 u4) (.bool u5) (.slice u6 u7 u8) (.bool u9) (.slice u10 u11 u12) (.bool u13) (.slice u14 u15 u16)/\rc8 wr bL (oF+k*8) (.bool v1) (.slice v2 v3 v4) (.bool v5) (.slice v6 v7 v8) (.bool v9) (.slice aU aT aS) (.bool aR) (.slice aQ aP aO):=⟨Qq HF.out.1,c1,c2⟩;clear aI aK aH aG c1 c2 hy hm he hn hd hk aJ;go_upto_region 5 with fail;refine Qc (by kernel_rfl) [] (S:=fun w'=>Qmk w' w.heap.size sa aa na ka sb ab nb kb/\rc8 w' bL (oF+i*8) (.bool u1) (.slice u2 u3 u4) (.bool u5) (.slice u6 u7 u8) (.bool u9) (.slice u10 u11 u12) (.bool u13) (.slice u14 u15 u16)/\rc8 w' bL (oF+k*8) (.bool v1) (.slice v2 v3 v4) (.bool v5) (.slice v6 v7 v8) (.bool v9) (.slice aU aT aS) (.bool aR) (.slice aQ aP aO)) aZ (fun aA=>?_);clear aZ;replace HF:=Qh (kF.dr HF.out);replace HE:=Qh (kE.dr HE.out);generalize wr.drew=wa at *;rcases Nat.eq_zero_or_pos i with hi0|hi0
   case' inl=>
    have a4:=Qh (show 0<i->d<y from fun h=>by omega);(refine tS 0 rfl ?_;refine tS 1 rfl ?_;refine tS 2 rfl ?_)
    (refine uL 3 rfl ?_;refine uL 4 rfl ?_;refine uL 5 rfl ?_;refine uL 6 rfl ?_;refine uL 7 rfl ?_;refine uL 8 rfl ?_;refine uL 9 rfl ?_;refine uL 10 rfl ?_;refine uL 11 rfl ?_;refine uL 12 rfl ?_;refine uL 13 rfl ?_;refine uL 14 rfl ?_;refine uL 15 rfl ?_)
    (refine tS 16 rfl ?_;refine tS 17 rfl ?_)
    have bD:=Qh hi0;clear hi0;generalize wa=wz at *
   case' inr=>
    have a8:IntKind.i64.wrap ((i:Int)-1)=(k:Int):=by rw[IntKind.wrap_i64];have:=bB.out;omega
    (refine tS 0 rfl ?_;refine tS 1 rfl ?_;refine tS 2 rfl ?_;refine tS 3 rfl ?_;refine tS 4 rfl ?_;refine tS 5 rfl ?_;refine tS 6 rfl ?_;refine tS 7 rfl ?_;refine tS 8 rfl ?_;refine tS 9 rfl ?_;refine tS 10 rfl ?_;refine tS 11 rfl ?_;refine tS 12 rfl ?_;refine tS 13 rfl ?_)
    (refine oL 14 rfl fun K hK=>tL ?_;go_simp);refine mz (J3 _ _ d y wa HE.out.2.2 HE.out.2.1 (by omega) (by omega)) fun wb hb=>?_;replace HF:=hu hb HF;replace HE:=hu hb HE;have aB:=nu hb aA;clear hb;(go_wp2_with fail;clear aA;refine nxL hK aB fun aA=>tL ?_;clear hK);clear aB a8;have aF:(Qg d y>=0)=(d>=y):=by rw[eq_iff_iff];unfold Qg;split <;> (try split) <;> omega
    by_cases hge:d>=y
    case pos=>
     have aM:Qg d y>=0:=by rw[aF];exact hge
     have HB:=Qh (show ¬ Y5 a b C l i from fun h=>by have:=h.1 hi0;rw[HY.out,a3.out] at this;omega);clear aF hge;obtain⟨cc,aD⟩:∃ cc,Qg d y=cc:=⟨_,rfl⟩;rw[aD] at aM |-;clear aD;(refine tS 15 rfl ?_;refine tS 16 rfl ?_;refine tS 17 rfl ?_)
     (refine uL 18 rfl ?_;refine uL 19 rfl ?_;refine uL 20 rfl ?_;refine uL 21 rfl ?_;refine uL 22 rfl ?_;refine uL 23 rfl ?_;refine uL 24 rfl ?_;refine uL 25 rfl ?_)
     (refine tS 26 rfl ?_;refine tS 27 rfl ?_)
     (refine uL 28 rfl ?_;refine uL 29 rfl ?_;refine uL 30 rfl ?_;refine uL 31 rfl ?_;refine uL 32 rfl ?_;refine uL 33 rfl ?_;refine uL 34 rfl ?_;refine uL 35 rfl ?_;refine uL 36 rfl ?_;refine uL 37 rfl ?_;refine uL 38 rfl ?_;refine uL 39 rfl ?_;refine uL 40 rfl ?_)
     (refine tS 41 rfl ?_)
     refine dT ?_;clear aA;go_wp2_with fail;go_ret
     exact⟨false,rfl,⟨fun h=>(by cases h),fun h=>absurd (h i hil) HB.out⟩,HF.out.2.2.2.2⟩
    have aM:¬ Qg d y>=0:=by rw[aF];exact hge
    have a4:=Qh (show 0<i->d<y from fun _=>by omega);clear aF hge;obtain⟨cc,aD⟩:∃ cc,Qg d y=cc:=⟨_,rfl⟩;rw[aD] at aM |-;clear aD;have bF:cc<0:=by omega
    (refine tS 15 rfl ?_;refine tS 16 rfl ?_;refine tS 17 rfl ?_)
    have bD:=Qh hi0;clear hi0;generalize wb=wz at *
   all_goals
    (refine tS 18 rfl ?_;refine tS 19 rfl ?_;refine tS 20 rfl ?_;refine tS 21 rfl ?_;refine tS 22 rfl ?_;refine tS 23 rfl ?_)
    (refine oL 24 rfl fun K hK=>tL ?_;go_simp);refine mz (Ja _ _ C y wz HF.out.2.2.2.1 HE.out.2.1 (fun q hq=>Qt (a9 q hq) (by decide)) (by omega) bA) fun wh hb=>?_;replace HF:=hu hb HF;replace HE:=hu hb HE;have aB:=nu hb aA;clear hb;(go_wp2_with fail;clear aA;refine nxL hK aB fun aA=>tL ?_;clear hK);clear aB;by_cases hin:y∈C
    case neg=>
     simp only[show decide (y∈C)=false from decide_eq_false hin];have HB:=Qh (show ¬ Y5 a b C l i from fun h=>hin (by have:=h.2.1;rwa [HY.out] at this));clear hin;(refine tS 25 rfl ?_;refine tS 26 rfl ?_;refine tS 27 rfl ?_)
     (refine uL 28 rfl ?_;refine uL 29 rfl ?_;refine uL 30 rfl ?_;refine uL 31 rfl ?_;refine uL 32 rfl ?_;refine uL 33 rfl ?_;refine uL 34 rfl ?_;refine uL 35 rfl ?_;refine uL 36 rfl ?_;refine uL 37 rfl ?_;refine uL 38 rfl ?_;refine uL 39 rfl ?_;refine uL 40 rfl ?_)
     (refine tS 41 rfl ?_)
     refine dT ?_;clear aA;go_wp2_with fail;go_ret
     exact⟨false,rfl,⟨fun h=>(by cases h),fun h=>absurd (h i hil) HB.out⟩,HF.out.2.2.2.2⟩
    simp only[show decide (y∈C)=true from decide_eq_true hin];have a5:y≠0:=(JU hC hb0 hin).1;have bC:=Qh hin;clear hin;(refine tS 25 rfl ?_;refine tS 26 rfl ?_;refine tS 27 rfl ?_;refine tS 28 rfl ?_;refine tS 29 rfl ?_;refine tS 30 rfl ?_;refine tS 31 rfl ?_;refine tS 32 rfl ?_;refine tS 33 rfl ?_;refine tS 35 rfl ?_;refine tS 36 rfl ?_;refine tS 37 rfl ?_;refine tS 38 rfl ?_)
    (refine oL 34 rfl fun K hK=>tL ?_;go_simp);refine mn (JC _ _ a b y wh HF.out.2.1 HE.out.2.1 a5 hsb (by omega)) fun v wm hv hb=>?_;have aV:=hv;obtain⟨e1,e2,e3,e4,e5,e6,e7,e8,e9,bI,bH,bG,rfl,-,-,-⟩:=hv;replace HF:=hu hb HF;replace HE:=hu hb HE;have aB:=nu hb aA;have HV:=Qh aV;have a6:sz (b/y)<=1000000:=Qt (QA (Int.natAbs_ediv_le_natAbs b y)) hsb;clear hb aV;(go_wp2_with fail;clear aA;refine nxL hK aB fun aA=>tL ?_;clear hK);clear aB;(refine oL 39 rfl fun K hK=>tL ?_;go_simp);refine mz (Qa9 _ _ y a (b/y) y m e0 n wm HV.out HE.out.1 (by omega) hsa a6 (by omega) (by omega) (by omega) (by omega)) fun wn hb=>?_;replace HF:=hu hb HF;replace HE:=hu hb HE;have aB:=nu hb aA;clear hb HV;(go_wp2_with fail;clear aA;refine nxL hK aB fun aA=>tL ?_;clear hK);clear aB
    cases hh:Q0 y a (b/y) y m e0 n
    ·have HB:=Qh (show ¬ Y5 a b C l i from fun h=>by have:=h.2.2;rw[HY.out,HM.out,HK.out,HN.out,hh] at this;cases this);clear hh;(refine tS 40 rfl ?_;refine tS 41 rfl ?_)
     refine dT ?_;clear aA;go_wp2_with fail;go_ret
     exact⟨false,rfl,⟨fun h=>(by cases h),fun h=>absurd (h i hil) HB.out⟩,HF.out.2.2.2.2⟩
    ·have HB:=Qh (show Y5 a b C l i from ⟨fun h0=>by rw[HY.out,a3.out];exact a4.out h0,by rw[HY.out];exact bC.out,by rw[HY.out,HM.out,HK.out,HN.out];exact hh⟩);clear hh
     have bE:=Qh (show ∀ q,q<i+1->Y5 a b C l q from fun q hq=>by
      by_cases e:q=i
      ·subst e;exact HB.out
      ·exact HA.out q (by omega))
     have j7:IntKind.i64.wrap ((i:Int)+1)=((i+1:Nat):Int):=by rw[IntKind.wrap_i64];omega
     (refine tS 40 rfl ?_;refine tS 41 rfl ?_)
     refine dT ?_;clear aA;go_wp2_with fail;exact⟨⟨i+1,rfl,by omega,bE,HF⟩,by simp only[intOf,Int.toNat_natCast];omega⟩
  ·obtain rfl:i=l.length:=by omega
   go_wp2_with fail;go_ret
   exact⟨true,rfl,⟨fun _=>HA.out,fun _=>rfl⟩,HF.out.2.2.2.2⟩
theorem JK (va vl:Value) (a b:Int) (C:List Int) (l:List (Int×Int×Int)) (w:World) (h:Qx w va a b) (hl:Sr eIs w vl l) (hC:Cand b.natAbs C) (hb0:b≠0) (hbl:b.natAbs<1099511627776) (hsa:sz a<=1000000) (hsb:sz b<=1000000) (hL:l.length<=549755813888)
  (hsl:∀ f∈l,sz f.1<=1000000 /\ -9223372036854775808<=f.2.1/\f.2.1<=9223372036854775807 /\ -9223372036854775808<=f.2.2/\f.2.2<=9223372036854775807) :
  Calls Tryz.prog 98 #[va,vl] w fun e' w'=>∃ r,e'=.returned (.bool r)/\(r=true↔∀ i,i<l.length->YT a b C l i)/\Below w.heap.size w w':=by
 have aR:=h;obtain⟨sa,aa,na,ka,sb,ab,nb,kb,rfl,hA,hB⟩:=h;obtain⟨aL,cL,rfl,-⟩:=id hl;have a5:=Yc (by omega) hbl (fun d hd=>((hC.2 d).1 hd).2.2);have a6:C.length<=1000000000:=Qt (QK hC (by omega) hbl) (by decide);have bn:=Qa w (Qmb 35 sa aa na ka sb ab nb kb);have hD:=Zk1 w (Qmb 35 sa aa na ka sb ab nb kb);have hq:=aR.up bn;have aT:=hl.up bn;have aX:=hB.up bn;go_enter Tryz.func98,Tryz.ntmps98
 go_upto_region 1 with fail;generalize w.alloc (Qmb 35 sa aa na ka sb ab nb kb)=W at *;obtain⟨p0,p1,p2,p3⟩:=Qq hD;go_wp2_with fail;clear p0 p1 p2 p3;refine(Yq _ b W aX hb0 hbl).mono ?_;rintro e w1 ⟨v,C',rfl,aF,aW,hb⟩;rw[aW.uniq hC] at aF;obtain⟨aC,cC,rfl,-⟩:=id aF;have kF:Kp fun w'=>w'.heap[w.heap.size]? = some (Qmb 35 sa aa na ka sb ab nb kb)/\Qx w' (Qmf sa aa na ka sb ab nb kb) a b/\Sr eIs w' (.slice aL l.length cL) l/\Sr eI w' (.slice aC C.length cC) C/\Below w.heap.size w w':=kpf;have HF:=Qh (And.intro ((Kp.blk _ _).up hD hb) (And.intro (hq.up hb) (And.intro (aT.up hb) (And.intro aF (Bl.up bn hb)))));have aY:=Qh hsl;clear hb aF aW hD hq aT aX bn hA hB aR hl hsl;go_wp2_with fail
 go_loopw [4,6] (fun _ s6 wr=>∃ i:Nat,s6=.int .i64 (i:Int)/\i<=l.length/\Hid (∀ q,q<i->YT a b C l q)/\Hid (wr.heap[w.heap.size]? = some (Qmb 35 sa aa na ka sb ab nb kb)/\Qx wr (Qmf sa aa na ka sb ab nb kb) a b/\Sr eIs wr (.slice aL l.length cL) l/\Sr eI wr (.slice aC C.length cC) C/\Below w.heap.size w wr))
  (fun _ s6 _=>l.length-(intOf s6).toNat)
 case atStart=>exact⟨0,rfl,Nat.zero_le _,Qh (fun q hq=>by omega),HF⟩
 case round=>
  clear HF;obtain⟨i,rfl,hi,HA,HF⟩:=hrel;by_cases hil:i<l.length
  ·obtain⟨k,hk⟩:∃ k,k=i-1:=⟨_,rfl⟩;have aM:k<l.length:=by omega
   have j0:(0:Int)<=(i:Int):=by omega
   have j1:(i:Int)<(l.length:Int):=by omega
   have j2:(k:Int)<(l.length:Int):=by omega
   have j3:(0:Int)<=(k:Int):=by omega
   obtain⟨bL,oF,rfl,-,aK⟩:=HF.out.2.2.1.at hil;obtain⟨u1,u2,u3,u4,c1,aI⟩:=aK.is hil;obtain⟨v1,v2,v3,v4,c2,aH⟩:=aK.is aM;have aS:=aY.out _ (Qo hil (0,0,0));have a3:=(aY.out _ (Qo aM (0,0,0))).1;obtain⟨y,hy⟩:∃ y,(l.getD i (0,0,0)).1=y:=⟨_,rfl⟩;obtain⟨P,hP⟩:∃ y,(l.getD i (0,0,0)).2.1=y:=⟨_,rfl⟩;obtain⟨J,hK⟩:∃ y,(l.getD i (0,0,0)).2.2=y:=⟨_,rfl⟩;obtain⟨d,hd⟩:∃ y,(l.getD k (0,0,0)).1=y:=⟨_,rfl⟩;rw[hy,hP,hK] at aS;rw[hP,hK] at c1;rw[hy] at aI;rw[hd] at aH a3;obtain⟨P2,aU⟩:∃ y,(l.getD k (0,0,0)).2.1=y:=⟨_,rfl⟩;obtain⟨K2,aV⟩:∃ y,(l.getD k (0,0,0)).2.2=y:=⟨_,rfl⟩;rw[aU,aV] at c2;obtain⟨s1,s2,s3,s4,s5⟩:=aS;have HY:=Qh hy;have HP:=Qh hP;have HK:=Qh hK;have aZ:=Qh (show (l.getD (i-1) (0,0,0)).1=d by rw[<- hk];exact hd);have a7:=Qh hk;have HE:=Qh (And.intro aI aH);have kE:Kp fun w'=>It w' (Qme u1 u2 u3 u4) y/\It w' (Qme v1 v2 v3 v4) d:=kpf;have aE:Qmk wr w.heap.size sa aa na ka sb ab nb kb/\rc4 wr bL (oF+i*4) (.bool u1) (.slice u2 u3 u4) (.int .i64 P) (.int .i64 J)/\rc4 wr bL (oF+k*4) (.bool v1) (.slice v2 v3 v4) (.int .i64 P2) (.int .i64 K2):=⟨Qq HF.out.1,c1,c2⟩;clear aK aI aH c1 c2 hy hP hK aU aV hd hk aM;go_upto_region 5 with fail;refine Qc (by kernel_rfl) [] (S:=fun w'=>Qmk w' w.heap.size sa aa na ka sb ab nb kb/\rc4 w' bL (oF+i*4) (.bool u1) (.slice u2 u3 u4) (.int .i64 P) (.int .i64 J)/\rc4 w' bL (oF+k*4) (.bool v1) (.slice v2 v3 v4) (.int .i64 P2) (.int .i64 K2)) aE (fun aA=>?_);clear aE;replace HF:=Qh (kF.dr HF.out);replace HE:=Qh (kE.dr HE.out);generalize wr.drew=wa at *;rcases Nat.eq_zero_or_pos i with hi0|hi0
   case' inl=>
    have a0:=Qh (show 0<i->d<y from fun h=>by omega);(refine tS 0 rfl ?_;refine tS 1 rfl ?_;refine tS 2 rfl ?_)
    (refine uL 3 rfl ?_;refine uL 4 rfl ?_;refine uL 5 rfl ?_;refine uL 6 rfl ?_;refine uL 7 rfl ?_;refine uL 8 rfl ?_;refine uL 9 rfl ?_;refine uL 10 rfl ?_;refine uL 11 rfl ?_;refine uL 12 rfl ?_;refine uL 13 rfl ?_;refine uL 14 rfl ?_;refine uL 15 rfl ?_)
    (refine tS 16 rfl ?_;refine tS 17 rfl ?_)
    have a9:=Qh hi0;clear hi0;generalize wa=wz at *
   case' inr=>
    have a4:IntKind.i64.wrap ((i:Int)-1)=(k:Int):=by rw[IntKind.wrap_i64];have:=a7.out;omega
    (refine tS 0 rfl ?_;refine tS 1 rfl ?_;refine tS 2 rfl ?_;refine tS 3 rfl ?_;refine tS 4 rfl ?_;refine tS 5 rfl ?_;refine tS 6 rfl ?_;refine tS 7 rfl ?_;refine tS 8 rfl ?_;refine tS 9 rfl ?_;refine tS 10 rfl ?_;refine tS 11 rfl ?_;refine tS 12 rfl ?_;refine tS 13 rfl ?_)
    (refine oL 14 rfl fun K hK=>tL ?_;go_simp);refine mz (J3 _ _ d y wa HE.out.2 HE.out.1 (by omega) (by omega)) fun wb hb=>?_;replace HF:=hu hb HF;replace HE:=hu hb HE;have aB:=nu hb aA;clear hb;(go_wp2_with fail;clear aA;refine nxL hK aB fun aA=>tL ?_;clear hK);clear aB a4;have aG:(Qg d y>=0)=(d>=y):=by rw[eq_iff_iff];unfold Qg;split <;> (try split) <;> omega
    by_cases hge:d>=y
    case pos=>
     have aO:Qg d y>=0:=by rw[aG];exact hge
     have HB:=Qh (show ¬ YT a b C l i from fun h=>by have:=h.1 hi0;rw[HY.out,aZ.out] at this;omega);clear aG hge;obtain⟨cc,aD⟩:∃ cc,Qg d y=cc:=⟨_,rfl⟩;rw[aD] at aO |-;clear aD;(refine tS 15 rfl ?_;refine tS 16 rfl ?_;refine tS 17 rfl ?_)
     (refine uL 18 rfl ?_;refine uL 19 rfl ?_;refine uL 20 rfl ?_;refine uL 21 rfl ?_;refine uL 22 rfl ?_;refine uL 23 rfl ?_;refine uL 24 rfl ?_;refine uL 25 rfl ?_)
     (refine tS 26 rfl ?_)
     refine dT ?_;clear aA;go_wp2_with fail;go_ret
     exact⟨false,rfl,⟨fun h=>(by cases h),fun h=>absurd (h i hil) HB.out⟩,HF.out.2.2.2.2⟩
    have aO:¬ Qg d y>=0:=by rw[aG];exact hge
    have a0:=Qh (show 0<i->d<y from fun _=>by omega);clear aG hge;obtain⟨cc,aD⟩:∃ cc,Qg d y=cc:=⟨_,rfl⟩;rw[aD] at aO |-;clear aD;have bB:cc<0:=by omega
    (refine tS 15 rfl ?_;refine tS 16 rfl ?_;refine tS 17 rfl ?_)
    have a9:=Qh hi0;clear hi0;generalize wb=wz at *
   all_goals
    (refine tS 18 rfl ?_;refine tS 19 rfl ?_;refine tS 20 rfl ?_;refine tS 21 rfl ?_;refine tS 22 rfl ?_;refine tS 23 rfl ?_)
    (refine oL 24 rfl fun K hK=>tL ?_;go_simp);refine mz (Ja _ _ C y wz HF.out.2.2.2.1 HE.out.1 (fun q hq=>Qt (a5 q hq) (by decide)) (by omega) a6) fun wh hb=>?_;replace HF:=hu hb HF;replace HE:=hu hb HE;have aB:=nu hb aA;clear hb;(go_wp2_with fail;clear aA;refine nxL hK aB fun aA=>tL ?_;clear hK);clear aB;by_cases hin:y∈C
    case neg=>
     simp only[show decide (y∈C)=false from decide_eq_false hin];have HB:=Qh (show ¬ YT a b C l i from fun h=>hin (by have:=h.2.1;rwa [HY.out] at this));clear hin;(refine tS 25 rfl ?_;refine tS 26 rfl ?_)
     refine dT ?_;clear aA;go_wp2_with fail;go_ret
     exact⟨false,rfl,⟨fun h=>(by cases h),fun h=>absurd (h i hil) HB.out⟩,HF.out.2.2.2.2⟩
    simp only[show decide (y∈C)=true from decide_eq_true hin];have a1:y≠0:=(JU hC hb0 hin).1;have a8:=Qh hin;clear hin;(refine tS 25 rfl ?_;refine tS 26 rfl ?_)
    refine dT ?_;have aE:=aA;clear aA;go_upto_region 7 with fail;refine Qc (by kernel_rfl) [] (S:=fun w'=>Qmk w' w.heap.size sa aa na ka sb ab nb kb/\rc4 w' bL (oF+i*4) (.bool u1) (.slice u2 u3 u4) (.int .i64 P) (.int .i64 J)/\rc4 w' bL (oF+k*4) (.bool v1) (.slice v2 v3 v4) (.int .i64 P2) (.int .i64 K2)) aE (fun aA=>?_);clear aE;replace HF:=Qh (kF.dr HF.out);replace HE:=Qh (kE.dr HE.out);generalize wh.drew=wi at *;(refine tS 0 rfl ?_;refine tS 1 rfl ?_;refine tS 2 rfl ?_;refine tS 3 rfl ?_;refine tS 4 rfl ?_;refine tS 5 rfl ?_;refine tS 7 rfl ?_;refine tS 8 rfl ?_;refine tS 9 rfl ?_;refine tS 10 rfl ?_;refine tS 11 rfl ?_;refine tS 12 rfl ?_;refine tS 13 rfl ?_;refine tS 14 rfl ?_;refine tS 15 rfl ?_;refine tS 16 rfl ?_)
    (refine oL 6 rfl fun K hK=>tL ?_;go_simp);refine mn (JC _ _ a b y wi HF.out.2.1 HE.out.1 a1 hsb (by omega)) fun v wm hv hb=>?_;have aQ:=hv;obtain⟨e1,e2,e3,e4,e5,e6,e7,e8,e9,bE,bD,bC,rfl,-,-,-⟩:=hv;replace HF:=hu hb HF;replace HE:=hu hb HE;have aB:=nu hb aA;have HV:=Qh aQ;have a2:sz (b/y)<=1000000:=Qt (QA (Int.natAbs_ediv_le_natAbs b y)) hsb;clear hb aQ;(go_wp2_with fail;clear aA;refine nxL hK aB fun aA=>tL ?_;clear hK);clear aB;obtain⟨sR,aJ⟩:∃ q,JI y a (b/y) P J=q:=⟨_,rfl⟩;(refine oL 17 rfl fun K hK=>tL ?_;go_simp);refine mz (JW _ y a (b/y) P J wm HV.out (by omega) hsa a2 s2 s3 s4 s5) fun wn hb=>?_;rw[aJ];have aP:=Qh aJ;replace HF:=hu hb HF;replace HE:=hu hb HE;have aB:=nu hb aA;clear hb HV aJ;(go_wp2_with fail;clear aA;refine nxL hK aB fun aA=>tL ?_;clear hK);clear aB;obtain⟨rb,rc⟩:=sR;dsimp only;(refine tS 18 rfl ?_;refine tS 19 rfl ?_;refine tS 20 rfl ?_)
    (refine pL 21 rfl ?_;refine pL 22 rfl ?_)
    refine dT ?_;clear aA;by_cases hrc:rc=0
    case neg=>
     have HB:=Qh (show ¬ YT a b C l i from fun h=>by have:=h.2.2;rw[HY.out,HP.out,HK.out,aP.out] at this;injection this with h1 h2;exact hrc h2);go_wp2_with fail;go_ret
     exact⟨false,rfl,⟨fun h=>(by cases h),fun h=>absurd (h i hil) HB.out⟩,HF.out.2.2.2.2⟩
    subst hrc
    cases rb
    ·have HB:=Qh (show YT a b C l i from ⟨fun h0=>by rw[HY.out,aZ.out];exact a0.out h0,by rw[HY.out];exact a8.out,by rw[HY.out,HP.out,HK.out];exact aP.out⟩)
     have bA:=Qh (show ∀ q,q<i+1->YT a b C l q from fun q hq=>by
      by_cases e:q=i
      ·subst e;exact HB.out
      ·exact HA.out q (by omega))
     have j7:IntKind.i64.wrap ((i:Int)+1)=((i+1:Nat):Int):=by rw[IntKind.wrap_i64];omega
     go_wp2_with fail;exact⟨⟨i+1,rfl,by omega,bA,HF⟩,by simp only[intOf,Int.toNat_natCast];omega⟩
    ·have HB:=Qh (show ¬ YT a b C l i from fun h=>by have:=h.2.2;rw[HY.out,HP.out,HK.out,aP.out] at this;injection this with h2 h3;cases h2);go_wp2_with fail;go_ret
     exact⟨false,rfl,⟨fun h=>(by cases h),fun h=>absurd (h i hil) HB.out⟩,HF.out.2.2.2.2⟩
  ·obtain rfl:i=l.length:=by omega
   go_wp2_with fail;go_ret
   exact⟨true,rfl,⟨fun _=>HA.out,fun _=>rfl⟩,HF.out.2.2.2.2⟩
def ab9 (a b:Int):Nat->Int×Int
 | 0=>(a,b)
 | i+1=>(-2*(ab9 a b i).1,(ab9 a b i).1*(ab9 a b i).1-4*(ab9 a b i).2)
theorem Qdx (vd:Value) (a b:Int) (l0 l1:List (Int×Int×Int×Int)) (m0 m1:List (Int×Int×Int)) (w:World) (h:Dsc w vd a b l0 l1 m0 m1) (ha:sz a<=1000000) (hb:sz b<=1000000)
  (hl0:SzF l0) (hl1:SzF l1) (hm0:SzN m0) (hm1:SzN m1) :
  Calls Tryz.prog 43 #[vd] w fun e' w'=>∃ c,e'=.returned (.int .i64 c)/\ChkTo a b l0 l1 m0 m1 c/\Below w.heap.size w w':=by
 obtain⟨s1,a1,n1,g1,s2,a2,n2,g2,d0,o0,q0,d1,o1,q1,d2,o2,q2,d3,o3,q3,rfl,hA,hB,hl,aS,hm,aR⟩:=h;obtain⟨rfl,-⟩:=hl.len;obtain⟨rfl,-⟩:=aS.len;obtain⟨rfl,-⟩:=hm.len;obtain⟨rfl,-⟩:=aR.len;obtain⟨L,rfl,rfl⟩:∃ L:Nat->List (Int×Int×Int×Int),L 0=l0/\L 1=l1:=⟨fun k=>if k=0 then l0 else l1,rfl,rfl⟩;obtain⟨M,rfl,rfl⟩:∃ M:Nat->List (Int×Int×Int),M 0=m0/\M 1=m1:=⟨fun k=>if k=0 then m0 else m1,rfl,rfl⟩;have bn:=Qa w (.cells #[.bool s1,.slice a1 n1 g1,.bool s2,.slice a2 n2 g2,.slice d0 (L 0).length q0,.slice d1 (L 1).length q1,.slice d2 (M 0).length q2,.slice d3 (M 1).length q3] 87);have kF:Kp fun w'=>w'.heap[w.heap.size]? = some (.cells #[.bool s1,.slice a1 n1 g1,.bool s2,.slice a2 n2 g2,.slice d0 (L 0).length q0,.slice d1 (L 1).length q1,.slice d2 (M 0).length q2,.slice d3 (M 1).length q3] 87)/\It w' (Qme s1 a1 n1 g1) a/\It w' (Qme s2 a2 n2 g2) b/\Sr eFd w' (.slice d0 (L 0).length q0) (L 0)/\Sr eFd w' (.slice d1 (L 1).length q1) (L 1)/\Sr eIs w' (.slice d2 (M 0).length q2) (M 0)/\Sr eIs w' (.slice d3 (M 1).length q3) (M 1)/\Below w.heap.size w w':=kpf;have HF:=Qh (And.intro (Zk1 w (.cells #[.bool s1,.slice a1 n1 g1,.bool s2,.slice a2 n2 g2,.slice d0 (L 0).length q0,.slice d1 (L 1).length q1,.slice d2 (M 0).length q2,.slice d3 (M 1).length q3] 87)) (And.intro (hA.up bn) (And.intro (hB.up bn) (And.intro (hl.up bn) (And.intro (aS.up bn) (And.intro (hm.up bn) (And.intro (aR.up bn) bn)))))));clear hA hB hl aS hm aR bn;go_enter Tryz.func43,Tryz.ntmps43
 go_upto_region 1 with fail;generalize w.alloc (.cells #[.bool s1,.slice a1 n1 g1,.bool s2,.slice a2 n2 g2,.slice d0 (L 0).length q0,.slice d1 (L 1).length q1,.slice d2 (M 0).length q2,.slice d3 (M 1).length q3] 87)=W at *;obtain⟨p0,p1,p2,p3,p4,p5,p6,p7⟩:=QM HF.out.1;go_wp2_with fail;clear p0 p1 p2 p3 p4 p5 p6 p7;refine mz (QbX _ _ a b W HF.out.2.1 HF.out.2.2.1 ha hb) fun w1 hb1=>?_;replace HF:=hu hb1 HF;clear hb1;by_cases hz:JG a b=0
 case neg=>
  obtain⟨c,hc⟩:∃ c,JG a b=c:=⟨_,rfl⟩;have HC:=Qh hc;rw[hc] at hz |-;clear hc;go_wp2_with fail;go_ret
  exact⟨c,rfl,.inl ⟨by rw[HC.out];exact hz,HC.out.symm⟩,HF.out.2.2.2.2.2.2.2⟩
 rw[hz];obtain⟨a3,aZ,aJ,aI⟩:=Q3 hz;obtain⟨z1,z2,z3,z4⟩:=Qam hz;obtain⟨p0,p1,p2,p3,p4,p5,p6,p7⟩:=QM HF.out.1;go_upto_region 5 with fail;clear p0 p1 p2 p3 p4 p5 p6 p7;have bn:=Qa w1 (Qmb 35 s1 a1 n1 g1 s2 a2 n2 g2);have HW:=Qh bn;obtain⟨BQ,aU⟩:∃ B,w1.heap.size=B:=⟨_,rfl⟩;have hd:=Zk1 w1 (Qmb 35 s1 a1 n1 g1 s2 a2 n2 g2);rw[aU] at hd |-;have bD:=Qh aU;obtain⟨A,B,aE,aG,aO⟩:∃ A B:Nat->Int,A 0=a/\B 0=b/\∀ i,A (i+1) = -2*A i/\B (i+1)=A i*A i-4*B i:=⟨fun i=>(ab9 a b i).1,fun i=>(ab9 a b i).2,rfl,rfl,fun _=>⟨rfl,rfl⟩⟩;have aP:A 1 = -2*a:=by rw[(aO 0).1,aE]
 have aM:B 1=a*a-4*b:=by rw[(aO 0).2,aE,aG]
 have HQ:=Qh (show ∃ u1 u2 u3 u4 u5 u6 u7 u8,(w1.alloc (Qmb 35 s1 a1 n1 g1 s2 a2 n2 g2)).heap[BQ]? = some (Qmb 35 u1 u2 u3 u4 u5 u6 u7 u8)/\Qx (w1.alloc (Qmb 35 s1 a1 n1 g1 s2 a2 n2 g2)) (Qmf u1 u2 u3 u4 u5 u6 u7 u8) (A 0) (B 0) by rw[aE,aG];exact⟨_,_,_,_,_,_,_,_,hd,_,_,_,_,_,_,_,_,rfl,HF.out.2.1.up bn,HF.out.2.2.1.up bn⟩)
 have HE:=Qh (show (Qai a b (L 0) (M 0)/\Qai (-2*a) (a*a-4*b) (L 1) (M 1))↔∀ k,k<2->Qai (A k) (B k) (L k) (M k) from ⟨fun h k hk=>by
  rcases (show k=0\/k=1 by omega) with rfl|rfl
  ·rw[aE,aG];exact h.1
  ·rw[aP,aM];exact h.2,fun h=>by
  have e0:=h 0 (by decide);have e1:=h 1 (by decide);rw[aE,aG] at e0;rw[aP,aM] at e1;exact⟨e0,e1⟩⟩)
 have HK:=Qh (show ∀ k,k<2->(∃ dl ql dm qm,(∀ w':World,Below w1.heap.size w1 w'->w'.cell? ⟨w.heap.size,4+k,none⟩=some (.slice dl (L k).length ql)/\w'.cell? ⟨w.heap.size,6+k,none⟩=some (.slice dm (M k).length qm))/\Sr eFd w1 (.slice dl (L k).length ql) (L k)/\Sr eIs w1 (.slice dm (M k).length qm) (M k))/\(B k≠0/\(B k).natAbs<1099511627776/\sz (A k)<=2/\sz (B k)<=2)/\SzF (L k)/\SzN (M k) from fun k hk=>by
  have aL:∀ w':World,Below w1.heap.size w1 w'->bc8 w' w.heap.size (.bool s1) (.slice a1 n1 g1) (.bool s2) (.slice a2 n2 g2) (.slice d0 (L 0).length q0) (.slice d1 (L 1).length q1) (.slice d2 (M 0).length q2) (.slice d3 (M 1).length q3):=fun w' hb=>QM (kF.up HF.out hb).1;rcases (show k=0\/k=1 by omega) with rfl|rfl
  ·rw[aE,aG];exact⟨⟨_,_,_,_,fun w' hb=>⟨(aL w' hb).2.2.2.2.1,(aL w' hb).2.2.2.2.2.2.1⟩,HF.out.2.2.2.1,HF.out.2.2.2.2.2.1⟩,⟨a3,aJ,z1,z2⟩,hl0,hm0⟩
  ·rw[aP,aM];exact⟨⟨_,_,_,_,fun w' hb=>⟨(aL w' hb).2.2.2.2.2.1,(aL w' hb).2.2.2.2.2.2.2⟩,HF.out.2.2.2.2.1,HF.out.2.2.2.2.2.2.1⟩,⟨aZ,aI,z3,z4⟩,hl1,hm1⟩)
 have a5:=Qh aO;clear bn hd aU aO aE aG aP aM a3 aZ aJ aI z1 z2 z3 z4 hl0 hl1 hm0 hm1;generalize w1.alloc (Qmb 35 s1 a1 n1 g1 s2 a2 n2 g2)=w2 at *;go_wp2_with fail
 go_loopw [2,5] (fun _ s5 wr=>∃ i:Nat,s5=.int .i64 (i:Int)/\i<=2/\Hid (∀ k,k<i->Qai (A k) (B k) (L k) (M k))/\Hid (Below w1.heap.size w1 wr)/\Hid (∃ u1 u2 u3 u4 u5 u6 u7 u8,wr.heap[BQ]? = some (Qmb 35 u1 u2 u3 u4 u5 u6 u7 u8)/\Qx wr (Qmf u1 u2 u3 u4 u5 u6 u7 u8) (A i) (B i)))
  (fun _ s5 _=>2-(intOf s5).toNat)
 case atStart=>exact⟨0,rfl,by decide,Qh (fun k hk=>absurd hk (Nat.not_lt_zero k)),HW,HQ⟩
 case round=>
  clear HW HQ;obtain⟨i,rfl,hi,HI,HW,HQ⟩:=hrel;by_cases hlt:i<2
  ·have i0:(0:Int)<=(i:Int):=by omega
   have i1:(i:Int)<2:=by omega
   obtain⟨⟨dl,ql,dm,qm,bA,a8,a7⟩,⟨aT,aD,aC,aB⟩,zl,zm⟩:=HK.out i hlt;obtain⟨u1,u2,u3,u4,u5,u6,u7,u8,aY,aX⟩:=HQ.out;have hC:=Jz (n:=(B i).natAbs) (by omega);generalize Qfg (B i).natAbs=C at *;have HP:=Qh (And.intro aY aX);have kP:Kp fun w'=>w'.heap[BQ]? = some (Qmb 35 u1 u2 u3 u4 u5 u6 u7 u8)/\Qx w' (Qmf u1 u2 u3 u4 u5 u6 u7 u8) (A i) (B i):=kpf;have a4:Qmk wr BQ u1 u2 u3 u4 u5 u6 u7 u8/\wr.cell? ⟨w.heap.size,4+i,none⟩=some (.slice dl (L i).length ql)/\wr.cell? ⟨w.heap.size,6+i,none⟩=some (.slice dm (M i).length qm):=⟨Qq HP.out.1,bA _ HW.out⟩;clear aY aX HQ;go_upto_region 8 with fail;refine Qc (by kernel_rfl) [] (S:=fun w'=>Qmk w' BQ u1 u2 u3 u4 u5 u6 u7 u8/\w'.cell? ⟨w.heap.size,4+i,none⟩=some (.slice dl (L i).length ql)/\w'.cell? ⟨w.heap.size,6+i,none⟩=some (.slice dm (M i).length qm)) a4 (fun aA=>?_);clear a4;replace HW:=Qh (Bl.drew HW.out);replace HP:=Qh (kP.dr HP.out);generalize wr.drew=wa at *;(refine tS 0 rfl ?_;refine tS 1 rfl ?_;refine tS 2 rfl ?_;refine tS 3 rfl ?_;refine tS 4 rfl ?_)
   (refine oL 5 rfl fun K hK=>tL ?_;go_simp);refine(QaY _ _ (A i) (B i) C (L i) wa HP.out.2 (a8.up HW.out) hC aT aD (Qt aC (by decide)) (Qt aB (by decide)) zl.len zl.el).mono ?_;rintro e wb ⟨r5,rfl,aW,hb⟩;have aV:=Qh aW;clear aW;replace HW:=hu hb HW;replace HP:=hu hb HP;have aK:=nu hb aA;clear hb;(go_wp2_with fail;clear aA;refine nxL hK aK fun aA=>tL ?_;clear hK);clear aK
   cases r5
   ·(refine tS 6 rfl ?_; refine tS 7 rfl ?_)
    (refine uL 8 rfl ?_;refine uL 9 rfl ?_;refine uL 10 rfl ?_;refine uL 11 rfl ?_;refine uL 12 rfl ?_;refine uL 13 rfl ?_;refine uL 14 rfl ?_)
    (refine tS 15 rfl ?_)
    refine dT ?_;clear aA
    have HN:=Qh (show ¬ (Qai a b (L 0) (M 0)/\Qai (-2*a) (a*a-4*b) (L 1) (M 1)) from fun h=>by
     obtain⟨C2,e1,e2,e3⟩:=HE.out.1 h i hlt;rw[e1.uniq hC] at e2 e3;have:=aV.out.2 e2
     cases this)
    go_wp2_with fail;go_ret
    exact⟨311,rfl,.inr (.inr ⟨hz,HN.out,rfl⟩),Bl.up HF.out.2.2.2.2.2.2.2 HW.out⟩
   ·(refine tS 6 rfl ?_; refine tS 7 rfl ?_; refine tS 8 rfl ?_; refine tS 9 rfl ?_; refine tS 10 rfl ?_; refine tS 11 rfl ?_; refine tS 12 rfl ?_)
    (refine oL 13 rfl fun K hK=>tL ?_;go_simp);refine(JK _ _ (A i) (B i) C (M i) wb HP.out.2 (a7.up HW.out) hC aT aD (Qt aC (by decide)) (Qt aB (by decide)) zm.len zm.el).mono ?_;rintro e wc ⟨a6,rfl,aH,hb⟩;have aF:=Qh aH;clear aH;replace HW:=hu hb HW;replace HP:=hu hb HP;have aK:=nu hb aA;clear hb;(go_wp2_with fail;clear aA;refine nxL hK aK fun aA=>tL ?_;clear hK);clear aK
    cases a6
    ·(refine tS 14 rfl ?_; refine tS 15 rfl ?_)
     refine dT ?_;clear aA
     have HN:=Qh (show ¬ (Qai a b (L 0) (M 0)/\Qai (-2*a) (a*a-4*b) (L 1) (M 1)) from fun h=>by
      obtain⟨C2,e1,e2,e3⟩:=HE.out.1 h i hlt;rw[e1.uniq hC] at e2 e3;have:=aF.out.2 e3
      cases this)
     go_wp2_with fail;go_ret
     exact⟨311,rfl,.inr (.inr ⟨hz,HN.out,rfl⟩),Bl.up HF.out.2.2.2.2.2.2.2 HW.out⟩
    ·have bC:=Qh (show Qai (A i) (B i) (L i) (M i) from ⟨C,hC,aV.out.1 (by first|rfl|trivial),aF.out.1 (by first|rfl|trivial)⟩);(refine tS 14 rfl ?_;refine tS 15 rfl ?_)
     refine dT ?_;clear aA aV aF hC;obtain⟨p0,p1,p2,p3⟩:=Qq HP.out.1;go_wp2_with fail;clear p0 p1 p2 p3;refine mn (YG _ (A i) (B i) wc HP.out.2 (Qt aC (by decide)) (Qt aB (by decide))) fun v wd hv hb=>?_;rw[<- (a5.out i).1,<- (a5.out i).2] at hv;replace HW:=hu hb HW;replace HP:=hu hb HP;have HV:=Qh hv;obtain⟨v1,v2,v3,v4,v5,v6,v7,v8,rfl,-,-⟩:=hv;have aQ:=Qh HP.out.1;obtain⟨p0,p1,p2,p3⟩:=Qq aQ.out;obtain⟨f0,f1,f2,f3⟩:=JH aQ.out;have j7:IntKind.i64.wrap ((i:Int)+1)=((i+1:Nat):Int):=by rw[IntKind.wrap_i64];omega
     clear hb HP aT aD aC aB;go_wp2_with fail;have hh:=Qak aQ.out (.bool v1) (.slice v2 v3 v4) (.bool v5) (.slice v6 v7 v8);have a0:=QfG wd BQ (.bool v1) (.slice v2 v3 v4) (.bool v5) (.slice v6 v7 v8);have a9:=nw4 aQ.out;have bB:=ButS.below HW.out a0 HW.out.size (fun g e=>by have:=bD.out;omega);exact⟨⟨i+1,rfl,by omega,Qh (fun k hk=>(Nat.lt_succ_iff_lt_or_eq.1 hk).elim (HI.out k) (fun e=>by rw[e];exact bC.out)),Qh bB,Qh ⟨_,_,_,_,_,_,_,_,hh,HV.out.fr a0 a9⟩⟩,by simp only[intOf,Int.toNat_natCast];omega⟩
  ·obtain rfl:i=2:=by omega
   have bE:=Qh (Bl.up HF.out.2.2.2.2.2.2.2 HW.out);go_wp2_with fail;go_ret
   exact⟨0,rfl,.inr (.inl ⟨hz,HE.out.2 HI.out,rfl⟩),bE.out⟩
