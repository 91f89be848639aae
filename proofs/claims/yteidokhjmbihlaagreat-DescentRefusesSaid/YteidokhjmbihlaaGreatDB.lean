/-
  descent: free, Class.
-/
import Derived.Test.YteidokhjmbihlaaGreatDA
import Derived.Test.YteidokhjmbihlaaGreatFI1
import Derived.Test.YteidokhjmbihlaaGreatFZA
import Derived.Test.YteidokhjmbihlaaGreatFSC
import Derived.Test.YteidokhjmbihlaaGreatFV
set_option linter.all false
set_option maxRecDepth 100000
set_option maxHeartbeats 4000000
namespace Go.Proofs.YteidokhjmbihlaaGreat
open Go.RowKit
attribute [local go_sem ↓] Go.wp_at_zero Go.wp_at_succ
theorem Qbi (n:Int) (w:World) (h1 : -9223372036854775808<=n) (h2:n<=9223372036854775807) :
  Calls Tryz.prog 104 #[.int .i64 n] w fun e w'=>∃ v,e=.returned v/\It w' v n/\Below w.heap.size w w':=by
 go_enter Tryz.func104,Tryz.ntmps104
 go_wp2_with fail;refine(Qbf n _ h1 h2).mono ?_;rintro e w1 ⟨v,rfl,hv,hb⟩;obtain⟨s',a',n',aB,rfl⟩:=hv.shape;have aA:=(Qc w (Qlr 33 false none 0 0)).trans (hb.mono (by simp));have hx:=(Vx.new0 (w:=w) (T:=33) rfl).up hb;clear hb;obtain⟨s,a,k,c,c0,c1,f0,f1,-⟩:=hx.cells;go_wp2_with fail;exact Qbl (B:=w.heap.size) rfl rfl rfl (Vx.put hx.va hv) (fun v hv=>⟨_,rfl,hv,Bl.st aA (Nat.le_refl _)⟩)
def Qfl (l:List Int):Int:=l.foldl (· * ·) 1
theorem QeQ {l:List Int} {i:Nat} (h:i<l.length):Qfl (l.take (i+1))=Qfl (l.take i)*l.getD i 0:=by
 unfold Qfl;rw[List.take_succ_eq_append_getElem h,List.foldl_append,Zk3,Zk4 h];rfl
theorem Qj9 {l:List Int} (h:∀ x∈l,sz x<=100000000):∀ i,i<=l.length->sz (Qfl (l.take i))<=100000000*i+1:=by
 intro i;induction i with
 | zero=>intro _;exact show sz (1:Int)<=_ by decide
 | succ i ih =>
   intro hi;rw[QeQ (by omega)];have h1:=QM (Qfl (l.take i)) (l.getD i 0)
   have h2:sz (l.getD i 0)<=100000000:=by
    rw[Zk3,Zk4 (by omega)];exact h _ (List.getElem_mem _)
   have:=ih (by omega);omega
theorem Qbd (va:Value) (l:List Int) (w:World) (h:Sr eI w va l) (hN:l.length<=8) (hs:∀ x∈l,sz x<=100000000) :
  Calls Tryz.prog 106 #[va] w fun e w'=>∃ v,e=.returned v/\It w' v (Qfl l)/\Below w.heap.size w w':=by
 obtain⟨a,c,rfl,-⟩:=id h;go_enter Tryz.func106,Tryz.ntmps106
 go_wp2_with fail;refine(Qbi 1 _ (by decide) (by decide)).mono ?_;rintro e w1 ⟨v,rfl,hv,hb⟩;obtain⟨s',a',n',aB,rfl⟩:=hv.shape;have aE:=Bl.up (Qc w (Qlr 33 false none 0 0)) hb;have hR:=(Vx.new0 (w:=w) (T:=33) rfl).up hb;have aQ:=hb.size;rw[Zk2] at aQ;clear hb;go_upto_region 2 with fail;have hO:=Vx.new (w:=w1) (T:=33) rfl hv;replace hR:=hR.alloc (Qlr 33 s' a' n' aB);replace aE:=Bl.alloc aE (Qlr 33 s' a' n' aB);have hL:=h.up aE;have bA:=Qh h.lt;clear h hv;have a0:w.heap.size≠w1.heap.size:=by omega
 have bD:w.heap.size<=w1.heap.size:=by omega
 generalize w1.alloc (Qlr 33 s' a' n' aB)=w2 at *;generalize w1.heap.size=B at *;have HR:=Qh hR;have HO:=Qh hO;have HL:=Qh hL;have HB:=Qh aE;have HS:=Qh hs;obtain⟨N,aK⟩:∃ N,l.length=N:=⟨_,rfl⟩;have aZ:=Qh aK;rw[aK] at hN |-;clear hR hO hL aE hs aK aQ;go_wp2_with fail
 go_loopw [9] (fun s9 wr=>∃ i:Nat,s9=.int .i64 (i:Int)/\i<=N/\Vx wr B (Qfl (l.take i))/\ButS (fun g=>g=B) w2 wr)
  (fun s9 _=>N-(intOf s9).toNat)
 case atStart=>exact⟨0,rfl,Nat.zero_le _,HO.out,ButS.refl _ _⟩
 case round=>
  obtain⟨i,rfl,hi,hV,aC⟩:=hrel;have aF:∀ g,g=B->NoW w2 g:=fun g e=>by subst e;obtain⟨_,_,_,_,_,_,h⟩:=HO.out;exact h
  have aH:=HR.out.fr aC aF a0;by_cases hlt:i<N
  ·have aD:i<l.length:=by rw[aZ.out];exact hlt
   have aX:=HL.out.fr aC aF (fun hl0 g hg e=>by have:=bA.out hl0 g hg;omega);obtain⟨b,bC,rfl,bE,aS⟩:=aX.at aD;obtain⟨s1,a1,n1,k1,y0,y1,hy⟩:=aS.int aD;obtain⟨s3,a3,n3,k3,c0,c1,-,-,aA⟩:=hV.cells;have aR:=QeQ aD;have aO:=Qt (Qj9 HS.out i (by omega)) (show 100000000*i+1<=2199023255552 by omega);have aM:sz (l.getD i 0)<=2199023255552:=Qt (HS.out _ (by rw[Zk3,Zk4 aD];exact List.getElem_mem _)) (by decide);have aG:=Qc wr (Qlr 33 s1 a1 n1 k1);have hX:=Vx.new (w:=wr) (T:=33) rfl hy;have aV:=hV.alloc (Qlr 33 s1 a1 n1 k1);have a2:=hV.lt;have aI:=Qh (aC.al (Qlr 33 s1 a1 n1 k1));have aL:=Qh aR;replace c0:=QaD aG c0;replace c1:=QaD aG c1;have j0:(0:Int)<=(i:Int):=by omega
   have j1:(i:Int)<(N:Int):=by omega
   obtain⟨P,aW⟩:∃ P,Qfl (l.take i)=P:=⟨_,rfl⟩;obtain⟨Z,aU⟩:∃ Z,l.getD i 0=Z:=⟨_,rfl⟩;rw[aW] at aO aA aL;rw[aU] at aM hX aL;have aY:=Qh aV;replace aA:=aA.up aG;clear aX aS hy aR hV aC aW aU aD aG aH aF aV;go_upto_region 5 with fail;generalize wr.alloc (Qlr 33 s1 a1 n1 k1)=w3 at *;obtain⟨s5,a5,n5,k5,x0,x1,-,-,aP⟩:=hX.cells;clear y0 y1 hX;go_wp2_with fail;refine(Qbm _ _ P Z w3 aA aP aO aM).mono ?_;rintro e w4 ⟨v,rfl,hv,aT⟩;obtain⟨s6,a6,n6,k6,rfl⟩:=hv.shape;have aJ:=aY.out.up aT;obtain⟨s7,a7,n7,k7,z0,z1,g0,g1,-⟩:=aJ.cells;have a9:=Qh aJ;have HV:=Qh hv;have bB:=Qh (aI.out.up aT);clear aJ hv c0 c1 x0 x1 aA aP aY aI;go_wp2_with fail;go_roundw
   case rel=>exact⟨i+1,by go_num,by omega,by rw[aL.out];exact Vx.put a9.out.va HV.out,bB.out.trans ((ButS.set w4 B 0 (.bool s6)).trans (ButS.set _ B 1 (.slice a6 n6 k6)))⟩
   case measure=>simp[intOf];omega
  ·obtain rfl:i=N:=by omega
   have hP:Qfl (l.take i)=Qfl l:=by rw[<- aZ.out,List.take_length]
   rw[hP] at hV;obtain⟨s3,a3,n3,k3,c0,c1,-,-,aA⟩:=hV.cells;obtain⟨s4,a4,n4,k4,d0,d1,f0,f1,-⟩:=aH.cells;have aI:=Qh aC;have a8:=Qh aH;clear aC aH hP aF;go_wp2_with fail;exact Qbl (B:=w.heap.size) rfl rfl rfl (Vx.put a8.out.va aA) (fun v hv=>⟨_,rfl,hv,Bl.st (ButS.below HB.out aI.out HB.out.size (fun g e=>by omega)) (Nat.le_refl _)⟩)
theorem Qd3 (va vb:Value) (x y:Int) (w:World) (hx:It w va x) (hy:It w vb y) (hy0:y≠0) (hsx:sz x<=1099511627776) (hsy:sz y<=1099511627776) :
  Calls Tryz.prog 126 #[va,vb] w fun e w'=>∃ v,e=.returned v/\It w' v (x/y)/\Below w.heap.size w w':=by
 obtain⟨W,s1,a1,n1,c1,s2,a2,n2,c2,rfl,rfl,hW,b,vX,vY,vR,hs,p0,p1,q0,q1,aC,aB⟩:=Qch w hx hy;clear hx hy;go_enter Tryz.func126,Tryz.ntmps126
 go_wp2_with fail;rw[<- hW];clear hW;refine(Qby _ _ x y W aC aB hy0 hsx hsy).mono ?_;rintro e w1 ⟨vq,vr,rfl,hq,hr,aA⟩;obtain⟨sq,aq,nq,cq,rfl⟩:=hq.shape;obtain⟨sr,ar,nr,cr,rfl⟩:=hr.shape;replace vR:=vR.up aA;replace b:=Bl.up b aA;clear p0 p1 q0 q1 vX vY aC aB;go_upto_region 2 with fail;have vQ:=(Vx.new (w:=w1) (T:=33) rfl hq).alloc (Qlr 33 sr ar nr cr);replace vR:=(vR.alloc (Qlr 33 sq aq nq cq)).alloc (Qlr 33 sr ar nr cr);replace b:=Bl.alloc (Bl.alloc b (Qlr 33 sq aq nq cq)) (Qlr 33 sr ar nr cr);clear aA hq hr;generalize (w1.alloc (Qlr 33 sq aq nq cq)).alloc (Qlr 33 sr ar nr cr)=W2 at *;generalize w1.heap.size=N at *;obtain⟨s3,a3,n3,k3,c0,aD,-,-,hq⟩:=vQ.cells;obtain⟨s5,a5,n5,k5,e0,e1,f0,f1,-⟩:=vR.cells;go_wp2_with fail;exact Qbl (B:=w.heap.size+1+1) (z:=x/y) rfl rfl rfl (Vx.put vR.va hq) (fun v hv=>⟨v,rfl,hv,Bl.st b (by omega)⟩)
theorem Qcq (va:Value) (x:Int) (w:World) (hx:It w va x) (hs:sz x<=1099511627776) :
  Calls Tryz.prog 59 #[va] w fun e w'=>e=.returned (.bool (decide (x.natAbs<1099511627776)))/\Below w.heap.size w w':=by
 obtain⟨W,s1,a1,n1,c1,rfl,hW,b,vX,-,p0,p1,aB⟩:=Qh6 w hx;clear hx;go_enter Tryz.func59,Tryz.ntmps59
 go_upto_region 1 with fail;rw[<- hW];clear hW vX;go_wp2_with fail;refine(QdQ _ x W aB (Qt hs (by decide))).mono ?_;rintro e w1 ⟨v,rfl,hv,aD⟩;replace b:=Bl.up b aD;clear p0 p1 aB aD;go_wp2_with fail;refine(Qbf 1099511627776 w1 (by decide) (by decide)).mono ?_;rintro e w2 ⟨u,rfl,hu,aA⟩;replace b:=Bl.up b aA;replace hv:=hv.up aA;clear aA;go_wp2_with fail;refine(Qbz _ _ (x.natAbs:Int) 1099511627776 w2 hv hu (by rw[QeS];exact Qt hs (by decide)) (by decide)).mono ?_;rintro e w3 ⟨rfl,aC⟩;replace b:=Bl.up b aC
 have hd:decide (QaW (x.natAbs:Int) 1099511627776<0)=decide (x.natAbs<1099511627776):=by
  rw[Bool.eq_iff_iff,decide_eq_true_iff,decide_eq_true_iff];unfold QaW;split <;> (try split) <;> omega
 obtain⟨c,hc⟩:∃ c,QaW (x.natAbs:Int) 1099511627776=c:=⟨_,rfl⟩;rw[hc] at hd |-;have HD:=Qh hd;clear hd hc hv hu aC;go_wp2_with fail;go_ret
 exact⟨by rw[HD.out];rfl,b⟩
theorem QcL (va:Value) (x:Int) (w:World) (hx:It w va x) (h0:x≠0) (hlt:x.natAbs<1099511627776) :
  Calls Tryz.prog 87 #[va] w fun e w'=>∃ v P,e=.returned v/\Sr eP w' v (zP P)/\Facs x.natAbs P/\Below w.heap.size w w':=by
 have hs:sz x<=2:=Qf (Nat.lt_of_lt_of_le hlt (by decide));obtain⟨N,hN⟩:∃ N,x.natAbs=N:=⟨_,rfl⟩;have aB:1<=N:=by omega
 have aM:Md N:=⟨Nat.lt_of_lt_of_le (show N<2 ^ 40 by rw[<- hN];exact hlt) (Nat.pow_le_pow_right (by decide) (by decide))⟩;rw[hN] at hlt;obtain⟨W,s1,a1,n1,c1,rfl,hW,b,vX,-,p0,p1,aC⟩:=Qh6 w hx;clear hx h0;go_enter Tryz.func87,Tryz.ntmps87
 go_upto_region 1 with fail;rw[<- hW];clear hW vX;go_wp2_with fail;refine(QdQ _ x W aC (Qt hs (by decide))).mono ?_;rintro e w1 ⟨v,rfl,hv,aK⟩;have aA:sz (x.natAbs:Int)<=1099511627776:=by rw[QeS];exact Qt hs (by decide)
 rw[hN] at hv aA;have HN:=Qh hN;replace b:=Bl.up b aK;clear p0 p1 aC aK hN hs;go_wp2_with fail;refine(Qh8 _ N 1000 w1 hv aB (by decide) aA).mono ?_;rintro e w2 ⟨v2,t,rfl,hF,hT,aJ⟩;obtain⟨hr,-,-⟩:=hT.right aB (by decide);have aD:Md t.N:=by rw[hT.1];exact aM
 obtain⟨y,rfl,aL⟩:=hF.shape;have hB:=Bf.new aL;have aI:=Bl.alloc (Bl.up b aJ) (.cells #[.bool y.s,.slice y.a y.n y.c,.slice y.a2 y.n2 y.c2,.slice y.a3 y.n3 y.c3,.int .i64 y.b] 191);have HB:=Qh hB;have HR:=Qh hr;have HM:=Qh aD;have HT:=Qh hT;clear hB hr aD hT hF aL b aJ hv aA;go_upto_region 2 with fail;generalize w2.alloc (.cells #[.bool y.s,.slice y.a y.n y.c,.slice y.a2 y.n2 y.c2,.slice y.a3 y.n3 y.c3,.int .i64 y.b] 191)=w3 at *;generalize w2.heap.size=B at *;obtain⟨z,⟨d0,d1,d2,d3,d4⟩,aF,-⟩:=HB.out.cells;have aP:=Qh aF;clear aF;go_wp2_with fail;refine(Qgl _ t 2097152 w3 aP.out HR.out HM.out (by decide)).mono ?_;rintro e w4 ⟨v,g,rfl,hg,hS,aH⟩;obtain⟨y,rfl,aE⟩:=hg.shape
 have hP:Sr eP w4 (.slice y.a2 y.n2 y.c2) (zP g.P):=by
  obtain⟨s,a,n,c,vP,vR,e,-,h2,-⟩:=aE;injection e with e;injection e with e;simp only[List.cons.injEq] at e;rw[e.2.2.1];exact h2
 have aG:=Qj2 aB hlt HT.out hS;have HP:=Qh hP;have HF:=Qh aG;have HL:=Qh (Bl.up aI aH);have aO:∀ w,(Instr.field 191 (.agg #[.bool y.s,.slice y.a y.n y.c,.slice y.a2 y.n2 y.c2,.slice y.a3 y.n3 y.c3,.int .i64 y.b]) 1).run Tryz.prog w=.ok (.slice y.a2 y.n2 y.c2) w:=fun _=>by kernel_rfl
 clear hP aG hg aE aH aI d0 d1 d2 d3 d4 hS;go_wp2_with fail;go_ret
 exact⟨_,g.P,rfl,HP.out,by rw[HN.out];exact HF.out,HL.out⟩
def FrZ (n f:Int):Prop:=Sqc n.natAbs f.natAbs/\(0<n↔0<f)/\f≠0
theorem FrZ.uniq {n f g:Int} (h:FrZ n f) (h':FrZ n g):f=g:=by
 have h1:=h.1.uniq h'.1;have h2:=h.2;have h3:=h'.2;omega
theorem Qi9 (a b:List (Nat×Nat)):J5 (a++b)=J5 a*J5 b:=by
 unfold J5;rw[List.map_append,List.prod_append]
theorem QgM {P:List (Nat×Nat)} {i:Nat} (h:i<P.length):J5 (P.take (i+1))=J5 (P.take i)*(if (P.getD i (0,0)).2%2=1 then (P.getD i (0,0)).1 else 1):=by
 rw[List.take_succ_eq_append_getElem h,QhH,Zk3,Zk4 h];rfl
theorem QjQ {N:Nat} {P:List (Nat×Nat)} (h:Facs N P) (i:Nat):J5 (P.take i)<=N/\1<=J5 P/\J5 P<=N:=by
 have h1:=h.cls;have h2:=Nat.le_of_dvd h1.pos h1.dvd
 have h3:J5 (P.take i)∣J5 P:=by
  have:J5 P=J5 (P.take i)*J5 (P.drop i):=by rw[<- Qi9,List.take_append_drop]
  exact⟨_,this⟩
 exact⟨Qt (Nat.le_of_dvd h1.2.1 h3) h2,h1.2.1,h2⟩
theorem Jo {P:List (Nat×Nat)} (h:∀ x∈P,2<=x.1/\1<=x.2):P.length<pk P:=by
 induction P with
 | nil=>exact Nat.zero_lt_one
 | cons x l ih =>
   have ih:=ih (fun y hy=>h y (List.mem_cons_of_mem _ hy));have hx:=h x List.mem_cons_self;rw[Qo,List.length_cons];have h1:2 ^ 1<=x.1 ^ x.2:=Qt (Nat.pow_le_pow_left hx.1 1) (Nat.pow_le_pow_right (by omega) hx.2);have h2:=Nat.mul_le_mul_right (pk l) h1;omega
theorem Facs.len {N:Nat} {P:List (Nat×Nat)} (h:Facs N P):P.length<N:=by
 rw[h.2.2];exact Jo (fun x hx=>⟨(h.1 x hx).1.1,(h.1 x hx).2⟩)
theorem Qei (va:Value) (x:Int) (w:World) (hx:It w va x) (h0:x≠0) (hlt:x.natAbs<1099511627776) :
  Calls Tryz.prog 60 #[va] w fun e w'=>∃ v f,e=.returned v/\It w' v f/\FrZ x f/\Below w.heap.size w w':=by
 have aD:=hlt;obtain⟨W,s1,a1,n1,c1,rfl,hW,b,vX,a2,p0,p1,aA⟩:=Qh6 w hx;clear hx;go_enter Tryz.func60,Tryz.ntmps60
 go_upto_region 1 with fail;rw[<- hW,show w.heap.size+1=W.heap.size from a2.symm];clear hW vX;have vR:=Vx.new0 (w:=W) (T:=33) rfl;have bR:=Qc W (Qlr 33 false none 0 0);replace b:=Bl.up b bR;replace aA:=aA.up bR;replace p0:=QaD bR p0;replace p1:=QaD bR p1;have aT:(W.alloc (Qlr 33 false none 0 0)).heap.size=W.heap.size+1:=by simp
 generalize W.alloc (Qlr 33 false none 0 0)=W1 at *;generalize W.heap.size=BR at *;have b1:w.heap.size<BR:=by omega
 have bQ:BR<W1.heap.size:=by omega
 clear bR a2 aT;go_wp2_with fail;refine(Qa9 _ x W1 aA).mono ?_;rintro e w1 ⟨rfl,aE⟩;have bP:=QbU x 0
 have aV:QaW x 0=x.sign:=by
  unfold QaW;rcases Int.lt_trichotomy x 0 with h|h|h
  ·rw[if_pos h,Int.sign_eq_neg_one_of_neg h]
  ·exact absurd h h0
  ·rw[if_neg (by omega),if_pos h,Int.sign_eq_one_of_pos h]
 obtain⟨sg,a5⟩:∃ c,QaW x 0=c:=⟨_,rfl⟩;rw[a5] at bP aV |-;replace b:=Bl.up b aE;replace vR:=vR.up aE;replace aA:=aA.up aE;replace p0:=QaD aE p0;replace p1:=QaD aE p1;have bY:=aE.size;have bK:=Qh aV;clear a5 aE aV;go_wp2_with fail;refine(Qbi sg w1 (by omega) (by omega)).mono ?_;rintro e w2 ⟨v,rfl,hv,aW⟩;obtain⟨s',a',n',aC,rfl⟩:=hv.shape;have vO:=Vx.new (w:=w2) (T:=33) rfl hv;have bD:Two (w2.alloc (Qlr 33 s' a' n' aC)) w2.heap.size:=⟨_,_,_,_,Zk1 w2 (Qlr 33 s' a' n' aC)⟩;have aH:=Bl.up aW (Qc w2 (Qlr 33 s' a' n' aC));replace b:=Bl.up b aH;replace vR:=vR.up aH;replace aA:=aA.up aH;replace p0:=QaD aH p0;replace p1:=QaD aH p1;have bX:=aW.size;have bN:BR≠w2.heap.size:=by omega
 have b2:w.heap.size<=w2.heap.size:=by omega
 clear aW aH hv bQ;go_upto_region 2 with fail;generalize w2.alloc (Qlr 33 s' a' n' aC)=w3 at *;generalize w2.heap.size=BO at *;have HX:=Qh aA;have VR:=Qh vR;have VO:=Qh vO;have HL:=Qh b;have HT:=Qh bD;clear aA vR vO b bD;go_wp2_with fail;refine(QcL _ x w3 HX.out h0 hlt).mono ?_;rintro e w4 ⟨v,P,rfl,hP,hF,aB⟩;obtain⟨aP,cP,rfl,-⟩:=id hP;replace VR:=Qh (VR.out.up aB);replace VO:=Qh (VO.out.up aB);replace HT:=Qh (HT.out.up aB);replace HL:=Qh (Bl.up HL.out aB);have HF:=Qh hF;have bJ:=Qh hP;clear p0 p1 HX aB hF hP;obtain⟨M,hM⟩:∃ M,(zP P).length=M:=⟨_,rfl⟩;rw[hM];have bF:P.length=M:=by rw[<- hM,Qbe]
 have HM:=Qh bF
 have b0:M<=1099511627776:=by
  have:=HF.out.len;omega
 clear hM bF;go_wp2_with fail
 go_loopw [12] (fun s12 wr=>∃ i:Nat,s12=.int .i64 (i:Int)/\i<=M/\Vx wr BO (sg*(J5 (P.take i):Nat))/\ButS (fun g=>g=BO) w4 wr)
  (fun s12 _=>M-(intOf s12).toNat)
 case atStart=>exact⟨0,rfl,Nat.zero_le _,by have:=VO.out;rw[List.take_zero];rw[show ((J5 []:Nat):Int)=1 from rfl,Int.mul_one];exact this,ButS.refl _ _⟩
 case round=>
  obtain⟨i,rfl,hi,hV,aG⟩:=hrel;have aO:∀ g,g=BO->NoW w4 g:=fun g e=>by subst e;obtain⟨_,_,_,_,_,_,h⟩:=VO.out;exact h
  have aR:=VR.out.fr aG aO bN;have aM:=QjQ HF.out i;by_cases hlt:i<M
  ·have aQ:i<P.length:=by rw[HM.out];exact hlt
   have aU:i<(zP P).length:=by rw[Qbe];exact aQ
   have bG:=bJ.out.fr aG aO (fun hl0=>by obtain⟨_,_,_,_,h2⟩:=HT.out;exact bJ.out.not_two h2 hl0);obtain⟨b,bW,rfl,bZ,a8⟩:=bG.at aU;obtain⟨s1,a1,n1,k1,y0,y1,y2,hy⟩:=a8.pow aU;rw[Qd7] at y2 hy;obtain⟨s3,a3,n3,k3,c0,c1,-,-,aI⟩:=hV.cells;have aJ:=QgM aQ;have a0:P.getD i (0,0)∈P:=by rw[Zk3,Zk4 aQ];exact List.getElem_mem _
   have aL:(P.getD i (0,0)).1<=x.natAbs:=by
    have h1:=(HF.out.prs.2 (P.getD i (0,0)).1).1 (List.mem_map.2 ⟨_,a0,rfl⟩);exact Nat.le_of_dvd (by omega) h1.2
   obtain⟨Z,bB⟩:∃ Z,P.getD i (0,0)=Z:=⟨_,rfl⟩;rw[bB] at y2 hy aJ aL;obtain⟨Zp,Zk⟩:=Z;dsimp only at y2 hy aJ aL;obtain⟨Q,bE⟩:∃ Q,J5 (P.take i)=Q:=⟨_,rfl⟩;rw[bE] at aI hV aJ aM
   have bM:sz (sg*(Q:Int))<=2199023255552:=by
    have h1:=QM sg (Q:Int);have h2:sz sg<=1:=Qf (by omega);have h3:sz (Q:Int)<=2:=Qf (Nat.lt_of_le_of_lt (Qt (by simpa using aM.1) (Nat.le_of_lt aD)) (by decide));omega
   have bL:sz (Zp:Int)<=2199023255552:=by
    have h3:sz (Zp:Int)<=2:=Qf (Nat.lt_of_le_of_lt (Qt (by simpa using aL) (Nat.le_of_lt aD)) (by decide));omega
   have aF:=Qc wr (.cells #[.bool s1,.slice a1 n1 k1,.int .i64 (Zk:Int)] 147);have aS:=Zk1 wr (.cells #[.bool s1,.slice a1 n1 k1,.int .i64 (Zk:Int)] 147);have bC:=hV.up aF;have aK:=Qh (aG.al (.cells #[.bool s1,.slice a1 n1 k1,.int .i64 (Zk:Int)] 147));have bI:=Qh aJ;have HY:=Qh (hy.up aF);have bO:=hV.lt;replace c0:=QaD aF c0;replace c1:=QaD aF c1;have j0:(0:Int)<=(i:Int):=by omega
   have j1:(i:Int)<(M:Int):=by omega
   have aY:=Qh bC;have bH:=Qh (aI.up aF);clear bG a8 hy aJ hV aI aG bB bE aQ aU a0 aF aR aO bC aL aM;go_upto_region 5 with fail;generalize wr.alloc (.cells #[.bool s1,.slice a1 n1 k1,.int .i64 (Zk:Int)] 147)=w5 at *;generalize wr.heap.size=BX at *;have x0:w5.cell? ⟨BX,0,none⟩=some (.bool s1):=by simp[World.cell?,aS]
   have x1:w5.cell? ⟨BX,1,none⟩=some (.slice a1 n1 k1):=by simp[World.cell?,aS]
   have x2:w5.cell? ⟨BX,2,none⟩=some (.int .i64 (Zk:Int)):=by simp[World.cell?,aS]
   have bA:(Zk:Int)%2=((Zk%2:Nat):Int):=rfl;have a9:(Zk:Int).tmod 2=((Zk%2:Nat):Int):=by rw[Int.tmod_eq_emod_of_nonneg (by omega)];rfl
   clear y0 y1 y2 aS;by_cases hodd:Zk%2=1
   ·rw[hodd] at bA a9;have aZ:=Qh hodd;clear hodd;go_wp2_with fail;refine(Qbm _ _ (sg*(Q:Int)) (Zp:Int) w5 bH.out HY.out bM bL).mono ?_;rintro e w6 ⟨v,rfl,hv,aB⟩;obtain⟨s6,a6,n6,k6,rfl⟩:=hv.shape;have aX:=aY.out.up aB;obtain⟨s7,a7,n7,k7,z0,z1,g0,g1,-⟩:=aX.cells;have bT:=Qh aX;have HV:=Qh hv;have bV:=Qh (aK.out.up aB);clear aX hv c0 c1 x0 x1 x2 bH HY aY aK aB;go_wp2_with fail;go_roundw
    case rel=>exact⟨i+1,by go_num,by omega,by rw[bI.out,if_pos aZ.out,Int.natCast_mul,<- Int.mul_assoc];exact Vx.put bT.out.va HV.out,bV.out.trans ((ButS.set w6 BO 0 (.bool s6)).trans (ButS.set _ BO 1 (.slice a6 n6 k6)))⟩
    case measure=>simp[intOf];omega
   ·have hz:Zk%2=0:=by omega
    rw[hz] at bA a9;have aZ:=Qh hodd;clear hodd hz;go_wp2_with fail;go_roundw
    case rel=>exact⟨i+1,by go_num,by omega,by rw[bI.out,if_neg aZ.out,Nat.mul_one];exact aY.out,aK.out⟩
    case measure=>simp[intOf];omega
  ·obtain rfl:i=M:=by omega
   have hP:P.take i=P:=by rw[<- HM.out,List.take_length]
   rw[hP] at hV;obtain⟨s3,a3,n3,k3,c0,c1,-,-,aI⟩:=hV.cells;obtain⟨s4,a4,n4,k4,d0,d1,f0,f1,-⟩:=aR.cells;have aK:=Qh aG;have bS:=Qh aR
   have bU:=Qh (show FrZ x (sg*(J5 P:Nat)) from by
    have hc:=HF.out.cls
    have h1:(sg*((J5 P:Nat):Int)).natAbs=J5 P:=by
     rw[Int.natAbs_mul,bK.out];rcases Int.lt_or_gt_of_ne h0 with h|h
     ·rw[Int.sign_eq_neg_one_of_neg h];simp
     ·rw[Int.sign_eq_one_of_pos h];simp
    have h2:1<=J5 P:=hc.2.1;refine⟨by rw[h1];exact hc,?_,fun h=>by rw[h] at h1;simp at h1;omega⟩;rw[bK.out];rcases Int.lt_or_gt_of_ne h0 with h|h
    ·rw[Int.sign_eq_neg_one_of_neg h];omega
    ·rw[Int.sign_eq_one_of_pos h];omega)
   clear aG aR hP aO aM;go_wp2_with fail;exact Qbl (B:=BR) rfl rfl rfl (Vx.put bS.out.va aI) (fun v hv=>⟨_,_,rfl,hv,bU.out,Bl.st (ButS.below HL.out aK.out HL.out.size (fun g e=>by omega)) (by omega)⟩)
def Qx (w:World) (v:Value) (n d:Int):Prop:=∃ s1 a1 n1 c1 s2 a2 n2 c2,v=.agg #[.bool s1,.slice a1 n1 c1,.bool s2,.slice a2 n2 c2]/\It w (Qlv s1 a1 n1 c1) n/\It w (Qlv s2 a2 n2 c2) d
theorem Qx.up {w w':World} {v:Value} {n d:Int} (h:Qx w v n d) (hb:Below w.heap.size w w'):Qx w' v n d:=by
 obtain⟨s1,a1,n1,c1,s2,a2,n2,c2,e,h1,h2⟩:=h;exact⟨s1,a1,n1,c1,s2,a2,n2,c2,e,h1.up hb,h2.up hb⟩
def ClsTo (x f code:Int):Prop:=(x=0/\f=0/\code=4)\/(x≠0/\1099511627776<=x.natAbs/\f=0/\code=2)\/(x≠0/\x.natAbs<1099511627776/\FrZ x f/\code=0)
theorem ClsTo.uniq {x f c g d:Int} (h:ClsTo x f c) (h':ClsTo x g d):f=g/\c=d:=by
 rcases h with ⟨h1,h2,h3⟩|⟨h1,h2,h3,h4⟩|⟨h1,h2,h3,h4⟩ <;> rcases h' with ⟨k1,k2,k3⟩|⟨k1,k2,k3,k4⟩|⟨k1,k2,k3,k4⟩ <;> first|omega|exact⟨h3.uniq k3,by omega⟩
theorem Qga (va:Value) (n d:Int) (w:World) (h:Qx w va n d) (hn:sz n<=1000000) (hd:sz d<=1000000) :
  Calls Tryz.prog 16 #[va] w fun e w'=>∃ v f code,e=.returned (.tuple #[v,.int .i64 code])/\It w' v f/\ClsTo (n*d) f code/\Below w.heap.size w w':=by
 obtain⟨s1,a1,n1,c1,s2,a2,n2,c2,rfl,h1,h2⟩:=h;have aJ:sz (n*d)<=2000000:=Qt (QM n d) (by omega);go_enter Tryz.func16,Tryz.ntmps16
 go_upto_region 1 with fail;have b0:=Qc w (Qls 39 s1 a1 n1 c1 s2 a2 n2 c2);have hD:=Zk1 w (Qls 39 s1 a1 n1 c1 s2 a2 n2 c2);have b1:=Qc (w.alloc (Qls 39 s1 a1 n1 c1 s2 a2 n2 c2)) (Qlr 33 false none 0 0);have vR:=Vx.new0 (w:=w.alloc (Qls 39 s1 a1 n1 c1 s2 a2 n2 c2)) (T:=33) rfl;replace hD:=(b1.block _ (Ql hD).1).trans hD;rw[Zk2] at vR;have b:=Bl.up b0 b1;replace h1:=h1.up b;replace h2:=h2.up b;clear b0 b1;generalize (w.alloc (Qls 39 s1 a1 n1 c1 s2 a2 n2 c2)).alloc (Qlr 33 false none 0 0)=W at *;obtain⟨p0,p1,p2,p3⟩:=Qa3 hD;clear hD;go_wp2_with fail;refine(Qbm _ _ n d W h1 h2 (by omega) (by omega)).mono ?_;rintro e w1 ⟨v,rfl,hv,aI⟩;obtain⟨s',a',n',aC,rfl⟩:=hv.shape;have vO:=Vx.new (w:=w1) (T:=33) rfl hv;have aH:=Bl.up aI (Qc w1 (Qlr 33 s' a' n' aC));replace b:=Bl.up b aH;replace vR:=vR.up aH;obtain⟨X,hX⟩:∃ X,n*d=X:=⟨_,rfl⟩;rw[hX] at aJ vO;have HX:=Qh hX;clear aI aH hv hX p0 p1 p2 p3 h1 h2;go_upto_region 2 with fail;generalize w1.alloc (Qlr 33 s' a' n' aC)=w2 at *;generalize w1.heap.size=BO at *;have VR:=Qh vR;have HL:=Qh b;obtain⟨s3,a3,n3,k3,c0,aD,-,-,aB⟩:=vO.cells;clear vR b vO;go_wp2_with fail;refine(Qa9 _ X w2 aB).mono ?_;rintro e w3 ⟨rfl,aA⟩;replace VR:=Qh (VR.out.up aA);replace HL:=Qh (Bl.up HL.out aA);replace c0:=QaD aA c0;replace aD:=QaD aA aD;replace aB:=aB.up aA;have aE:(QaW X 0 == 0)=decide (X=0):=by rw[Bool.eq_iff_iff];simp[Qa4]
 clear aA;by_cases hX0:X=0
 ·have aK:(QaW X 0 == 0)=true:=by rw[aE];exact decide_eq_true hX0
  obtain⟨s4,a4,n4,k4,d0,d1,f0,f1,-⟩:=VR.out.cells;clear aE;go_wp2_with fail;exact Qck (B:=w.heap.size+1) (z:=0) rfl rfl rfl rfl (Vx.put VR.out.va (QaY _)) (fun v hv=>⟨v,0,4,rfl,hv,by rw[HX.out];exact .inl ⟨hX0,rfl,rfl⟩,Bl.st HL.out (by omega)⟩)
 ·have aK:(QaW X 0 == 0)=false:=by rw[aE];exact decide_eq_false hX0
  clear aE;go_wp2_with fail;refine(Qcq _ X w3 aB (by omega)).mono ?_;rintro e w4 ⟨rfl,aA⟩;replace VR:=Qh (VR.out.up aA);replace HL:=Qh (Bl.up HL.out aA);replace c0:=QaD aA c0;replace aD:=QaD aA aD;replace aB:=aB.up aA;clear aA;by_cases hlt:X.natAbs<1099511627776
  ·rw[decide_eq_true hlt];have aF:=Qh hlt;clear hlt;go_wp2_with fail;refine(Qei _ X w4 aB hX0 aF.out).mono ?_;rintro e w5 ⟨v,f,rfl,hv,hf,aG⟩;obtain⟨s5,a5,n5,k5,rfl⟩:=hv.shape;replace VR:=Qh (VR.out.up aG);replace HL:=Qh (Bl.up HL.out aG);have HV:=Qh hv;have HF:=Qh hf;obtain⟨s4,a4,n4,k4,d0,d1,f0,f1,-⟩:=VR.out.cells;clear hv aG hf c0 aD aB;go_wp2_with fail;exact Qck (B:=w.heap.size+1) (z:=f) rfl rfl rfl rfl (Vx.put VR.out.va HV.out) (fun v hv=>⟨v,f,0,rfl,hv,by rw[HX.out];exact .inr (.inr ⟨hX0,aF.out,HF.out,rfl⟩),Bl.st HL.out (by omega)⟩)
  ·rw[decide_eq_false hlt];have aF:=Qh hlt;obtain⟨s4,a4,n4,k4,d0,d1,f0,f1,-⟩:=VR.out.cells;clear hlt;go_wp2_with fail;exact Qck (B:=w.heap.size+1) (z:=0) rfl rfl rfl rfl (Vx.put VR.out.va (QaY _)) (fun v hv=>⟨v,0,2,rfl,hv,by rw[HX.out];exact .inr (.inl ⟨hX0,by have:=aF.out;omega,rfl,rfl⟩),Bl.st HL.out (by omega)⟩)
