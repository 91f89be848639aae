/-
  descent: free, Class.
-/
import Derived.Test.YteidokhjmbihlaaGreatDA
import Derived.Test.YteidokhjmbihlaaGreatFI1
import Derived.Test.YteidokhjmbihlaaGreatFZA
import Derived.Test.YteidokhjmbihlaaGreatFSC
import Derived.Test.YteidokhjmbihlaaGreatFV
set_option linter.all false
set_option maxRecDepth 100000
set_option maxHeartbeats 4000000
namespace Go.Proofs.YteidokhjmbihlaaGreat
open Go.RowKit
attribute [local go_sem ↓] Go.wp_at_zero Go.wp_at_succ
theorem Yg (n:Int) (w:World) (h1 : -9223372036854775808<=n) (h2:n<=9223372036854775807) :
  Calls Tryz.prog 104 #[.int .i64 n] w fun e w'=>∃ v,e=.returned v/\It w' v n/\Below w.heap.size w w':=by
 go_enter Tryz.func104,Tryz.ntmps104
 go_wp2_with fail;refine(QY n _ h1 h2).mono ?_;rintro e w1 ⟨v,rfl,hv,hb⟩;obtain⟨s',a',n',cap',rfl⟩:=hv.shape;have hb2:=(Qa w (.cells #[.bool false,.slice none 0 0] 33)).trans (hb.mono (by simp));have hx:=(Vx.new0 (w:=w) (T:=33) rfl).up hb;clear hb;obtain⟨s,a,k,c,c0,c1,f0,f1,-⟩:=hx.cells;go_wp2_with fail;exact Q0 (B:=w.heap.size) rfl rfl rfl (Vx.put hx.va hv) (fun v hv=>⟨_,rfl,hv,Bl.st hb2 (Nat.le_refl _)⟩)
def Qdl (l:List Int):Int:=l.foldl (· * ·) 1
theorem QcX {l:List Int} {i:Nat} (h:i<l.length):Qdl (l.take (i+1))=Qdl (l.take i)*l.getD i 0:=by
 unfold Qdl;rw[List.take_succ_eq_append_getElem h,List.foldl_append,List.getD_eq_getElem?_getD,List.getElem?_eq_getElem h];rfl
theorem Qkq {l:List Int} (h:∀ x∈l,sz x<=100000000):∀ i,i<=l.length->sz (Qdl (l.take i))<=100000000*i+1:=by
 intro i;induction i with
 | zero=>intro _;exact show sz (1:Int)<=_ by decide
 | succ i ih =>
   intro hi;rw[QcX (by omega)];have h1:=Qo (Qdl (l.take i)) (l.getD i 0)
   have h2:sz (l.getD i 0)<=100000000:=by
    rw[List.getD_eq_getElem?_getD,List.getElem?_eq_getElem (by omega)];exact h _ (List.getElem_mem _)
   have:=ih (by omega);omega
theorem QR (va:Value) (l:List Int) (w:World) (h:Sr eI w va l) (hN:l.length<=8) (hs:∀ x∈l,sz x<=100000000) :
  Calls Tryz.prog 106 #[va] w fun e w'=>∃ v,e=.returned v/\It w' v (Qdl l)/\Below w.heap.size w w':=by
 obtain⟨a,c,rfl,-⟩:=id h;go_enter Tryz.func106,Tryz.ntmps106
 go_wp2_with fail;refine(Yg 1 _ (by decide) (by decide)).mono ?_;rintro e w1 ⟨v,rfl,hv,hb⟩;obtain⟨s',a',n',cap',rfl⟩:=hv.shape;have hb1:=Bl.up (Qa w (.cells #[.bool false,.slice none 0 0] 33)) hb;have hR:=(Vx.new0 (w:=w) (T:=33) rfl).up hb;have hsz:=hb.size;rw[World.size_alloc] at hsz;clear hb;go_upto_region 2 with fail;have hO:=Vx.new (w:=w1) (T:=33) rfl hv;replace hR:=hR.alloc (.cells #[.bool s',.slice a' n' cap'] 33);replace hb1:=Bl.alloc hb1 (.cells #[.bool s',.slice a' n' cap'] 33);have hL:=h.up hb1;have HLT:=Qh h.lt;clear h hv;have hne:w.heap.size≠w1.heap.size:=by omega
 have hle:w.heap.size<=w1.heap.size:=by omega
 generalize w1.alloc (.cells #[.bool s',.slice a' n' cap'] 33)=w2 at *;generalize w1.heap.size=B at *;have HR:=Qh hR;have HO:=Qh hO;have HL:=Qh hL;have HB:=Qh hb1;have HS:=Qh hs;obtain⟨N,hNe⟩:∃ N,l.length=N:=⟨_,rfl⟩;have HNE:=Qh hNe;rw[hNe] at hN |-;clear hR hO hL hb1 hs hNe hsz;go_wp2_with fail
 go_loopw [9] (fun s9 wr=>∃ i:Nat,s9=.int .i64 (i:Int)/\i<=N/\Vx wr B (Qdl (l.take i))/\ButS (fun g=>g=B) w2 wr)
  (fun s9 _=>N-(intOf s9).toNat)
 case atStart=>exact⟨0,rfl,Nat.zero_le _,HO.out,ButS.refl _ _⟩
 case round=>
  obtain⟨i,rfl,hi,hV,hbs⟩:=hrel;have hnB:∀ g,g=B->NoW w2 g:=fun g e=>by subst e;obtain⟨_,_,_,_,_,_,h⟩:=HO.out;exact h
  have hVR:=HR.out.fr hbs hnB hne;by_cases hlt:i<N
  ·have hit:i<l.length:=by rw[HNE.out];exact hlt
   have hLr:=HL.out.fr hbs hnB (fun hl0 g hg e=>by have:=HLT.out hl0 g hg;omega);obtain⟨b,off,rfl,hbk,hla⟩:=hLr.at hit;obtain⟨s1,a1,n1,k1,y0,y1,hy⟩:=hla.int hit;obtain⟨s3,a3,n3,k3,c0,c1,-,-,hvi⟩:=hV.cells;have hps:=QcX hit;have hz1:=Qt (Qkq HS.out i (by omega)) (show 100000000*i+1<=2199023255552 by omega);have hz2:sz (l.getD i 0)<=2199023255552:=Qt (HS.out _ (by rw[List.getD_eq_getElem?_getD,List.getElem?_eq_getElem hit];exact List.getElem_mem _)) (by decide);have hbx:=Qa wr (.cells #[.bool s1,.slice a1 n1 k1] 33);have hX:=Vx.new (w:=wr) (T:=33) rfl hy;have hV2:=hV.alloc (.cells #[.bool s1,.slice a1 n1 k1] 33);have hlt2:=hV.lt;have HBS:=Qh (hbs.al (.cells #[.bool s1,.slice a1 n1 k1] 33));have HPS:=Qh hps;replace c0:=Qb hbx c0;replace c1:=Qb hbx c1;have j0:(0:Int)<=(i:Int):=by omega
   have j1:(i:Int)<(N:Int):=by omega
   obtain⟨P,hPe⟩:∃ P,Qdl (l.take i)=P:=⟨_,rfl⟩;obtain⟨Z,hZe⟩:∃ Z,l.getD i 0=Z:=⟨_,rfl⟩;rw[hPe] at hz1 hvi HPS;rw[hZe] at hz2 hX HPS;have HV2:=Qh hV2;replace hvi:=hvi.up hbx;clear hLr hla hy hps hV hbs hPe hZe hit hbx hVR hnB hV2;go_upto_region 5 with fail;generalize wr.alloc (.cells #[.bool s1,.slice a1 n1 k1] 33)=w3 at *;obtain⟨s5,a5,n5,k5,x0,x1,-,-,hxi⟩:=hX.cells;clear y0 y1 hX;go_wp2_with fail;refine(Jk _ _ P Z w3 hvi hxi hz1 hz2).mono ?_;rintro e w4 ⟨v,rfl,hv,hb4⟩;obtain⟨s6,a6,n6,k6,rfl⟩:=hv.shape;have hV4:=HV2.out.up hb4;obtain⟨s7,a7,n7,k7,z0,z1,g0,g1,-⟩:=hV4.cells;have HV4:=Qh hV4;have HV:=Qh hv;have HB4:=Qh (HBS.out.up hb4);clear hV4 hv c0 c1 x0 x1 hvi hxi HV2 HBS;go_wp2_with fail;go_roundw
   case rel=>exact⟨i+1,by go_num,by omega,by rw[HPS.out];exact Vx.put HV4.out.va HV.out,HB4.out.trans ((ButS.set w4 B 0 (.bool s6)).trans (ButS.set _ B 1 (.slice a6 n6 k6)))⟩
   case measure=>simp[intOf];omega
  ·obtain rfl:i=N:=by omega
   have hP:Qdl (l.take i)=Qdl l:=by rw[<- HNE.out,List.take_length]
   rw[hP] at hV;obtain⟨s3,a3,n3,k3,c0,c1,-,-,hvi⟩:=hV.cells;obtain⟨s4,a4,n4,k4,d0,d1,f0,f1,-⟩:=hVR.cells;have HBS:=Qh hbs;have HVR:=Qh hVR;clear hbs hVR hP hnB;go_wp2_with fail;exact Q0 (B:=w.heap.size) rfl rfl rfl (Vx.put HVR.out.va hvi) (fun v hv=>⟨_,rfl,hv,Bl.st (ButS.below HB.out HBS.out HB.out.size (fun g e=>by omega)) (Nat.le_refl _)⟩)
theorem Qch (va vb:Value) (x y:Int) (w:World) (hx:It w va x) (hy:It w vb y) (hy0:y≠0) (hsx:sz x<=1099511627776) (hsy:sz y<=1099511627776) :
  Calls Tryz.prog 126 #[va,vb] w fun e w'=>∃ v,e=.returned v/\It w' v (x/y)/\Below w.heap.size w w':=by
 obtain⟨W,s1,a1,n1,c1,s2,a2,n2,c2,rfl,rfl,hW,b,vX,vY,vR,hs,p0,p1,q0,q1,hx',hy'⟩:=JN w hx hy;clear hx hy;go_enter Tryz.func126,Tryz.ntmps126
 go_wp2_with fail;rw[<- hW];clear hW;refine(Yy _ _ x y W hx' hy' hy0 hsx hsy).mono ?_;rintro e w1 ⟨vq,vr,rfl,hq,hr,hb1⟩;obtain⟨sq,aq,nq,cq,rfl⟩:=hq.shape;obtain⟨sr,ar,nr,cr,rfl⟩:=hr.shape;replace vR:=vR.up hb1;replace b:=Bl.up b hb1;clear p0 p1 q0 q1 vX vY hx' hy';go_upto_region 2 with fail;have vQ:=(Vx.new (w:=w1) (T:=33) rfl hq).alloc (.cells #[.bool sr,.slice ar nr cr] 33);replace vR:=(vR.alloc (.cells #[.bool sq,.slice aq nq cq] 33)).alloc (.cells #[.bool sr,.slice ar nr cr] 33);replace b:=Bl.alloc (Bl.alloc b (.cells #[.bool sq,.slice aq nq cq] 33)) (.cells #[.bool sr,.slice ar nr cr] 33);clear hb1 hq hr;generalize (w1.alloc (.cells #[.bool sq,.slice aq nq cq] 33)).alloc (.cells #[.bool sr,.slice ar nr cr] 33)=W2 at *;generalize w1.heap.size=N at *;obtain⟨s3,a3,n3,k3,c0,c1',-,-,hq⟩:=vQ.cells;obtain⟨s5,a5,n5,k5,e0,e1,f0,f1,-⟩:=vR.cells;go_wp2_with fail;exact Q0 (B:=w.heap.size+1+1) (z:=x/y) rfl rfl rfl (Vx.put vR.va hq) (fun v hv=>⟨v,rfl,hv,Bl.st b (by omega)⟩)
theorem JS (va:Value) (x:Int) (w:World) (hx:It w va x) (hs:sz x<=1099511627776) :
  Calls Tryz.prog 59 #[va] w fun e w'=>e=.returned (.bool (decide (x.natAbs<1099511627776)))/\Below w.heap.size w w':=by
 obtain⟨W,s1,a1,n1,c1,rfl,hW,b,vX,-,p0,p1,hx'⟩:=Qfa w hx;clear hx;go_enter Tryz.func59,Tryz.ntmps59
 go_upto_region 1 with fail;rw[<- hW];clear hW vX;go_wp2_with fail;refine(QbK _ x W hx' (Qt hs (by decide))).mono ?_;rintro e w1 ⟨v,rfl,hv,hb1⟩;replace b:=Bl.up b hb1;clear p0 p1 hx' hb1;go_wp2_with fail;refine(QY 1099511627776 w1 (by decide) (by decide)).mono ?_;rintro e w2 ⟨u,rfl,hu,hb2⟩;replace b:=Bl.up b hb2;replace hv:=hv.up hb2;clear hb2;go_wp2_with fail;refine(YB _ _ (x.natAbs:Int) 1099511627776 w2 hv hu (by rw[QcZ];exact Qt hs (by decide)) (by decide)).mono ?_;rintro e w3 ⟨rfl,hb3⟩;replace b:=Bl.up b hb3
 have hd:decide (Qg (x.natAbs:Int) 1099511627776<0)=decide (x.natAbs<1099511627776):=by
  rw[Bool.eq_iff_iff,decide_eq_true_iff,decide_eq_true_iff];unfold Qg;split <;> (try split) <;> omega
 obtain⟨c,hc⟩:∃ c,Qg (x.natAbs:Int) 1099511627776=c:=⟨_,rfl⟩;rw[hc] at hd |-;have HD:=Qh hd;clear hd hc hv hu hb3;go_wp2_with fail;go_ret
 exact⟨by rw[HD.out];rfl,b⟩
theorem Qap (va:Value) (x:Int) (w:World) (hx:It w va x) (h0:x≠0) (hlt:x.natAbs<1099511627776) :
  Calls Tryz.prog 87 #[va] w fun e w'=>∃ v P,e=.returned v/\Sr eP w' v (zP P)/\Facs x.natAbs P/\Below w.heap.size w w':=by
 have hs:sz x<=2:=Qf (Nat.lt_of_lt_of_le hlt (by decide));obtain⟨N,hN⟩:∃ N,x.natAbs=N:=⟨_,rfl⟩;have hN1:1<=N:=by omega
 have hmd:Md N:=⟨Nat.lt_of_lt_of_le (show N<2 ^ 40 by rw[<- hN];exact hlt) (Nat.pow_le_pow_right (by decide) (by decide))⟩;rw[hN] at hlt;obtain⟨W,s1,a1,n1,c1,rfl,hW,b,vX,-,p0,p1,hx'⟩:=Qfa w hx;clear hx h0;go_enter Tryz.func87,Tryz.ntmps87
 go_upto_region 1 with fail;rw[<- hW];clear hW vX;go_wp2_with fail;refine(QbK _ x W hx' (Qt hs (by decide))).mono ?_;rintro e w1 ⟨v,rfl,hv,hb1⟩;have hss:sz (x.natAbs:Int)<=1099511627776:=by rw[QcZ];exact Qt hs (by decide)
 rw[hN] at hv hss;have HN:=Qh hN;replace b:=Bl.up b hb1;clear p0 p1 hx' hb1 hN hs;go_wp2_with fail;refine(QhN _ N 1000 w1 hv hN1 (by decide) hss).mono ?_;rintro e w2 ⟨v2,t,rfl,hF,hT,hb2⟩;obtain⟨hr,-,-⟩:=hT.right hN1 (by decide);have hmt:Md t.N:=by rw[hT.1];exact hmd
 obtain⟨y,rfl,hFy⟩:=hF.shape;have hB:=Bf.new hFy;have hb3:=Bl.alloc (Bl.up b hb2) (.cells #[.bool y.s,.slice y.a y.n y.c,.slice y.a2 y.n2 y.c2,.slice y.a3 y.n3 y.c3,.int .i64 y.b] 191);have HB:=Qh hB;have HR:=Qh hr;have HM:=Qh hmt;have HT:=Qh hT;clear hB hr hmt hT hF hFy b hb2 hv hss;go_upto_region 2 with fail;generalize w2.alloc (.cells #[.bool y.s,.slice y.a y.n y.c,.slice y.a2 y.n2 y.c2,.slice y.a3 y.n3 y.c3,.int .i64 y.b] 191)=w3 at *;generalize w2.heap.size=B at *;obtain⟨z,⟨d0,d1,d2,d3,d4⟩,hfx,-⟩:=HB.out.cells;have HFX:=Qh hfx;clear hfx;go_wp2_with fail;refine(QeV _ t 2097152 w3 HFX.out HR.out HM.out (by decide)).mono ?_;rintro e w4 ⟨v,g,rfl,hg,hS,hb4⟩;obtain⟨y,rfl,hgy⟩:=hg.shape
 have hP:Sr eP w4 (.slice y.a2 y.n2 y.c2) (zP g.P):=by
  obtain⟨s,a,n,c,vP,vR,e,-,h2,-⟩:=hgy;injection e with e;injection e with e;simp only[List.cons.injEq] at e;rw[e.2.2.1];exact h2
 have hfc:=Qjz hN1 hlt HT.out hS;have HP:=Qh hP;have HF:=Qh hfc;have HL:=Qh (Bl.up hb3 hb4);have hfld:∀ w,(Instr.field 191 (.agg #[.bool y.s,.slice y.a y.n y.c,.slice y.a2 y.n2 y.c2,.slice y.a3 y.n3 y.c3,.int .i64 y.b]) 1).run Tryz.prog w=.ok (.slice y.a2 y.n2 y.c2) w:=fun _=>by kernel_rfl
 clear hP hfc hg hgy hb4 hb3 d0 d1 d2 d3 d4 hS;go_wp2_with fail;go_ret
 exact⟨_,g.P,rfl,HP.out,by rw[HN.out];exact HF.out,HL.out⟩
def FrZ (n f:Int):Prop:=Sqc n.natAbs f.natAbs/\(0<n↔0<f)/\f≠0
theorem FrZ.uniq {n f g:Int} (h:FrZ n f) (h':FrZ n g):f=g:=by
 have h1:=h.1.uniq h'.1;have h2:=h.2;have h3:=h'.2;omega
theorem Qh0 (a b:List (Nat×Nat)):JH (a++b)=JH a*JH b:=by
 unfold JH;rw[List.map_append,List.prod_append]
theorem Qf9 {P:List (Nat×Nat)} {i:Nat} (h:i<P.length):JH (P.take (i+1))=JH (P.take i)*(if (P.getD i (0,0)).2%2=1 then (P.getD i (0,0)).1 else 1):=by
 rw[List.take_succ_eq_append_getElem h,Qhb,List.getD_eq_getElem?_getD,List.getElem?_eq_getElem h];rfl
theorem Qju {N:Nat} {P:List (Nat×Nat)} (h:Facs N P) (i:Nat):JH (P.take i)<=N/\1<=JH P/\JH P<=N:=by
 have h1:=h.cls;have h2:=Nat.le_of_dvd h1.pos h1.dvd
 have h3:JH (P.take i)∣JH P:=by
  have:JH P=JH (P.take i)*JH (P.drop i):=by rw[<- Qh0,List.take_append_drop]
  exact⟨_,this⟩
 exact⟨Qt (Nat.le_of_dvd h1.2.1 h3) h2,h1.2.1,h2⟩
theorem Qiq {P:List (Nat×Nat)} (h:∀ x∈P,2<=x.1/\1<=x.2):P.length<pk P:=by
 induction P with
 | nil=>exact Nat.zero_lt_one
 | cons x l ih =>
   have ih:=ih (fun y hy=>h y (List.mem_cons_of_mem _ hy));have hx:=h x List.mem_cons_self;rw[Yz,List.length_cons];have h1:2 ^ 1<=x.1 ^ x.2:=Qt (Nat.pow_le_pow_left hx.1 1) (Nat.pow_le_pow_right (by omega) hx.2);have h2:=Nat.mul_le_mul_right (pk l) h1;omega
theorem Facs.len {N:Nat} {P:List (Nat×Nat)} (h:Facs N P):P.length<N:=by
 rw[h.2.2];exact Qiq (fun x hx=>⟨(h.1 x hx).1.1,(h.1 x hx).2⟩)
theorem QcT (va:Value) (x:Int) (w:World) (hx:It w va x) (h0:x≠0) (hlt:x.natAbs<1099511627776) :
  Calls Tryz.prog 60 #[va] w fun e w'=>∃ v f,e=.returned v/\It w' v f/\FrZ x f/\Below w.heap.size w w':=by
 have hlt40:=hlt;obtain⟨W,s1,a1,n1,c1,rfl,hW,b,vX,hsz,p0,p1,hx'⟩:=Qfa w hx;clear hx;go_enter Tryz.func60,Tryz.ntmps60
 go_upto_region 1 with fail;rw[<- hW,show w.heap.size+1=W.heap.size from hsz.symm];clear hW vX;have vR:=Vx.new0 (w:=W) (T:=33) rfl;have bR:=Qa W (.cells #[.bool false,.slice none 0 0] 33);replace b:=Bl.up b bR;replace hx':=hx'.up bR;replace p0:=Qb bR p0;replace p1:=Qb bR p1;have hszR:(W.alloc (.cells #[.bool false,.slice none 0 0] 33)).heap.size=W.heap.size+1:=by simp
 generalize W.alloc (.cells #[.bool false,.slice none 0 0] 33)=W1 at *;generalize W.heap.size=BR at *;have hBR:w.heap.size<BR:=by omega
 have hBW:BR<W1.heap.size:=by omega
 clear bR hsz hszR;go_wp2_with fail;refine(QI _ x W1 hx').mono ?_;rintro e w1 ⟨rfl,hb1⟩;have hcr:=Yx x 0
 have hcx:Qg x 0=x.sign:=by
  unfold Qg;rcases Int.lt_trichotomy x 0 with h|h|h
  ·rw[if_pos h,Int.sign_eq_neg_one_of_neg h]
  ·exact absurd h h0
  ·rw[if_neg (by omega),if_pos h,Int.sign_eq_one_of_pos h]
 obtain⟨sg,hsg⟩:∃ c,Qg x 0=c:=⟨_,rfl⟩;rw[hsg] at hcr hcx |-;replace b:=Bl.up b hb1;replace vR:=vR.up hb1;replace hx':=hx'.up hb1;replace p0:=Qb hb1 p0;replace p1:=Qb hb1 p1;have hs1:=hb1.size;have HCX:=Qh hcx;clear hsg hb1 hcx;go_wp2_with fail;refine(Yg sg w1 (by omega) (by omega)).mono ?_;rintro e w2 ⟨v,rfl,hv,hb2⟩;obtain⟨s',a',n',cap',rfl⟩:=hv.shape;have vO:=Vx.new (w:=w2) (T:=33) rfl hv;have hTw:Two (w2.alloc (.cells #[.bool s',.slice a' n' cap'] 33)) w2.heap.size:=⟨_,_,_,_,heap_alloc_new w2 (.cells #[.bool s',.slice a' n' cap'] 33)⟩;have hb3:=Bl.up hb2 (Qa w2 (.cells #[.bool s',.slice a' n' cap'] 33));replace b:=Bl.up b hb3;replace vR:=vR.up hb3;replace hx':=hx'.up hb3;replace p0:=Qb hb3 p0;replace p1:=Qb hb3 p1;have hs2:=hb2.size;have hne:BR≠w2.heap.size:=by omega
 have hBO:w.heap.size<=w2.heap.size:=by omega
 clear hb2 hb3 hv hBW;go_upto_region 2 with fail;generalize w2.alloc (.cells #[.bool s',.slice a' n' cap'] 33)=w3 at *;generalize w2.heap.size=BO at *;have HX:=Qh hx';have VR:=Qh vR;have VO:=Qh vO;have HL:=Qh b;have HT:=Qh hTw;clear hx' vR vO b hTw;go_wp2_with fail;refine(Qap _ x w3 HX.out h0 hlt).mono ?_;rintro e w4 ⟨v,P,rfl,hP,hF,hb4⟩;obtain⟨aP,cP,rfl,-⟩:=id hP;replace VR:=Qh (VR.out.up hb4);replace VO:=Qh (VO.out.up hb4);replace HT:=Qh (HT.out.up hb4);replace HL:=Qh (Bl.up HL.out hb4);have HF:=Qh hF;have HPP:=Qh hP;clear p0 p1 HX hb4 hF hP;obtain⟨M,hM⟩:∃ M,(zP P).length=M:=⟨_,rfl⟩;rw[hM];have hMP:P.length=M:=by rw[<- hM,QO]
 have HM:=Qh hMP
 have hMl:M<=1099511627776:=by
  have:=HF.out.len;omega
 clear hM hMP;go_wp2_with fail
 go_loopw [12] (fun s12 wr=>∃ i:Nat,s12=.int .i64 (i:Int)/\i<=M/\Vx wr BO (sg*(JH (P.take i):Nat))/\ButS (fun g=>g=BO) w4 wr)
  (fun s12 _=>M-(intOf s12).toNat)
 case atStart=>exact⟨0,rfl,Nat.zero_le _,by have:=VO.out;rw[List.take_zero];rw[show ((JH []:Nat):Int)=1 from rfl,Int.mul_one];exact this,ButS.refl _ _⟩
 case round=>
  obtain⟨i,rfl,hi,hV,hbs⟩:=hrel;have hnB:∀ g,g=BO->NoW w4 g:=fun g e=>by subst e;obtain⟨_,_,_,_,_,_,h⟩:=VO.out;exact h
  have hVR:=VR.out.fr hbs hnB hne;have hol:=Qju HF.out i;by_cases hlt:i<M
  ·have hit:i<P.length:=by rw[HM.out];exact hlt
   have hiz:i<(zP P).length:=by rw[QO];exact hit
   have hLr:=HPP.out.fr hbs hnB (fun hl0=>by obtain⟨_,_,_,_,h2⟩:=HT.out;exact HPP.out.not_two h2 hl0);obtain⟨b,off,rfl,hbk,hla⟩:=hLr.at hiz;obtain⟨s1,a1,n1,k1,y0,y1,y2,hy⟩:=hla.pow hiz;rw[QbS] at y2 hy;obtain⟨s3,a3,n3,k3,c0,c1,-,-,hvi⟩:=hV.cells;have hps:=Qf9 hit;have hxm:P.getD i (0,0)∈P:=by rw[List.getD_eq_getElem?_getD,List.getElem?_eq_getElem hit];exact List.getElem_mem _
   have hxp:(P.getD i (0,0)).1<=x.natAbs:=by
    have h1:=(HF.out.prs.2 (P.getD i (0,0)).1).1 (List.mem_map.2 ⟨_,hxm,rfl⟩);exact Nat.le_of_dvd (by omega) h1.2
   obtain⟨Z,hZe⟩:∃ Z,P.getD i (0,0)=Z:=⟨_,rfl⟩;rw[hZe] at y2 hy hps hxp;obtain⟨Zp,Zk⟩:=Z;dsimp only at y2 hy hps hxp;obtain⟨Q,hQe⟩:∃ Q,JH (P.take i)=Q:=⟨_,rfl⟩;rw[hQe] at hvi hV hps hol
   have hz1:sz (sg*(Q:Int))<=2199023255552:=by
    have h1:=Qo sg (Q:Int);have h2:sz sg<=1:=Qf (by omega);have h3:sz (Q:Int)<=2:=Qf (Nat.lt_of_le_of_lt (Qt (by simpa using hol.1) (Nat.le_of_lt hlt40)) (by decide));omega
   have hz2:sz (Zp:Int)<=2199023255552:=by
    have h3:sz (Zp:Int)<=2:=Qf (Nat.lt_of_le_of_lt (Qt (by simpa using hxp) (Nat.le_of_lt hlt40)) (by decide));omega
   have hbx:=Qa wr (.cells #[.bool s1,.slice a1 n1 k1,.int .i64 (Zk:Int)] 147);have hDX:=heap_alloc_new wr (.cells #[.bool s1,.slice a1 n1 k1,.int .i64 (Zk:Int)] 147);have hV2:=hV.up hbx;have HBS:=Qh (hbs.al (.cells #[.bool s1,.slice a1 n1 k1,.int .i64 (Zk:Int)] 147));have HPS:=Qh hps;have HY:=Qh (hy.up hbx);have hlt2:=hV.lt;replace c0:=Qb hbx c0;replace c1:=Qb hbx c1;have j0:(0:Int)<=(i:Int):=by omega
   have j1:(i:Int)<(M:Int):=by omega
   have HV2:=Qh hV2;have HVI:=Qh (hvi.up hbx);clear hLr hla hy hps hV hvi hbs hZe hQe hit hiz hxm hbx hVR hnB hV2 hxp hol;go_upto_region 5 with fail;generalize wr.alloc (.cells #[.bool s1,.slice a1 n1 k1,.int .i64 (Zk:Int)] 147)=w5 at *;generalize wr.heap.size=BX at *;have x0:w5.cell? ⟨BX,0,none⟩=some (.bool s1):=by simp[World.cell?,hDX]
   have x1:w5.cell? ⟨BX,1,none⟩=some (.slice a1 n1 k1):=by simp[World.cell?,hDX]
   have x2:w5.cell? ⟨BX,2,none⟩=some (.int .i64 (Zk:Int)):=by simp[World.cell?,hDX]
   have hk2:(Zk:Int)%2=((Zk%2:Nat):Int):=rfl;have hk3:(Zk:Int).tmod 2=((Zk%2:Nat):Int):=by rw[Int.tmod_eq_emod_of_nonneg (by omega)];rfl
   clear y0 y1 y2 hDX;by_cases hodd:Zk%2=1
   ·rw[hodd] at hk2 hk3;have HOD:=Qh hodd;clear hodd;go_wp2_with fail;refine(Jk _ _ (sg*(Q:Int)) (Zp:Int) w5 HVI.out HY.out hz1 hz2).mono ?_;rintro e w6 ⟨v,rfl,hv,hb4⟩;obtain⟨s6,a6,n6,k6,rfl⟩:=hv.shape;have hV4:=HV2.out.up hb4;obtain⟨s7,a7,n7,k7,z0,z1,g0,g1,-⟩:=hV4.cells;have HV4:=Qh hV4;have HV:=Qh hv;have HB4:=Qh (HBS.out.up hb4);clear hV4 hv c0 c1 x0 x1 x2 HVI HY HV2 HBS hb4;go_wp2_with fail;go_roundw
    case rel=>exact⟨i+1,by go_num,by omega,by rw[HPS.out,if_pos HOD.out,Int.natCast_mul,<- Int.mul_assoc];exact Vx.put HV4.out.va HV.out,HB4.out.trans ((ButS.set w6 BO 0 (.bool s6)).trans (ButS.set _ BO 1 (.slice a6 n6 k6)))⟩
    case measure=>simp[intOf];omega
   ·have hz:Zk%2=0:=by omega
    rw[hz] at hk2 hk3;have HOD:=Qh hodd;clear hodd hz;go_wp2_with fail;go_roundw
    case rel=>exact⟨i+1,by go_num,by omega,by rw[HPS.out,if_neg HOD.out,Nat.mul_one];exact HV2.out,HBS.out⟩
    case measure=>simp[intOf];omega
  ·obtain rfl:i=M:=by omega
   have hP:P.take i=P:=by rw[<- HM.out,List.take_length]
   rw[hP] at hV;obtain⟨s3,a3,n3,k3,c0,c1,-,-,hvi⟩:=hV.cells;obtain⟨s4,a4,n4,k4,d0,d1,f0,f1,-⟩:=hVR.cells;have HBS:=Qh hbs;have HVR:=Qh hVR
   have HFZ:=Qh (show FrZ x (sg*(JH P:Nat)) from by
    have hc:=HF.out.cls
    have h1:(sg*((JH P:Nat):Int)).natAbs=JH P:=by
     rw[Int.natAbs_mul,HCX.out];rcases Int.lt_or_gt_of_ne h0 with h|h
     ·rw[Int.sign_eq_neg_one_of_neg h];simp
     ·rw[Int.sign_eq_one_of_pos h];simp
    have h2:1<=JH P:=hc.2.1;refine⟨by rw[h1];exact hc,?_,fun h=>by rw[h] at h1;simp at h1;omega⟩;rw[HCX.out];rcases Int.lt_or_gt_of_ne h0 with h|h
    ·rw[Int.sign_eq_neg_one_of_neg h];omega
    ·rw[Int.sign_eq_one_of_pos h];omega)
   clear hbs hVR hP hnB hol;go_wp2_with fail;exact Q0 (B:=BR) rfl rfl rfl (Vx.put HVR.out.va hvi) (fun v hv=>⟨_,_,rfl,hv,HFZ.out,Bl.st (ButS.below HL.out HBS.out HL.out.size (fun g e=>by omega)) (by omega)⟩)
def Qx (w:World) (v:Value) (n d:Int):Prop:=∃ s1 a1 n1 c1 s2 a2 n2 c2,v=.agg #[.bool s1,.slice a1 n1 c1,.bool s2,.slice a2 n2 c2]/\It w (.agg #[.bool s1,.slice a1 n1 c1]) n/\It w (.agg #[.bool s2,.slice a2 n2 c2]) d
theorem Qx.up {w w':World} {v:Value} {n d:Int} (h:Qx w v n d) (hb:Below w.heap.size w w'):Qx w' v n d:=by
 obtain⟨s1,a1,n1,c1,s2,a2,n2,c2,e,h1,h2⟩:=h;exact⟨s1,a1,n1,c1,s2,a2,n2,c2,e,h1.up hb,h2.up hb⟩
def ClsTo (x f code:Int):Prop:=(x=0/\f=0/\code=4)\/(x≠0/\1099511627776<=x.natAbs/\f=0/\code=2)\/(x≠0/\x.natAbs<1099511627776/\FrZ x f/\code=0)
theorem ClsTo.uniq {x f c g d:Int} (h:ClsTo x f c) (h':ClsTo x g d):f=g/\c=d:=by
 rcases h with ⟨h1,h2,h3⟩|⟨h1,h2,h3,h4⟩|⟨h1,h2,h3,h4⟩ <;> rcases h' with ⟨k1,k2,k3⟩|⟨k1,k2,k3,k4⟩|⟨k1,k2,k3,k4⟩ <;> first|omega|exact⟨h3.uniq k3,by omega⟩
theorem QbB (va:Value) (n d:Int) (w:World) (h:Qx w va n d) (hn:sz n<=1000000) (hd:sz d<=1000000) :
  Calls Tryz.prog 16 #[va] w fun e w'=>∃ v f code,e=.returned (.tuple #[v,.int .i64 code])/\It w' v f/\ClsTo (n*d) f code/\Below w.heap.size w w':=by
 obtain⟨s1,a1,n1,c1,s2,a2,n2,c2,rfl,h1,h2⟩:=h;have hsx:sz (n*d)<=2000000:=Qt (Qo n d) (by omega);go_enter Tryz.func16,Tryz.ntmps16
 go_upto_region 1 with fail;have b0:=Qa w (.cells #[.bool s1,.slice a1 n1 c1,.bool s2,.slice a2 n2 c2] 39);have hD:=heap_alloc_new w (.cells #[.bool s1,.slice a1 n1 c1,.bool s2,.slice a2 n2 c2] 39);have b1:=Qa (w.alloc (.cells #[.bool s1,.slice a1 n1 c1,.bool s2,.slice a2 n2 c2] 39)) (.cells #[.bool false,.slice none 0 0] 33);have vR:=Vx.new0 (w:=w.alloc (.cells #[.bool s1,.slice a1 n1 c1,.bool s2,.slice a2 n2 c2] 39)) (T:=33) rfl;replace hD:=(b1.block _ (Ql hD).1).trans hD;rw[World.size_alloc] at vR;have b:=Bl.up b0 b1;replace h1:=h1.up b;replace h2:=h2.up b;clear b0 b1;generalize (w.alloc (.cells #[.bool s1,.slice a1 n1 c1,.bool s2,.slice a2 n2 c2] 39)).alloc (.cells #[.bool false,.slice none 0 0] 33)=W at *;obtain⟨p0,p1,p2,p3⟩:=QG hD;clear hD;go_wp2_with fail;refine(Jk _ _ n d W h1 h2 (by omega) (by omega)).mono ?_;rintro e w1 ⟨v,rfl,hv,hb1⟩;obtain⟨s',a',n',cap',rfl⟩:=hv.shape;have vO:=Vx.new (w:=w1) (T:=33) rfl hv;have hb3:=Bl.up hb1 (Qa w1 (.cells #[.bool s',.slice a' n' cap'] 33));replace b:=Bl.up b hb3;replace vR:=vR.up hb3;obtain⟨X,hX⟩:∃ X,n*d=X:=⟨_,rfl⟩;rw[hX] at hsx vO;have HX:=Qh hX;clear hb1 hb3 hv hX p0 p1 p2 p3 h1 h2;go_upto_region 2 with fail;generalize w1.alloc (.cells #[.bool s',.slice a' n' cap'] 33)=w2 at *;generalize w1.heap.size=BO at *;have VR:=Qh vR;have HL:=Qh b;obtain⟨s3,a3,n3,k3,c0,c1',-,-,hvi⟩:=vO.cells;clear vR b vO;go_wp2_with fail;refine(QI _ X w2 hvi).mono ?_;rintro e w3 ⟨rfl,hb4⟩;replace VR:=Qh (VR.out.up hb4);replace HL:=Qh (Bl.up HL.out hb4);replace c0:=Qb hb4 c0;replace c1':=Qb hb4 c1';replace hvi:=hvi.up hb4;have hc0:(Qg X 0 == 0)=decide (X=0):=by rw[Bool.eq_iff_iff];simp[Qp]
 clear hb4;by_cases hX0:X=0
 ·have hc1:(Qg X 0 == 0)=true:=by rw[hc0];exact decide_eq_true hX0
  obtain⟨s4,a4,n4,k4,d0,d1,f0,f1,-⟩:=VR.out.cells;clear hc0;go_wp2_with fail;exact JG (B:=w.heap.size+1) (z:=0) rfl rfl rfl rfl (Vx.put VR.out.va (Qk _)) (fun v hv=>⟨v,0,4,rfl,hv,by rw[HX.out];exact .inl ⟨hX0,rfl,rfl⟩,Bl.st HL.out (by omega)⟩)
 ·have hc1:(Qg X 0 == 0)=false:=by rw[hc0];exact decide_eq_false hX0
  clear hc0;go_wp2_with fail;refine(JS _ X w3 hvi (by omega)).mono ?_;rintro e w4 ⟨rfl,hb4⟩;replace VR:=Qh (VR.out.up hb4);replace HL:=Qh (Bl.up HL.out hb4);replace c0:=Qb hb4 c0;replace c1':=Qb hb4 c1';replace hvi:=hvi.up hb4;clear hb4;by_cases hlt:X.natAbs<1099511627776
  ·rw[decide_eq_true hlt];have HLT:=Qh hlt;clear hlt;go_wp2_with fail;refine(QcT _ X w4 hvi hX0 HLT.out).mono ?_;rintro e w5 ⟨v,f,rfl,hv,hf,hb5⟩;obtain⟨s5,a5,n5,k5,rfl⟩:=hv.shape;replace VR:=Qh (VR.out.up hb5);replace HL:=Qh (Bl.up HL.out hb5);have HV:=Qh hv;have HF:=Qh hf;obtain⟨s4,a4,n4,k4,d0,d1,f0,f1,-⟩:=VR.out.cells;clear hv hb5 hf c0 c1' hvi;go_wp2_with fail;exact JG (B:=w.heap.size+1) (z:=f) rfl rfl rfl rfl (Vx.put VR.out.va HV.out) (fun v hv=>⟨v,f,0,rfl,hv,by rw[HX.out];exact .inr (.inr ⟨hX0,HLT.out,HF.out,rfl⟩),Bl.st HL.out (by omega)⟩)
  ·rw[decide_eq_false hlt];have HLT:=Qh hlt;obtain⟨s4,a4,n4,k4,d0,d1,f0,f1,-⟩:=VR.out.cells;clear hlt;go_wp2_with fail;exact JG (B:=w.heap.size+1) (z:=0) rfl rfl rfl rfl (Vx.put VR.out.va (Qk _)) (fun v hv=>⟨v,0,2,rfl,hv,by rw[HX.out];exact .inr (.inl ⟨hX0,by have:=HLT.out;omega,rfl,rfl⟩),Bl.st HL.out (by omega)⟩)
