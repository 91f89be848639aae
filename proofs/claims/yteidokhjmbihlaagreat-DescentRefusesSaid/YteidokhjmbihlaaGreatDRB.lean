/-
  law29.DescentRefuses: the walk.
-/
import Derived.Test.YteidokhjmbihlaaGreatDC
import Derived.Test.YteidokhjmbihlaaGreatDL
import Derived.Test.YteidokhjmbihlaaGreatDRA
import Derived.Test.YteidokhjmbihlaaGreatDZB
import Derived.Test.YteidokhjmbihlaaGreatDP
import Derived.Test.YteidokhjmbihlaaGreatDM
import Derived.Test.YteidokhjmbihlaaGreatDR
import Derived.Test.YteidokhjmbihlaaGreatDS
import Derived.Test.YteidokhjmbihlaaGreatFZO
set_option linter.all false
set_option maxRecDepth 100000
set_option maxHeartbeats 8000000
namespace Go.Proofs.YteidokhjmbihlaaGreat
open Go.RowKit
structure FlX (Y:Nat->Value->World->Prop) (X:Value->World->Prop) (cd:Value) (O:Obj) (q:Nat) (W0:World) (b:Nat->Bool) (x:Nat->Value) (W:World):Prop where
 bl:Below W0.heap.size W0 W
 pre:∀ i,i<q->b i=true->Y i (x i) W
 tq:∀ i,i=q\/i=q+1->b i=true->∃ u,x i=.tuple #[u,cd]/\X u W
 e0:b (q+2)=true->X (x (q+2)) W
 e1:b (q+3)=true->x (q+3)=cd
 vr:b (q+4)=true->∃ B,x (q+4)=.pointer (some ⟨B,0,none⟩)/\W0.heap.size<=B/\B<W.heap.size/\NoW W B/\(b (q+5)=false->W.heap[B]? = some O)
 so:b (q+5)=true->b (q+4)=true
section
variable {Y:Nat->Value->World->Prop} {X:Value->World->Prop} {cd:Value} {O:Obj} {q:Nat} {W0 W W':World} {b:Nat->Bool} {x:Nat->Value}
theorem FlX.start (Y:Nat->Value->World->Prop) (X:Value->World->Prop) (cd:Value) (O:Obj) (q:Nat) (W0:World) (x:Nat->Value):FlX Y X cd O q W0 (fun _=>false) x W0:=
 ⟨Below.refl _ _,(fun _ _ h=>nomatch h),(fun _ _ h=>nomatch h),(fun h=>nomatch h),(fun h=>nomatch h),(fun h=>nomatch h),fun h=>nomatch h⟩
theorem FlX.put (h:FlX Y X cd O q W0 b x W) (hY:∀ i v,Kp (Y i v)) (hX:∀ v,Kp (X v)) {i:Nat} (hi:i<q+4) {v:Value} (hb:Below W.heap.size W W') (h0:i<q->Y i v W') (h1:i=q\/i=q+1->∃ u,v=.tuple #[u,cd]/\X u W') (h2:i=q+2->X v W') (h3:i=q+3->v=cd) :
  FlX Y X cd O q W0 (Qn b i true) (Qn x i v) W':=by
 refine⟨h.bl.trans (hb.mono h.bl.size),fun k hk hbk=>?_,fun k hk hbk=>?_,fun hbk=>?_,fun hbk=>?_,fun hbk=>?_,fun hbk=>?_⟩
 ·by_cases e:k=i
  ·subst e;rw[Qb];exact h0 hk
  ·rw[Qa _ _ e] at hbk |-;exact(hY _ _).up (h.pre k hk hbk) hb
 ·by_cases e:k=i
  ·subst e;rw[Qb];exact h1 hk
  ·rw[Qa _ _ e] at hbk |-;obtain⟨u,k1,k2⟩:=h.tq k hk hbk;exact⟨u,k1,(hX u).up k2 hb⟩
 ·by_cases e:q+2=i
  ·rw[e,Qb];exact h2 e.symm
  ·rw[Qa _ _ e] at hbk |-;exact(hX _).up (h.e0 hbk) hb
 ·by_cases e:q+3=i
  ·rw[e,Qb];exact h3 e.symm
  ·rw[Qa _ _ e] at hbk |-;exact h.e1 hbk
 ·rw[Qa _ _ (show q+4≠i by omega)] at hbk |-;obtain⟨B,k1,k2,k3,k4,k5⟩:=h.vr hbk;refine⟨B,k1,k2,Nat.lt_of_lt_of_le k3 hb.size,k4.up k3 hb,fun e=>?_⟩;rw[Qa _ _ (show q+5≠i by omega)] at e;exact(Kp.blk _ _).up (k5 e) hb
 ·rw[Qa _ _ (show q+5≠i by omega)] at hbk;rw[Qa _ _ (show q+4≠i by omega)];exact h.so hbk
theorem FlX.var (h:FlX Y X cd O q W0 b x W) (hY:∀ i v,Kp (Y i v)) (hX:∀ v,Kp (X v)) (h4:b (q+4)=false) (hO:NoW (W.alloc O) W.heap.size) :
  FlX Y X cd O q W0 (Qn b (q+4) true) (Qn x (q+4) (.pointer (some ⟨W.heap.size,0,none⟩))) (W.alloc O):=by
 have hb:=Qc W O;refine⟨h.bl.trans (hb.mono h.bl.size),fun k hk hbk=>?_,fun k hk hbk=>?_,fun hbk=>?_,fun hbk=>?_,fun hbk=>?_,fun hbk=>?_⟩
 ·rw[Qa _ _ (show k≠q+4 by omega)] at hbk |-;exact(hY _ _).up (h.pre k hk hbk) hb
 ·rw[Qa _ _ (show k≠q+4 by omega)] at hbk |-;obtain⟨u,k1,k2⟩:=h.tq k hk hbk;exact⟨u,k1,(hX u).up k2 hb⟩
 ·rw[Qa _ _ (show q+2≠q+4 by omega)] at hbk |-;exact(hX _).up (h.e0 hbk) hb
 ·rw[Qa _ _ (show q+3≠q+4 by omega)] at hbk |-;exact h.e1 hbk
 ·rw[Qb];exact⟨_,rfl,h.bl.size,by rw[Zk2];omega,hO,fun _=>Zk1 _ _⟩
 ·rw[Qa _ _ (show q+5≠q+4 by omega)] at hbk;have:=h.so hbk;rw[h4] at this;cases this
theorem FlX.sto (h:FlX Y X cd O q W0 b x W) (h4:b (q+4)=true) (h5:b (q+5)=false):∃ B,x (q+4)=.pointer (some ⟨B,0,none⟩)/\W.heap[B]? = some O:=by
 obtain⟨B,k1,-,-,-,k5⟩:=h.vr h4;exact⟨B,k1,k5 h5⟩
theorem FlX.st (h:FlX Y X cd O q W0 b x W) (hY:∀ i v,Kq (fun _=>False) (Y i v)) (hX:∀ v,Kq (fun _=>False) (X v)) (h4:b (q+4)=true) {B:Nat} (e4:x (q+4)=.pointer (some ⟨B,0,none⟩)) (hbt:ButS (fun k=>k=B) W W') (hnw:NoW W B->NoW W' B) {d:Value} :
  FlX Y X cd O q W0 (Qn b (q+5) true) (Qn x (q+5) d) W':=by
 obtain⟨B',g1,g2,g3,g4,g5⟩:=h.vr h4;have eB:B'=B:=by rw[e4] at g1;injection g1 with g1;injection g1 with g1;injection g1 with g1;exact g1.symm
 subst eB;have hn:∀ g,g=B'->NoW W g:=fun g e=>by subst e;exact g4
 refine⟨ButS.below h.bl hbt h.bl.size (fun g e=>by omega),fun k hk hbk=>?_,fun k hk hbk=>?_,fun hbk=>?_,fun hbk=>?_,fun hbk=>?_,fun hbk=>?_⟩
 ·rw[Qa _ _ (show k≠q+5 by omega)] at hbk |-;exact(hY _ _).fr (h.pre k hk hbk) hbt hn (fun _ h=>h.elim)
 ·rw[Qa _ _ (show k≠q+5 by omega)] at hbk |-;obtain⟨u,m1,m2⟩:=h.tq k hk hbk;exact⟨u,m1,(hX u).fr m2 hbt hn (fun _ h=>h.elim)⟩
 ·rw[Qa _ _ (show q+2≠q+5 by omega)] at hbk |-;exact(hX _).fr (h.e0 hbk) hbt hn (fun _ h=>h.elim)
 ·rw[Qa _ _ (show q+3≠q+5 by omega)] at hbk |-;exact h.e1 hbk
 ·rw[Qa _ _ (show q+4≠q+5 by omega)];refine⟨B',e4,g2,Nat.lt_of_lt_of_le g3 hbt.size,hnw g4,fun e=>?_⟩;rw[Qb] at e;cases e
 ·rw[Qa _ _ (show q+4≠q+5 by omega)];exact h4
theorem FlX.out (h:FlX Y X cd O q W0 b x W) (h0:b q=true) (h1:b (q+1)=true) (h2:b (q+2)=true) (h3:b (q+3)=true) (h4:b (q+4)=true) :
  ∃ t u v B,x q=t/\x (q+1)=u/\x (q+2)=v/\x (q+3)=cd/\x (q+4)=.pointer (some ⟨B,0,none⟩)/\Below W0.heap.size W0 W:=by
 obtain⟨B,k1,-⟩:=h.vr h4;exact⟨_,_,_,B,rfl,rfl,rfl,h.e1 h3,k1,h.bl⟩
end
attribute [local go_sem ↓] Go.wp_at_zero Go.wp_at_succ
theorem Qj5 {a b r u v t c:Int} (h:SpcTo a b 1 u v t c) (hr:Yy a b=r):c=r:=by
 rcases h with ⟨-,-,-,-,e⟩|⟨h0,l,hl,⟨hn,-⟩|⟨-,-,-,-,e⟩⟩
 ·exact e.trans hr
 ·exact absurd ((hl.2 1).2 ⟨by decide,SqF.one,⟨_,(Nat.one_mul _).symm⟩⟩) hn
 ·rw[e,<- hr,h0]
theorem Qjw {a b bd r c:Int} {l0 l1:List (Int×Int×Int×Int)} {m0 m1:List (Int×Int×Int)} (h:MkTo a b bd l0 l1 m0 m1 c) (hr:Yy a b=r) (hbd:¬ (1<=bd/\bd<=100)):c=if r=0 then 1 else r:=by
 rcases h with ⟨h0,h1,-⟩|⟨h0,-,h1,-⟩|⟨h0,h1,-⟩
 ·rw[h1,<- hr,if_neg h0]
 ·rw[h1,<- hr,if_pos h0]
 ·exact absurd h1 hbd
def ShS (v:Value):Prop:=∃ p:(Bool×Option Addr×Nat×Nat)×(Bool×Option Addr×Nat×Nat)×(Bool×Option Addr×Nat×Nat),v=.agg #[.bool p.1.1,.slice p.1.2.1 p.1.2.2.1 p.1.2.2.2,.bool p.2.1.1,.slice p.2.1.2.1 p.2.1.2.2.1 p.2.1.2.2.2,.bool p.2.2.1,.slice p.2.2.2.1 p.2.2.2.2.1 p.2.2.2.2.2]
theorem shs {w:World} {v:Value} {a b c:Int} (h:Sx w v a b c):ShS v:=by
 obtain⟨s1,a1,n1,k1,s2,a2,n2,k2,s3,a3,n3,k3,e,-⟩:=h;exact⟨((s1,a1,n1,k1),(s2,a2,n2,k2),(s3,a3,n3,k3)),e⟩
theorem Qk7 {bd c:Int} {l0 l1:List (Int×Int×Int×Int)} {m0 m1:List (Int×Int×Int)} (h:MkTo 0 (-1) bd l0 l1 m0 m1 c):c=if 1<=bd/\bd<=100 then 0 else 1:=by
 have hz:Yy 0 (-1)=0:=by decide
 rcases h with ⟨h0,-⟩|⟨-,h0,h1,-⟩|⟨-,h0,h1,-⟩
 ·exact absurd hz h0
 ·rw[h1,if_neg h0]
 ·rw[h1,if_pos h0]
theorem Qkv (k:Int) : -50<k.tmod 50/\k.tmod 50<50:=by
 constructor
 ·rcases Int.le_total 0 k with h|h
  ·have:=Int.tmod_nonneg 50 h;omega
  ·have e:=Int.neg_tmod (a:=-k) (b:=50);rw[Int.neg_neg] at e;have:=Int.tmod_lt_of_pos (-k) (show (0:Int)<50 by decide);omega
 ·exact Int.tmod_lt_of_pos k (by decide)
theorem rn1 (t:Int):rN t 1=t/\rD t 1=1:=by
 have h:rG t 1=1:=by unfold rG;rw[if_neg (by decide),Int.gcd_one_right];rfl
 unfold rN rD;rw[h,if_neg (by decide),if_neg (by decide),Int.ediv_one];exact⟨rfl,rfl⟩
theorem Qlo {t:Int} (h : -50<t/\t<50):onB 0 (-1) (t,1) (7,1)=false:=by
 have hh:∀ n:Nat,n<99->onB 0 (-1) ((n:Int)-49,1) (7,1)=false:=by decide +kernel
 have:=hh (t+49).toNat (by omega);rwa [show (((t+49).toNat:Nat):Int)-49=t by omega] at this
theorem Qlp {t:Int} (h : -50<t/\t<50):sz t<=100:=Qt (J2 (by omega)) (by decide)
theorem Nq.made2 {w:World} {s:Bool} {a:Option Addr} {n c:Nat} {f:Nat->Nat} {z:Int} (h:Nq w a n c f) (hz:sg s (nv f (min n 2))=z) :
  Calls Tryz.prog 14 #[.agg #[.bool s,.slice a n c],.int .i64 2] w fun e w'=>∃ v,e=.returned v/\It w' v z/\Below w.heap.size w w':=
 (Qc9 2 (by decide) s a n c f w h.wd h.wf h.nc h.cm).mono (fun e w' ⟨v,h1,h2,h3⟩=>⟨v,h1,hz▸h2,h3⟩)
theorem Qe1 (s1 s2:Bool) (a1 a2:Option Addr) (n1 n2 c1 c2:Nat) (f1 f2:Nat->Nat) (mo:Int) (w:World) (hK1 : -9223372036854775808<=mo) (hK2:mo<=9223372036854775807) (g1:Nq w a1 n1 c1 f1) (g2:Nq w a2 n2 c2 f2) :
  Calls Tryz.prog 10 #[.agg #[.bool s1,.slice a1 n1 c1],.agg #[.bool s2,.slice a2 n2 c2],.int .i64 mo] w fun e' w'=>e'=.returned (.bool true)/\Below w.heap.size w w':=by
 obtain⟨a,aM⟩:∃ z,sg s1 (nv f1 (min n1 2))=z:=⟨_,rfl⟩;obtain⟨b,aL⟩:∃ z,sg s2 (nv f2 (min n2 2))=z:=⟨_,rfl⟩;have aY:=Qh aM;have aX:=Qh aL;have b0:=Qc w (Qlr 28 s1 a1 n1 c1);have b1:=Qc (w.alloc (Qlr 28 s1 a1 n1 c1)) (Qlr 28 s2 a2 n2 c2);have d0:=Zk1 w (Qlr 28 s1 a1 n1 c1);have d1:=Zk1 (w.alloc (Qlr 28 s1 a1 n1 c1)) (Qlr 28 s2 a2 n2 c2);rw[Zk2] at d1;have bb:=Bl.up b0 b1;have y1:sz a<=2:=by rw[<- aM];exact Qjk (fun i hi=>g1.wf i (by omega)) (by omega)
 have y2:sz b<=2:=by rw[<- aL];exact Qjk (fun i hi=>g2.wf i (by omega)) (by omega)
 obtain⟨G,aP,kG⟩:=kpe (fun w'=>w'.heap[w.heap.size]? = some (Qlr 28 s1 a1 n1 c1)/\w'.heap[w.heap.size+1]? = some (Qlr 28 s2 a2 n2 c2)/\Below w.heap.size w w');have HG:Hid (G ((w.alloc (Qlr 28 s1 a1 n1 c1)).alloc (Qlr 28 s2 a2 n2 c2))):=Qh ((aP _).2 ⟨(Kp.blk _ _).up d0 b1,d1,bb⟩);have aK:=Qh aP;have G1:=Qh (g1.up bb);have G2:=Qh (g2.up bb);clear aM aL g1 g2 b0 b1 d0 d1 bb aP;go_enter Tryz.func10,Tryz.ntmps10
 go_upto_region 1 with fail;generalize (w.alloc (Qlr 28 s1 a1 n1 c1)).alloc (Qlr 28 s2 a2 n2 c2)=W at *;go_wp2_with fail;refine mz (Qkk W) fun w1 hb=>?_;replace HG:=Qh (kG.up HG.out hb);replace G1:=Qh (G1.out.up hb);replace G2:=Qh (G2.out.up hb);clear hb;go_wp2_with fail;refine QaT (by kernel_rfl) [6,7] (S:=fun w'=>Qma w' w.heap.size s1 a1 n1 c1/\Qma w' (w.heap.size+1) s2 a2 n2 c2) ⟨Qa1 ((aK.out _).1 HG.out).1,Qa1 ((aK.out _).1 HG.out).2.1⟩ (fun aA=>?_);have kS:Kp fun w'=>Qma w' w.heap.size s1 a1 n1 c1/\Qma w' (w.heap.size+1) s2 a2 n2 c2:=kpf;replace HG:=Qh (kG.dr HG.out);replace G1:=Qh (G1.out.up (Below.refl _ _).drew);replace G2:=Qh (G2.out.up (Below.refl _ _).drew);generalize w1.drew=w4 at *;(refine tS 0 rfl ?_;refine tS 2 rfl ?_)
 have aR:=Qh aA;clear aA;refine Qa5 [(1,some 27),(3,some 29),(4,some 8),(5,some 9),(6,none),(7,none)] 0 (FlI (fun i=>if i=1 then .int a else if i=3 then .int b else .any) [(4,6,a),(5,7,b)] [] w4) rfl (by kernel_rfl) (by decide) (by kernel_rfl) (by kernel_rfl) (by kernel_rfl) (fun bb xx wz h=>(fun hb'=>kS.up aR.out hb') h.bl) (fun xx=>FlI.start0 _ _ _ _ _) ?_ ?_
 ·intro i hi;have aO:i=1\/i=3\/i=4\/i=5\/i=6\/i=7:=by simpa using hi
  clear hi;rcases aO with rfl|rfl|rfl|rfl|rfl|rfl
  ·refine⟨_,rfl,fun bb xx wz hJ hbf hw K hK=>?_⟩;clear hbf hw;simp only[Qba] at hK |-;go_simp;refine mn ((G1.out.up hJ.bl).made2 aY.out) fun v w8 hv hb=>?_;exact hK.out _ _ (hJ.put 1 rfl (by intro u hU;simp only[List.mem_cons,List.not_mem_nil,or_false] at hU;rcases hU with rfl|rfl <;> simp) hv hb)
  ·refine⟨_,rfl,fun bb xx wz hJ hbf hw K hK=>?_⟩;clear hbf hw;simp only[Qba] at hK |-;go_simp;refine mn ((G2.out.up hJ.bl).made2 aX.out) fun v w8 hv hb=>?_;exact hK.out _ _ (hJ.put 3 rfl (by intro u hU;simp only[List.mem_cons,List.not_mem_nil,or_false] at hU;rcases hU with rfl|rfl <;> simp) hv hb)
  ·refine⟨_,rfl,fun bb xx wz hJ hbf hw K hK=>?_⟩;clear hw;simp only[Qba] at hK |-;go_simp;exact hK.out _ _ (hJ.var 4 (v:=(4,6,a)) (by simp) rfl hbf rfl (by intro u hU;simp only[List.mem_cons,List.not_mem_nil,or_false] at hU;rcases hU with rfl|rfl <;> simp))
  ·refine⟨_,rfl,fun bb xx wz hJ hbf hw K hK=>?_⟩;clear hw;simp only[Qba] at hK |-;go_simp;exact hK.out _ _ (hJ.var 5 (v:=(5,7,b)) (by simp) rfl hbf rfl (by intro u hU;simp only[List.mem_cons,List.not_mem_nil,or_false] at hU;rcases hU with rfl|rfl <;> simp))
  ·refine⟨_,rfl,fun bb xx wz hJ hbf hw K hK=>?_⟩;have hv:=hw 4 (by kernel_rfl);have hd:=hJ.sto (v:=(4,6,a)) (by simp) hv (hJ.int 1 _ rfl (hw 1 (by kernel_rfl)));have hh:=Classical.choose_spec hd;generalize Classical.choose hd=p at hh;have aE:xx 1=_:=hh.hv;have aG:xx 4=_:=hh.hx;have d0:=hh.c0;have d1:=hh.c1;have f0:=hh.f0;have f1:=hh.f1;have HJ:=Qh hJ;have HH:=Qh hh;clear hbf hw hh hJ hd;simp only[Qba,aE,aG] at hK |-;clear aE aG;go_simp;go_wp2_with fail;exact hK.out _ _ (HJ.out.st 6 (v:=(4,6,a)) (by simp) rfl rfl (by intro u hU;simp only[List.mem_cons,List.not_mem_nil,or_false] at hU;rcases hU with rfl|rfl <;> simp) (by intro u hU;simp only[List.mem_cons,List.not_mem_nil,or_false] at hU;rcases hU with rfl|rfl <;> simp) hv (by simp) HH.out (d:=undef))
  ·refine⟨_,rfl,fun bb xx wz hJ hbf hw K hK=>?_⟩;have hv:=hw 5 (by kernel_rfl);have hd:=hJ.sto (v:=(5,7,b)) (by simp) hv (hJ.int 3 _ rfl (hw 3 (by kernel_rfl)));have hh:=Classical.choose_spec hd;generalize Classical.choose hd=p at hh;have aE:xx 3=_:=hh.hv;have aG:xx 5=_:=hh.hx;have d0:=hh.c0;have d1:=hh.c1;have f0:=hh.f0;have f1:=hh.f1;have HJ:=Qh hJ;have HH:=Qh hh;clear hbf hw hh hJ hd;simp only[Qba,aE,aG] at hK |-;clear aE aG;go_simp;go_wp2_with fail;exact hK.out _ _ (HJ.out.st 7 (v:=(5,7,b)) (by simp) rfl rfl (by intro u hU;simp only[List.mem_cons,List.not_mem_nil,or_false] at hU;rcases hU with rfl|rfl <;> simp) (by intro u hU;simp only[List.mem_cons,List.not_mem_nil,or_false] at hU;rcases hU with rfl|rfl <;> simp) hv (by simp) HH.out (d:=undef))
 intro bb xx wz aD hJ;obtain⟨B4,e4,a6,-,aJ⟩:=hJ.vr (4,6,a) (by simp) (aD 4 (by decide));replace aJ:=aJ (aD 6 (by decide));dsimp only at aJ;obtain⟨B5,e5,a5,-,aI⟩:=hJ.vr (5,7,b) (by simp) (aD 5 (by decide));replace aI:=aI (aD 7 (by decide));dsimp only at aI;have aH:B4≠B5:=fun e=>hJ.ne (4,6,a) (by simp) (5,7,b) (by simp) (show 4≠5 by decide) (aD 4 (by decide)) (aD 5 (by decide)) (show xx 4=xx 5 by rw[show xx 4=_ from e4,show xx 5=_ from e5,e]);have aF:=hJ.bl;clear aD hJ;obtain⟨u1,aV⟩:∃ u,u=xx 1:=⟨_,rfl⟩;obtain⟨u3,aU⟩:∃ u,u=xx 3:=⟨_,rfl⟩;simp only[QfQ,show xx 4=_ from e4,show xx 5=_ from e5,<- aV,<- aU];clear e4 e5 aV aU;have aA:Qma wz w.heap.size s1 a1 n1 c1/\Qma wz (w.heap.size+1) s2 a2 n2 c2:=kS.up aR.out aF;have HF:=Qh (And.intro aJ (And.intro aI ((aK.out _).1 (kG.up HG.out aF)).2.2));clear aF aJ aI a6 a5 aH aR G1 G2 aY aX HG aK kG;refine dT ?_;clear aA kS;obtain⟨i1,i2,i3,i4,p0,p1,-,-,ia⟩:=HF.out.1.cells;obtain⟨j1,j2,j3,j4,q0,q1,-,-,ic⟩:=HF.out.2.1.cells;obtain⟨F,aQ,kF⟩:=kpe (fun w'=>Qma w' B4 i1 i2 i3 i4/\Qma w' B5 j1 j2 j3 j4/\It w' (Qlv i1 i2 i3 i4) a/\It w' (Qlv j1 j2 j3 j4) b/\Below w.heap.size w w');replace HF:=Qh ((aQ _).2 ⟨⟨p0,p1⟩,⟨q0,q1⟩,ia,ic,HF.out.2.2⟩);have aB:=Qh aQ;clear ia ic aQ;go_wp2_with fail;refine mz (QdY _ _ a b wz ((aB.out _).1 HF.out).2.2.1 ((aB.out _).1 HF.out).2.2.2.1 (by omega) (by omega)) fun w5 hb=>?_;obtain⟨r,hr⟩:∃ r,Yy a b=r:=⟨_,rfl⟩;rw[hr];have HR:=Qh hr;replace HF:=Qh (kF.up HF.out hb);clear hb p0 p1 q0 q1 hr;obtain⟨p0,p1⟩:=((aB.out _).1 HF.out).1;obtain⟨q0,q1⟩:=((aB.out _).1 HF.out).2.1;go_wp2_with fail;refine(Qft _ _ a b r w5 ((aB.out _).1 HF.out).2.2.1 ((aB.out _).1 HF.out).2.2.2.1 (by omega) (by omega) HR.out).mono ?_;rintro e w6 ⟨v,z,rfl,hv,hb⟩;obtain⟨sv,av,mv,kv,rfl⟩:=hv.shape;clear hv;replace HF:=Qh (kF.up HF.out hb);clear hb p0 p1 q0 q1;obtain⟨p0,p1⟩:=((aB.out _).1 HF.out).1;obtain⟨q0,q1⟩:=((aB.out _).1 HF.out).2.1;go_wp2_with fail;have aW:bc2 (w6.alloc (Qlr 33 sv av mv kv)) B4 (.bool i1) (.slice i2 i3 i4)/\bc2 (w6.alloc (Qlr 33 sv av mv kv)) B5 (.bool j1) (.slice j2 j3 j4):=⟨(Kp.bk2 _ _ _).up ⟨p0,p1⟩ (Qc w6 (Qlr 33 sv av mv kv)),(Kp.bk2 _ _ _).up ⟨q0,q1⟩ (Qc w6 (Qlr 33 sv av mv kv))⟩;refine QaT (by kernel_rfl) [] (S:=fun w'=>Qma w' B4 i1 i2 i3 i4/\Qma w' B5 j1 j2 j3 j4) aW (fun aA=>?_);have kS:Kp fun w'=>Qma w' B4 i1 i2 i3 i4/\Qma w' B5 j1 j2 j3 j4:=kpf;clear aW p0 p1 q0 q1;replace HF:=Qh (kF.dr (kF.up HF.out (Qc w6 (Qlr 33 sv av mv kv))));generalize (w6.alloc (Qlr 33 sv av mv kv)).drew=w6 at *;(refine tS 0 rfl ?_;refine tS 1 rfl ?_)
 have kX:∀ v,Kp fun _=>ShS v:=fun v=>Kp.no _;have qX:∀ v,Kq (fun _=>False) fun _=>ShS v:=fun v=>⟨fun h _ _ _=>h⟩;have kY:∀ (i:Nat) (v:Value),Kp fun w'=>i=2->It w' v 1:=fun _ _=>⟨fun h hb e=>(h e).up hb⟩;have qY:∀ (i:Nat) (v:Value),Kq (fun _=>False) fun w'=>i=2->It w' v 1:=fun _ _=>⟨fun h hb hn hd e=>(Kq.it _ _).fr (h e) hb hn hd⟩;refine Qa5 [(2,some 43),(3,some 44),(4,some 40),(5,some 45),(6,some 46),(7,some 13),(8,none)] 1 (FlX (fun i v w'=>i=2->It w' v 1) (fun v _=>ShS v) (.int .i64 r) (Qlt 53 false none 0 0 false none 0 0 false none 0 0) 3 w6) rfl (by kernel_rfl) (by decide) (by kernel_rfl) (by kernel_rfl) (by kernel_rfl) (fun bb xx wz h=>kS.up aA h.bl) (fun xx=>FlX.start _ _ _ _ _ _ _) ?_ ?_
 ·intro i hi;have aO:i=2\/i=3\/i=4\/i=5\/i=6\/i=7\/i=8:=by simpa using hi
  clear hi;rcases aO with rfl|rfl|rfl|rfl|rfl|rfl|rfl
  ·refine⟨_,rfl,fun bb xx wz hJ hbf hw K hK=>?_⟩;clear hbf hw;simp only[Qba] at hK |-;go_simp;refine mn (QaX 1 wz (by decide) (by decide)) fun v w8 hv hb=>?_;exact hK.out _ _ (hJ.put kY kX (i:=2) (by decide) hb (fun _=>fun _=>hv) nzz nzz nzz)
  ·refine⟨_,rfl,fun bb xx wz hJ hbf hw K hK=>?_⟩;have hv:=hJ.pre 2 (by decide) (hw 2 (by kernel_rfl)) rfl;clear hbf hw;simp only[Qba] at hK |-;go_simp;refine(Qdy _ _ _ a b 1 wz (((aB.out _).1 (kF.up HF.out hJ.bl)).2.2.1) (((aB.out _).1 (kF.up HF.out hJ.bl)).2.2.2.1) hv (by omega) (by omega) (by decide)).mono ?_;rintro e w8 ⟨v,u1,u2,u3,cd,rfl,hs,hp,hb⟩;obtain rfl:=Qj5 hp HR.out;exact hK.out _ _ (hJ.put kY kX (i:=3) (by decide) hb nzz (fun _=>⟨_,rfl,shs hs⟩) nzz nzz)
  ·refine⟨_,rfl,fun bb xx wz hJ hbf hw K hK=>?_⟩;have hv:=hw 3 (by kernel_rfl);clear hbf hw;simp only[Qba] at hK |-;go_simp;exact hK.out _ _ (hJ.put kY kX (i:=4) (by decide) (Below.refl _ _) nzz (fun _=>hJ.tq 3 (.inl rfl) hv) nzz nzz)
  ·refine⟨_,rfl,fun bb xx wz hJ hbf hw K hK=>?_⟩;have hd:=hJ.tq 4 (.inr rfl) (hw 4 (by kernel_rfl));have hh:=Classical.choose_spec hd;generalize Classical.choose hd=u at hh;have aE:=hh.1;have aZ:=Qh hh.2;clear hbf hw hh hd;simp only[Qba,aE] at hK |-;clear aE;go_simp;exact hK.out _ _ (hJ.put kY kX (i:=5) (by decide) (Below.refl _ _) nzz nzz (fun _=>aZ.out) nzz)
  ·refine⟨_,rfl,fun bb xx wz hJ hbf hw K hK=>?_⟩;have hd:=hJ.tq 4 (.inr rfl) (hw 4 (by kernel_rfl));have hh:=Classical.choose_spec hd;generalize Classical.choose hd=u at hh;have aE:=hh.1;have aZ:=Qh hh.2;clear hbf hw hh hd;simp only[Qba,aE] at hK |-;clear aE;go_simp;exact hK.out _ _ (hJ.put kY kX (i:=6) (by decide) (Below.refl _ _) nzz nzz nzz (fun _=>rfl))
  ·refine⟨_,rfl,fun bb xx wz hJ hbf hw K hK=>?_⟩;have a9:=Qh hbf;clear hbf hw;simp only[Qba] at hK |-;go_simp;exact hK.out _ _ (hJ.var kY kX a9.out (NoW.new _ _ _ (by decide)))
  ·refine⟨_,rfl,fun bb xx wz hJ hbf hw K hK=>?_⟩;have h4:=hw 7 (by kernel_rfl);have hd:=hJ.sto h4 hbf;have hh:=Classical.choose_spec hd;generalize Classical.choose hd=B at hh;have e4:=hh.1;have hc:=hh.2;have hv:=hJ.e0 (hw 5 (by kernel_rfl));have hz:=Classical.choose_spec hv;generalize Classical.choose hv=p at hz;have a8:=Qh e4;have a7:=Qh h4;have HJ:=Qh hJ;have d0:=(QbG hc).1;have d1:=(QbG hc).2.1;have d2:=(QbG hc).2.2.1;have d3:=(QbG hc).2.2.2.1;have d4:=(QbG hc).2.2.2.2.1;have d5:=(QbG hc).2.2.2.2.2;have f0:=(QcU hc).1;have f1:=(QcU hc).2.1;have f2:=(QcU hc).2.2.1;have f3:=(QcU hc).2.2.2.1;have f4:=(QcU hc).2.2.2.2.1;have f5:=(QcU hc).2.2.2.2.2;clear hbf hw hJ hd h4 hc hh hv;simp only[Qba,show xx 7=_ from e4,show xx 5=_ from hz] at hK |-;clear e4 hz;go_simp;go_wp2_with fail;exact hK.out _ _ (HJ.out.st qY qX a7.out a8.out ((((((ButS.set _ _ 0 _).trans (ButS.set _ _ 1 _)).trans (ButS.set _ _ 2 _)).trans (ButS.set _ _ 3 _)).trans (ButS.set _ _ 4 _)).trans (ButS.set _ _ 5 _)) (fun h=>(((((h.set _ _ rfl).set _ _ rfl).set _ _ rfl).set _ _ rfl).set _ _ rfl).set _ _ rfl) (d:=undef))
 intro bb xx wz aD hJ;obtain⟨y2,aT⟩:∃ u,u=xx 2:=⟨_,rfl⟩;obtain⟨zt,zu,zv,B9,e0,e1,e2,e3,e4,aF⟩:=hJ.out (aD 3 (by decide)) (aD 4 (by decide)) (aD 5 (by decide)) (aD 6 (by decide)) (aD 7 (by decide));clear aD hJ;simp only[QfQ,show xx 3=_ from e0,show xx 4=_ from e1,show xx 5=_ from e2,show xx 6=_ from e3,show xx 7=_ from e4,<- aT];clear e0 e1 e2 e3 e4 aT;replace HF:=Qh (kF.up HF.out aF);replace aA:=kS.up aA aF;clear kX qX kY qY aF;(refine pL 9 rfl ?_)
 refine dT ?_;clear aA kS;obtain⟨p0,p1⟩:=((aB.out _).1 HF.out).1;obtain⟨q0,q1⟩:=((aB.out _).1 HF.out).2.1;obtain⟨u,hU⟩:∃ u,(if r=0 then 1 else r)=u:=⟨_,rfl⟩;have HU:=Qh hU;clear hU;go_wp2_with fail;refine(QbV _ _ a b 0 wz ((aB.out _).1 HF.out).2.2.1 ((aB.out _).1 HF.out).2.2.2.1 (by omega) (by omega) (by decide) (by decide)).mono ?_;rintro e x1 ⟨v,A',B',l0,l1,m0,m1,aC,rfl,hd,-,hm,hb⟩;rw[show aC=u from (Qjw hm HR.out (by decide)).trans HU.out];obtain⟨s3,a3,n3,k3,s4,a4,n4,k4,d0,o0,t0,d1,o1,t1,d2,o2,t2,d3,o3,t3,rfl,-⟩:=hd;replace HF:=Qh (kF.up HF.out hb);clear hb hm p0 p1 q0 q1;go_upto_region 9 with fail;replace HF:=Qh (kF.up HF.out (Qc x1 (Qlz 87 s3 a3 n3 k3 s4 a4 n4 k4 d0 o0 t0 d1 o1 t1 d2 o2 t2 d3 o3 t3)));generalize x1.alloc (Qlz 87 s3 a3 n3 k3 s4 a4 n4 k4 d0 o0 t0 d1 o1 t1 d2 o2 t2 d3 o3 t3)=x1 at *;obtain⟨p0,p1⟩:=((aB.out _).1 HF.out).1;obtain⟨q0,q1⟩:=((aB.out _).1 HF.out).2.1;go_wp2_with fail;refine(QbV _ _ a b 101 x1 ((aB.out _).1 HF.out).2.2.1 ((aB.out _).1 HF.out).2.2.2.1 (by omega) (by omega) (by decide) (by decide)).mono ?_;rintro e x2 ⟨v,A',B',l0,l1,m0,m1,aC,rfl,hd,-,hm,hb⟩;rw[show aC=u from (Qjw hm HR.out (by decide)).trans HU.out];obtain⟨s3,a3,n3,k3,s4,a4,n4,k4,d0,o0,t0,d1,o1,t1,d2,o2,t2,d3,o3,t3,rfl,-⟩:=hd;replace HF:=Qh (kF.up HF.out hb);clear hb hm p0 p1 q0 q1;go_upto_region 10 with fail;replace HF:=Qh (kF.up HF.out (Qc x2 (Qlz 87 s3 a3 n3 k3 s4 a4 n4 k4 d0 o0 t0 d1 o1 t1 d2 o2 t2 d3 o3 t3)));generalize x2.alloc (Qlz 87 s3 a3 n3 k3 s4 a4 n4 k4 d0 o0 t0 d1 o1 t1 d2 o2 t2 d3 o3 t3)=x2 at *;obtain⟨p0,p1⟩:=((aB.out _).1 HF.out).1;obtain⟨q0,q1⟩:=((aB.out _).1 HF.out).2.1;by_cases hr0:r=0
 case' pos=>
  subst hr0;obtain rfl:u=1:=HU.out.symm;go_upto_region 14 with fail
 case' neg=>
  obtain rfl:u=r:=by rw[<- HU.out,if_neg hr0]
  have a0:(u == 0)=false:=beq_eq_false_iff_ne.2 hr0;go_wp2_with fail;refine(Qdz _ a b [] [] [] [] x2 ⟨_,_,_,_,_,_,_,_,_,_,_,_,_,_,_,_,_,_,_,_,rfl,((aB.out _).1 HF.out).2.2.1,((aB.out _).1 HF.out).2.2.2.1,.nil _ _,.nil _ _,.nil _ _,.nil _ _⟩ (by omega) (by omega) ⟨by decide,fun f h=>absurd h List.not_mem_nil⟩ ⟨by decide,fun f h=>absurd h List.not_mem_nil⟩ ⟨by decide,fun f h=>absurd h List.not_mem_nil⟩ ⟨by decide,fun f h=>absurd h List.not_mem_nil⟩).mono ?_;rintro e x2 ⟨cd,rfl,hc,hb⟩
  obtain rfl:cd=u:=by
   rcases hc with ⟨-,h⟩|⟨h,-⟩|⟨h,-⟩
   ·exact h.trans HR.out
   ·exact absurd (HR.out.symm.trans h) hr0
   ·exact absurd (HR.out.symm.trans h) hr0
  replace HF:=Qh (kF.up HF.out hb);clear hb hc;go_upto_region 14 with fail;clear hr0 a0
 all_goals
  have HB:=Qh ((aB.out _).1 HF.out).2.2.2.2;clear HF aB kF HR HU;go_wp2_with fail;refine mn (QaX 0 x2 (by decide) (by decide)) fun v x3 hv0 hb=>?_;replace HB:=hu hb HB;clear hb;obtain⟨t1,e1,o1,k5,rfl⟩:=hv0.shape;go_wp2_with fail;refine mn (QaX (-1) x3 (by decide) (by decide)) fun v x4 hv1 hb=>?_;replace HB:=hu hb HB;replace hv0:=hv0.up hb;clear hb;obtain⟨t2,e2,o2,k6,rfl⟩:=hv1.shape;go_wp2_with fail;refine(QbV _ _ 0 (-1) mo x4 hv0 hv1 (by decide) (by decide) hK1 hK2).mono ?_;rintro e x5 ⟨v,A',B',l0,l1,m0,m1,aC,rfl,hd,-,hm,hb⟩;obtain⟨s3,a3,n3,k3,s4,a4,n4,k4,d0,o0,z0,d1,o3,z1,d2,o4,z2,d3,o5,z3,rfl,-⟩:=hd;replace HB:=hu hb HB;have aS:=Qh (Qk7 hm);clear hb hv0 hv1 hm;go_upto_region 15 with fail;replace HB:=Qh (Bl.up HB.out (Qc x5 (Qlz 87 s3 a3 n3 k3 s4 a4 n4 k4 d0 o0 z0 d1 o3 z1 d2 o4 z2 d3 o5 z3)));generalize x5.alloc (Qlz 87 s3 a3 n3 k3 s4 a4 n4 k4 d0 o0 z0 d1 o3 z1 d2 o4 z2 d3 o5 z3)=x5 at *;go_wp2_with fail;refine mn (QaX 0 x5 (by decide) (by decide)) fun v x6 hv0 hb=>?_;replace HB:=hu hb HB;clear hb;obtain⟨t3,e3,o6,k7,rfl⟩:=hv0.shape;go_wp2_with fail;refine mn (QaX (-1) x6 (by decide) (by decide)) fun v x7 hv1 hb=>?_;replace HB:=hu hb HB;replace hv0:=hv0.up hb;clear hb;obtain⟨t4,e4,o7,k8,rfl⟩:=hv1.shape;go_wp2_with fail;have HT:=Qh (Qkv mo);generalize mo.tmod 50=t at *;refine mn (QdK t 1 x7 (by have:=HT.out;omega) (by have:=HT.out;omega) (by decide) (by decide)) fun v x8 hp hb=>?_;replace HB:=hu hb HB;replace hv0:=hv0.up hb;replace hv1:=hv1.up hb;clear hb;obtain⟨p1,p2,p3,p4,p5,p6,p7,p8,rfl,-⟩:=id hp;go_wp2_with fail;refine mn (QdK 7 1 x8 (by decide) (by decide) (by decide) (by decide)) fun v x9 hq hb=>?_;replace HB:=hu hb HB;replace hv0:=hv0.up hb;replace hv1:=hv1.up hb;replace hp:=hp.up hb;clear hb;obtain⟨q1,q2,q3,q4,q5,q6,q7,q8,rfl,-⟩:=id hq;go_wp2_with fail;rw[(rn1 t).1,(rn1 t).2] at hp;rw[(rn1 7).1,(rn1 7).2] at hq;refine(Qe3 _ _ 0 (-1) (t,1) (7,1) _ _ _ _ _ _ _ _ _ _ _ _ _ _ _ _ x9 hv0 hv1 (by decide) (by decide) hp hq (show (0:Int)<1 by decide) (show (0:Int)<1 by decide) (Int.gcd_one_right t) (by decide) (Qlp HT.out) (show sz 1<=100 by decide) (by decide) (by decide) (by decide) (Qlo HT.out)).mono ?_;rintro e xa ⟨v,z,rfl,hv,hb⟩;obtain⟨t5,e5,o8,k9,rfl⟩:=hv.shape;replace HB:=hu hb HB;clear hb hv hp hq hv0 hv1;by_cases hm1:1<=mo
  ·by_cases hm2:mo<=100
   ·obtain rfl:aC=0:=by rw[aS.out,if_pos ⟨hm1,hm2⟩]
    go_wp2_with fail;go_ret
    exact⟨by first|rfl|simp[hm1]|simp[hm2],Bl.up HB.out (Qc _ _)⟩
   ·obtain rfl:aC=1:=by rw[aS.out,if_neg (fun h=>hm2 h.2)]
    have bB:decide (mo<=100)=false:=decide_eq_false hm2;have bA:100<mo:=by omega
    go_wp2_with fail;go_ret
    exact⟨by first|rfl|simp[hm1]|simp[hm2],Bl.up HB.out (Qc _ _)⟩
  ·obtain rfl:aC=1:=by rw[aS.out,if_neg (fun h=>hm1 h.1)]
   go_wp2_with fail;go_ret
   exact⟨by first|rfl|simp[hm1]|simp[hm2],Bl.up HB.out (Qc _ _)⟩
