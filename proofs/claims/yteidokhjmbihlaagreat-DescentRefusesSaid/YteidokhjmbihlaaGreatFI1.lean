/-
  factor.compare, in the form that a sort asks.
-/
import Derived.IntWalk
import Derived.Sort.Grow
import Derived.Test.YteidokhjmbihlaaGreatFD1
import Derived.Test.YteidokhjmbihlaaGreatFF
import Derived.Test.YteidokhjmbihlaaGreatFH1
import Derived.Test.YteidokhjmbihlaaGreatFG1
import Derived.Test.YteidokhjmbihlaaGreatFE1
set_option linter.all false
set_option maxRecDepth 100000
set_option maxHeartbeats 4000000
namespace Go.Proofs.YteidokhjmbihlaaGreat
open Go.RowKit
attribute [local go_sem ↓] Go.wp_at_zero Go.wp_at_succ
theorem Qce (n:Int) (w:World) (h1 : -9223372036854775808<=n) (h2:n<=9223372036854775807) :
  Calls Tryz.prog 175 #[.int .i64 n] w fun e w'=>∃ v,e=.returned v/\It w' v n/\Below w.heap.size w w':=by
 go_enter Tryz.func175,Tryz.ntmps175
 go_wp2_with fail;refine(Qbf n _ h1 h2).mono ?_;rintro e w1 ⟨v,rfl,hv,hb⟩;obtain⟨s',a',n',aB,rfl⟩:=hv.shape;have aA:=(Qc w (Qlr 33 false none 0 0)).trans (hb.mono (by simp));have hx:=(Vx.new0 (w:=w) (T:=33) rfl).up hb;clear hb;obtain⟨s,a,k,c,c0,c1,f0,f1,-⟩:=hx.cells;go_wp2_with fail;exact Qbl (B:=w.heap.size) rfl rfl rfl (Vx.put hx.va hv) (fun v hv=>⟨_,rfl,hv,Bl.st aA (Nat.le_refl _)⟩)
theorem Qh6 (w:World) {va:Value} {x:Int} (hx:It w va x) :
  ∃ W s a n c,va=.agg #[.bool s,.slice a n c]/\W=w.alloc (Qlr 33 s a n c)/\Below w.heap.size w W/\Vx W w.heap.size x/\W.heap.size=w.heap.size+1 /\
   W.cell? ⟨w.heap.size,0,none⟩=some (.bool s)/\W.cell? ⟨w.heap.size,1,none⟩=some (.slice a n c)/\It W va x:=by
 obtain⟨s,a,n,c,rfl⟩:=hx.shape;have b:=Qc w (Qlr 33 s a n c);have v:=Vx.new (w:=w) (T:=33) rfl hx;have d:=Bx.new w (.bool s) (.slice a n c) 33;exact⟨_,s,a,n,c,rfl,rfl,b,v,by simp,d.c0,d.c1,hx.up b⟩
theorem QhV (va:Value) (x:Int) (w:World) (hx:It w va x) (hsx:sz x<=1099511627776) :
  Calls Tryz.prog 177 #[va] w fun e w'=>e=.returned (.bool (decide (x=1)))/\Below w.heap.size w w':=by
 obtain⟨W,s1,a1,n1,c1,rfl,hW,b,vX,hs,p0,p1,aD⟩:=Qh6 w hx;clear hx;go_enter Tryz.func177,Tryz.ntmps177
 go_upto_region 1 with fail;rw[<- hW];clear hW;refine QaT (by kernel_rfl) [] (S:=fun w'=>w'.cell? ⟨w.heap.size,0,none⟩=some (.bool s1)/\w'.cell? ⟨w.heap.size,1,none⟩=some (.slice a1 n1 c1)) ⟨p0,p1⟩ (fun aA=>?_);refine kL 0 rfl ?_;(refine oL 1 rfl fun K hK=>tL ?_;go_simp);refine(Qce 1 _ (by decide) (by decide)).mono ?_;rintro e w1 ⟨v,rfl,hv,aC⟩;obtain⟨s',a',n',c',rfl⟩:=hv.shape;replace p0:=QaD aC (Qa7 p0);replace p1:=QaD aC (Qa7 p1);replace aD:=aD.drew.up aC;replace b:=Bl.up (Bl.drew b) aC;(go_wp2_with fail;clear aA;refine nxL hK ⟨p0,p1⟩ fun aA=>tL ?_;clear hK);(refine oL 2 rfl fun K hK=>tL ?_;go_simp);refine(Qbz _ _ x 1 _ aD hv (Qt hsx (by decide)) (by decide)).mono ?_;rintro e w2 ⟨rfl,aB⟩;replace b:=Bl.up b aB;have hd:(QaW x 1 == 0)=decide (x=1):=by rw[Bool.eq_iff_iff];simp[Qa4]
 (go_wp2_with fail;clear aA;refine nxL hK ⟨QaD aB p0,QaD aB p1⟩ fun aA=>tL ?_;clear hK);(refine oL 3 rfl fun K hK=>tL ?_;go_simp);(go_wp2_with fail;clear aA;refine nxL hK ⟨QaD aB p0,QaD aB p1⟩ fun aA=>tL ?_;clear hK);(refine oL 4 rfl fun K hK=>tL ?_;go_simp);(go_wp2_with fail;clear aA;refine nxL hK ⟨QaD aB p0,QaD aB p1⟩ fun aA=>tL ?_;clear hK);refine dT ?_;go_wp2_with fail;go_ret
 exact⟨rfl,b⟩
theorem Qck {fn:Func} {R:Ending->World->Prop} {t u:Tmp} {a:Act} {w:World} {B:Nat} {z:Int} {e:Value} (hr:fn.results = #[.cell t 33,.tmp u]) (ht:a.tmps.getD t undef=.pointer (some ⟨B,0,none⟩)) (h3:a.tmps.getD u undef=e) (hd:a.defers=[])
  (h:Vx w B z) (hR:∀ v,It w v z->R (.returned (.tuple #[v,e])) w):bodyPost Tryz.prog fn R .ret a w:=by
 obtain⟨s,x,n,c,h1,h2,aC⟩:=h;refine bodyPost_ret ?_ hd (hR _ h2);have hl:=QbP w B 0 _ _ h1.c0 h1.c1;have aB:a.tmps[t]?.getD undef=.pointer (some ⟨B,0,none⟩):=by simpa using ht
 have aA:a.tmps[u]?.getD undef=e:=by simpa using h3
 have hA:∀ B,(asAddr (.pointer (some ⟨B,0,none⟩))).run Tryz.prog w=.ok ⟨B,0,none⟩ w:=fun _=>rfl;simp[results,hr,aB,aA,hl,hA]
theorem Qhn (va vb:Value) (x y:Int) (w:World) (hx:It w va x) (hy:It w vb y) (hy0:y≠0) (hsx:sz x<=1099511627776) (hsy:sz y<=1099511627776) :
  Calls Tryz.prog 215 #[va,vb] w fun e w'=>∃ v,e=.returned (.tuple #[v,.bool (decide (x%y=0))])/\It w' v (x/y)/\Below w.heap.size w w':=by
 obtain⟨W,s1,a1,n1,c1,s2,a2,n2,c2,rfl,rfl,hW,b,vX,vY,vR,hs,p0,p1,q0,q1,aE,aD⟩:=Qch w hx hy;clear hx hy;go_enter Tryz.func215,Tryz.ntmps215
 go_wp2_with fail;rw[<- hW];clear hW;refine(Qby _ _ x y W aE aD hy0 hsx hsy).mono ?_;rintro e w1 ⟨vq,vr,rfl,hq,hr,aC⟩;obtain⟨sq,aq,nq,cq,rfl⟩:=hq.shape;obtain⟨sr,ar,nr,cr,rfl⟩:=hr.shape;replace vR:=vR.up aC;replace b:=Bl.up b aC;clear p0 p1 q0 q1 vX vY aE aD;go_upto_region 2 with fail;have vQ:=(Vx.new (w:=w1) (T:=33) rfl hq).alloc (Qlr 33 sr ar nr cr);have vM:=Vx.new (w:=w1.alloc (Qlr 33 sq aq nq cq)) (T:=33) (B:=w1.heap.size+1) (by simp) (hr.alloc (Qlr 33 sq aq nq cq));replace vR:=(vR.alloc (Qlr 33 sq aq nq cq)).alloc (Qlr 33 sr ar nr cr);replace b:=Bl.alloc (Bl.alloc b (Qlr 33 sq aq nq cq)) (Qlr 33 sr ar nr cr);have z1:=aC.size;rw[hs] at z1;clear aC hq hr;generalize (w1.alloc (Qlr 33 sq aq nq cq)).alloc (Qlr 33 sr ar nr cr)=W2 at *;generalize w1.heap.size=N at *;obtain⟨s3,a3,n3,k3,c0,aF,-,-,hq⟩:=vQ.cells;obtain⟨s4,a4,n4,k4,d0,d1,-,-,hr⟩:=vM.cells;refine QaT (by kernel_rfl) [4] (S:=fun w'=>w'.cell? ⟨N,0,none⟩=some (.bool s3)/\w'.cell? ⟨N,1,none⟩=some (.slice a3 n3 k3)/\w'.cell? ⟨N+1,0,none⟩=some (.bool s4)/\w'.cell? ⟨N+1,1,none⟩=some (.slice a4 n4 k4)) ⟨c0,aF,d0,d1⟩ (fun aA=>?_);refine kL 0 rfl ?_;refine kL 1 rfl ?_;(refine oL 2 rfl fun K hK=>tL ?_;go_simp);refine(Qa9 _ (x%y) _ hr.drew).mono ?_;rintro e w2 ⟨rfl,aB⟩;replace b:=Bl.up (Bl.drew b) aB;replace vR:=vR.drew.up aB;replace hq:=hq.drew.up aB;have hd:(QaW (x%y) 0 == 0)=decide (x%y=0):=by rw[Bool.eq_iff_iff];simp[Qa4]
 (go_wp2_with fail;clear aA;refine nxL hK ⟨QaD aB (Qa7 c0),QaD aB (Qa7 aF),QaD aB (Qa7 d0),QaD aB (Qa7 d1)⟩ fun aA=>tL ?_;clear hK);refine pL 3 rfl ?_;obtain⟨s5,a5,n5,k5,e0,e1,f0,f1,-⟩:=vR.cells;(refine oL 4 rfl fun K hK=>tL ?_;go_simp);(go_wp2_with fail;refine xL hK (tL ?_);clear hK);(refine oL 5 rfl fun K hK=>tL ?_;go_simp);(go_wp2_with fail;refine xL hK (tL ?_);clear hK);refine dT ?_;go_wp2_with fail;exact Qck (B:=w.heap.size+1+1) (z:=x/y) rfl rfl rfl rfl (Vx.put vR.va hq) (fun v hv=>⟨v,rfl,hv,Bl.st b (by omega)⟩)
theorem Qka {fn:Func} {R:Ending->World->Prop} {t u:Tmp} {a:Act} {w:World} {B:Nat} {z:Int} {e:Value} (hr:fn.results = #[.tmp u,.cell t 33]) (ht:a.tmps.getD t undef=.pointer (some ⟨B,0,none⟩)) (h3:a.tmps.getD u undef=e) (hd:a.defers=[])
  (h:Vx w B z) (hR:∀ v,It w v z->R (.returned (.tuple #[e,v])) w):bodyPost Tryz.prog fn R .ret a w:=by
 obtain⟨s,x,n,c,h1,h2,aC⟩:=h;refine bodyPost_ret ?_ hd (hR _ h2);have hl:=QbP w B 0 _ _ h1.c0 h1.c1;have aB:a.tmps[t]?.getD undef=.pointer (some ⟨B,0,none⟩):=by simpa using ht
 have aA:a.tmps[u]?.getD undef=e:=by simpa using h3
 have hA:∀ B,(asAddr (.pointer (some ⟨B,0,none⟩))).run Tryz.prog w=.ok ⟨B,0,none⟩ w:=fun _=>rfl;simp[results,hr,aB,aA,hl,hA]
theorem QiU (a b:Nat):decide ((a:Int)%(b:Int)=0)=decide (b∣a):=by
 rw[decide_eq_decide];constructor
 ·intro h;exact Nat.dvd_of_mod_eq_zero (by omega)
 ·intro h;have:=Nat.mod_eq_zero_of_dvd h;omega
theorem QjM {d k x:Nat} (h2:2<=d) (hx:d ^ k<=x) (hs:sz (x:Int)<=1099511627776):k<35184372088832:=by
 have h0:2 ^ k<=d ^ k:=Nat.pow_le_pow_left h2 k;have h3:x<4294967296 ^ Qq x:=Qi x;have h4:Qq x<=1099511627776:=by simpa [sz] using hs
 rcases Nat.lt_or_ge k 35184372088832 with h|h
 ·exact h
 ·exfalso
  have h5:4294967296 ^ Qq x<=2 ^ k:=by
   rw[show (4294967296:Nat)=2 ^ 32 by decide,<- Nat.pow_mul];exact Nat.pow_le_pow_right (by decide) (by omega)
  omega
theorem QeA (va vb:Value) (x d:Nat) (w:World) (hx:It w va x) (hy:It w vb d) (h1:1<=x) (h2:2<=d) (hsx:sz x<=1099511627776) (hsy:sz d<=1099511627776) :
  Calls Tryz.prog 174 #[va,vb] w fun e w'=>∃ v,e=.returned (.tuple #[.int .i64 (mlt d x:Nat),v])/\It w' v (cof d x:Nat)/\Below w.heap.size w w':=by
 obtain⟨W,s1,a1,n1,c1,s2,a2,n2,c2,rfl,rfl,hW,b,vX,vY,vR,hs,p0,p1,q0,q1,aD,aC⟩:=Qch w hx hy;clear hx hy p0 p1 q0 q1 aD aC;go_enter Tryz.func174,Tryz.ntmps174
 go_wp2_with fail;rw[<- hW];clear hW;go_loopg [6] x (fun c s6 wr=>∃ k:Nat,s6=.int .i64 k/\1<=c/\x=d ^ k*c/\Below w.heap.size w wr/\Vx wr w.heap.size c/\Vx wr (w.heap.size+1) d/\Vx wr (w.heap.size+1+1) 0)
 case atStart=>exact⟨0,rfl,h1,by simp,b,vX,vY,vR⟩
 case round=>
  obtain⟨k,rfl,hc,he,hb,vx,vy,vr⟩:=hrel;clear vX vY vR b hs;have HE:=Qh he;have aG:gk<=x:=by rw[he];exact Nat.le_mul_of_pos_left _ (Nat.pow_pos (by omega))
  have aF:=QjM (k:=k) h2 (by rw[he];exact Nat.le_mul_of_pos_right _ hc) hsx;have aE:sz (gk:Int)<=1099511627776:=Qt (Y2 (by omega)) hsx;clear he;obtain⟨ax,nx,cx,kx,x0,x1,-,-,ix⟩:=vx.cells;obtain⟨ay,ny,cy,ky,y0,y1,-,-,iy⟩:=vy.cells;go_wp2_with fail;refine(Qhn _ _ (gk:Int) (d:Int) wr ix iy (by omega) aE hsy).mono ?_;rintro e w1 ⟨v,rfl,hv,aB⟩;obtain⟨sq,aq,nq,cq,rfl⟩:=hv.shape;clear x0 x1 y0 y1 ix iy;replace hb:=Bl.up hb aB;replace vx:=vx.up aB;replace vy:=vy.up aB;replace vr:=vr.up aB;clear aB;have HV:=Qh hv;clear hv;rw[QiU];have t1:=vr.lt;have t2:w.heap.size<w1.heap.size:=vx.lt;obtain⟨bx,mx,ex,lx,x0,x1,x2,x3,-⟩:=vx.cells;by_cases hd:d∣gk
  ·have e1:decide (d∣gk)=true:=decide_eq_true hd;rw[e1];clear e1;go_wp2_with fail;go_roundg (gk/d)
   ·have e2:(gk:Int)/(d:Int)=((gk/d:Nat):Int):=by omega
    have e3:d*(gk/d)=gk:=Nat.mul_div_cancel' hd;have hv:=HV.out;rw[e2] at hv;clear HV;refine⟨k+1,rfl,?_,?_,?_,?_,?_,?_⟩
    ·rcases Nat.eq_zero_or_pos (gk/d) with h0|h0
     ·rw[h0] at e3;omega
     ·exact h0
    ·rw[Nat.pow_succ,Nat.mul_assoc,e3];exact HE.out
    all_goals exact QbY
   ·exact Nat.div_lt_self hc h2
  ·have e1:decide (d∣gk)=false:=decide_eq_false hd;rw[e1];clear e1;go_upto_region 5 with fail;replace vr:=vr.alloc (Qlr 33 sq aq nq cq);replace vx:=vx.alloc (Qlr 33 sq aq nq cq);replace hb:=Bl.alloc hb (Qlr 33 sq aq nq cq);clear x0 x1 x2 x3 vy HV;generalize w1.alloc (Qlr 33 sq aq nq cq)=W2 at *;obtain⟨b1,b2,b3,b4,x0,x1,-,-,hv⟩:=vx.cells;obtain⟨b5,b6,b7,b8,r0,r1,r2,r3,-⟩:=vr.cells;refine QaT (by kernel_rfl) [3] (S:=fun w'=>w'.cell? ⟨w.heap.size,0,none⟩=some (.bool b1)/\w'.cell? ⟨w.heap.size,1,none⟩=some (.slice b2 b3 b4)) ⟨x0,x1⟩ (fun aA=>?_);replace vr:=vr.drew;replace hv:=hv.drew;replace hb:=Bl.drew hb;refine pL 0 rfl ?_;refine kL 1 rfl ?_;(refine oL 2 rfl fun K hK=>tL ?_;go_simp);(go_wp2_with fail;clear aA;refine nxL hK ⟨x0,x1⟩ fun aA=>tL ?_;clear hK);(refine oL 3 rfl fun K hK=>tL ?_;go_simp);(go_wp2_with fail;refine xL hK (tL ?_);clear hK);refine dT ?_;go_wp2_with fail;obtain⟨e1,e2⟩:=Qb7 h2 h1 HE.out hd;rw[e1,e2];exact Qka (B:=w.heap.size+1+1) (z:=(gk:Int)) rfl rfl rfl rfl (Vx.put vr.va hv) (fun v hv=>⟨v,rfl,hv,Bl.st hb (by omega)⟩)
structure Kn where
 R:Nat->Value->(Nat->Prop)->World->Prop
 V:World->Nat->Prop
 up:∀ {i v Z w w'},R i v Z w->Below w.heap.size w w'->R i v Z w'
 vup:∀ {w w' B},V w B->Below w.heap.size w w'->V w' B
 vlt:∀ {w B},V w B->B<w.heap.size
structure Fl (A:Kn) (j:Nat) (W0:World) (b:Nat->Bool) (x:Nat->Value) (W:World):Prop where
 bl:Below W0.heap.size W0 W
 pr:∀ i,i≠j->b i=true->∃ Z,A.R i (x i) Z W/\(∀ k,Z k->W0.heap.size<=k/\k<W.heap.size)/\(b j=true->∀ B,x j=.pointer (some ⟨B,0,none⟩)->¬ Z B)
 pj:b j=true->∃ B,x j=.pointer (some ⟨B,0,none⟩)/\W0.heap.size<=B/\A.V W B
section
variable {A:Kn} {j:Nat} {W0 W W':World} {b:Nat->Bool} {x:Nat->Value}
theorem Fl.start (A:Kn) (j:Nat) (W0:World) (x:Nat->Value):Fl A j W0 (fun _=>false) x W0.drew:=⟨(Below.refl _ _).drew,(fun _ _ h=>nomatch h),fun h=>nomatch h⟩
theorem Fl.call (h:Fl A j W0 b x W) {i:Nat} (hij:i≠j) {v:Value} {Z:Nat->Prop} (hR:A.R i v Z W') (hZ:∀ k,Z k->W.heap.size<=k/\k<W'.heap.size) (hb:Below W.heap.size W W'):Fl A j W0 (Qn b i true) (Qn x i v) W':=by
 have hj:Qn b i true j=b j:=Qa _ _ (Ne.symm hij);have hx:Qn x i v j=x j:=Qa _ _ (Ne.symm hij);have h1:=h.bl.size;have h2:=hb.size;refine⟨h.bl.trans (hb.mono h1),fun i' hi' hbi=>?_,fun hbj=>?_⟩
 ·rw[hj,hx];by_cases e:i'=i
  ·subst e;rw[Qb];refine⟨Z,hR,fun k hk=>⟨by have:=(hZ k hk).1;omega,(hZ k hk).2⟩,fun hbj B hB hz=>?_⟩;obtain⟨B',e',-,hv⟩:=h.pj hbj;rw[hB] at e';obtain rfl:B=B':=by simpa using e'
   have:=A.vlt hv;have:=(hZ B hz).1;omega
  ·rw[Qa _ _ e] at hbi |-;obtain⟨Z',r1,r2,r3⟩:=h.pr i' hi' hbi;exact⟨Z',A.up r1 hb,fun k hk=>⟨(r2 k hk).1,by have:=(r2 k hk).2;omega⟩,r3⟩
 ·rw[hj] at hbj;rw[hx];obtain⟨B,e,q1,q2⟩:=h.pj hbj;exact⟨B,e,q1,A.vup q2 hb⟩
theorem Fl.var (h:Fl A j W0 b x W) (hV:A.V W' W.heap.size) (hb:Below W.heap.size W W'):Fl A j W0 (Qn b j true) (Qn x j (.pointer (some ⟨W.heap.size,0,none⟩))) W':=by
 have h1:=h.bl.size;have h2:=hb.size;refine⟨h.bl.trans (hb.mono h1),fun i hi hbi=>?_,fun _=>⟨W.heap.size,Qb _ _ _,h1,hV⟩⟩;rw[Qa _ _ hi] at hbi |-;obtain⟨Z,r1,r2,r3⟩:=h.pr i hi hbi;refine⟨Z,A.up r1 hb,fun k hk=>⟨(r2 k hk).1,by have:=(r2 k hk).2;omega⟩,fun _ B hB hz=>?_⟩;rw[Qb] at hB;obtain rfl:W.heap.size=B:=by simpa using hB
 have:=(r2 _ hz).2;omega
end
theorem Fl.st {A:Kn} {j:Nat} {W0 W W':World} {b:Nat->Bool} {x:Nat->Value} (h:Fl A j W0 b x W) {i:Nat} (hij:i≠j) {B:Nat} (hB:x j=.pointer (some ⟨B,0,none⟩)) (hbj:b j=true)
  (hfr:∀ i' v Z,A.R i' v Z W->A.R i' v Z W') (hs:W'.heap.size=W.heap.size) (hb:Below W0.heap.size W0 W') (hV:A.V W' B) {v:Value} (hR:A.R i v (fun _=>False) W'):Fl A j W0 (Qn b i true) (Qn x i v) W':=by
 have hj:Qn b i true j=b j:=Qa _ _ (Ne.symm hij);have hx:Qn x i v j=x j:=Qa _ _ (Ne.symm hij);refine⟨hb,fun i' hi' hbi=>?_,fun hbj'=>?_⟩
 ·rw[hj,hx];by_cases e:i'=i
  ·subst e;rw[Qb];exact⟨fun _=>False,hR,fun k hk=>hk.elim,fun _ _ _ hz=>hz⟩
  ·rw[Qa _ _ e] at hbi |-;obtain⟨Z',r1,r2,r3⟩:=h.pr i' hi' hbi;exact⟨Z',hfr _ _ _ r1,fun k hk=>⟨(r2 k hk).1,by have:=(r2 k hk).2;omega⟩,r3⟩
 ·obtain⟨B',e,q1,q2⟩:=h.pj hbj;rw[hx];rw[hB] at e;injection e with e;injection e with e;injection e with e;subst e;exact⟨B,hB,q1,hV⟩
structure Fl2 (A:Kn) (val:Nat->Value) (j:Nat) (W0:World) (b:Nat->Bool) (x:Nat->Value) (W:World):Prop where
 bl:Below W0.heap.size W0 W
 pr:∀ i,i≠j->b i=true->∃ Z,A.R i (x i) Z W/\(∀ k,Z k->W0.heap.size<=k/\k<W.heap.size)/\(b j=true->∀ B,x j=val B->¬ Z B)
 pj:b j=true->∃ B,x j=val B/\W0.heap.size<=B/\A.V W B
section
variable {A:Kn} {val:Nat->Value} {j:Nat} {W0 W W':World} {b:Nat->Bool} {x:Nat->Value}
theorem Fl2.start (A:Kn) (val:Nat->Value) (j:Nat) (W0:World) (x:Nat->Value):Fl2 A val j W0 (fun _=>false) x W0.drew:=⟨(Below.refl _ _).drew,(fun _ _ h=>nomatch h),fun h=>nomatch h⟩
theorem Fl2.call (h:Fl2 A val j W0 b x W) (hinj:∀ a b,val a=val b->a=b) {i:Nat} (hij:i≠j) {v:Value} {Z:Nat->Prop} (hR:A.R i v Z W') (hZ:∀ k,Z k->W.heap.size<=k/\k<W'.heap.size) (hb:Below W.heap.size W W'):Fl2 A val j W0 (Qn b i true) (Qn x i v) W':=by
 have hj:Qn b i true j=b j:=Qa _ _ (Ne.symm hij);have hx:Qn x i v j=x j:=Qa _ _ (Ne.symm hij);have h1:=h.bl.size;have h2:=hb.size;refine⟨h.bl.trans (hb.mono h1),fun i' hi' hbi=>?_,fun hbj=>?_⟩
 ·rw[hj,hx];by_cases e:i'=i
  ·subst e;rw[Qb];refine⟨Z,hR,fun k hk=>⟨by have:=(hZ k hk).1;omega,(hZ k hk).2⟩,fun hbj B hB hz=>?_⟩;obtain⟨B',e',-,hv⟩:=h.pj hbj;rw[hB] at e';obtain rfl:B=B':=hinj _ _ e';have:=A.vlt hv;have:=(hZ B hz).1;omega
  ·rw[Qa _ _ e] at hbi |-;obtain⟨Z',r1,r2,r3⟩:=h.pr i' hi' hbi;exact⟨Z',A.up r1 hb,fun k hk=>⟨(r2 k hk).1,by have:=(r2 k hk).2;omega⟩,r3⟩
 ·rw[hj] at hbj;rw[hx];obtain⟨B,e,q1,q2⟩:=h.pj hbj;exact⟨B,e,q1,A.vup q2 hb⟩
theorem Fl2.var (h:Fl2 A val j W0 b x W) (hinj:∀ a b,val a=val b->a=b) (hV:A.V W' W.heap.size) (hb:Below W.heap.size W W'):Fl2 A val j W0 (Qn b j true) (Qn x j (val W.heap.size)) W':=by
 have h1:=h.bl.size;have h2:=hb.size;refine⟨h.bl.trans (hb.mono h1),fun i hi hbi=>?_,fun _=>⟨W.heap.size,Qb _ _ _,h1,hV⟩⟩;rw[Qa _ _ hi] at hbi |-;obtain⟨Z,r1,r2,r3⟩:=h.pr i hi hbi;refine⟨Z,A.up r1 hb,fun k hk=>⟨(r2 k hk).1,by have:=(r2 k hk).2;omega⟩,fun _ B hB hz=>?_⟩;rw[Qb] at hB;obtain rfl:W.heap.size=B:=hinj _ _ hB;have:=(r2 _ hz).2;omega
end
section
variable {q:Nat} {k c:Int} {v u:Value} {Z:Nat->Prop} {w:World}
end
def YB (B:Nat) (vP vR:Value) (k:Nat):Prop:=k=B\/vP.ownBlock=some k\/vR.ownBlock=some k
structure BuT (T:TypeId) (w:World) (B:Nat) (vP vR:Value) (N:Int) (P R:List (Int×Int)) (b:Int):Prop where
 hb:∃ s a n c,w.heap[B]? = some (.cells #[.bool s,.slice a n c,vP,vR,.int .i64 b] T (0,0))/\It w (Qlv s a n c) N
 hP:So eP w 0 vP P
 hR:So eP w 0 vR R
 d1:∀ g,vP.ownBlock=some g->vR.ownBlock≠some g
 d2:vP.ownBlock≠some B
 d3:vR.ownBlock≠some B
abbrev Bu (w:World) (B:Nat) (vP vR:Value) (N:Int) (P R:List (Int×Int)) (b:Int):Prop:=BuT 237 w B vP vR N P R b
section
variable {T:TypeId} {w:World} {B:Nat} {vP vR:Value} {N:Int} {P R:List (Int×Int)} {b:Int}
theorem BuT.lt (h:BuT T w B vP vR N P R b):B<w.heap.size:=by
 obtain⟨s,a,n,c,h1,-⟩:=h.hb;exact(Ql h1).1
theorem BuT.slt (h:BuT T w B vP vR N P R b):∀ k,YB B vP vR k->k<w.heap.size:=by
 rintro k (rfl|h1|h1)
 ·exact h.lt
 ·exact(h.hP.lt k h1).2
 ·exact(h.hR.lt k h1).2
theorem Q5 (h:So eP w 0 vP P):∃ a n c,vP=.slice a n c:=by
 obtain⟨a,c,e,-⟩:=h.slice;exact⟨a,_,c,e⟩
theorem BuT.nw (h:BuT T w B vP vR N P R b):∀ k,YB B vP vR k->NoW w k:=by
 rintro k (rfl|h1|h1)
 ·obtain⟨s,a,n,c,h1,-⟩:=h.hb;obtain⟨a1,n1,c1,e1⟩:=Q5 h.hP;obtain⟨a2,n2,c2,e2⟩:=Q5 h.hR;subst e1 e2;intro o x hx;simp only[World.cell?,h1] at hx;rcases o with _|_|_|_|_|o <;> simp at hx
 ·exact h.hP.nw k h1
 ·exact h.hR.nw k h1
theorem BuT.fr {S:Nat->Prop} {w':World} (hb:ButS S w w') (hS:∀ g,S g->NoW w g) (hn:∀ k,YB B vP vR k->¬ S k) (h:BuT T w B vP vR N P R b):BuT T w' B vP vR N P R b:=by
 obtain⟨s,a,n,c,h1,h2⟩:=h.hb;exact⟨⟨s,a,n,c,(hb.block B h.lt (hn B (.inl rfl))).trans h1,h2.fr hb hS⟩,h.hP.fr hb hS (fun g hg=>hn g (.inr (.inl hg))),h.hR.fr hb hS (fun g hg=>hn g (.inr (.inr hg))),h.d1,h.d2,h.d3⟩
theorem BuT.up {w':World} (h:BuT T w B vP vR N P R b) (hb:Below w.heap.size w w'):BuT T w' B vP vR N P R b:=h.fr (ButS.of hb (fun _=>False)) (fun _ h=>h.elim) (fun _ _ h=>h.elim)
theorem BuT.alloc (h:BuT T w B vP vR N P R b) (o:Obj):BuT T (w.alloc o) B vP vR N P R b:=h.up (Qc _ _)
theorem BuT.drew (h:BuT T w B vP vR N P R b):BuT T w.drew B vP vR N P R b:=h.up ((Below.refl _ w).drew)
theorem BuT.cells (h:BuT T w B vP vR N P R b):∃ s a n c,w.cell? ⟨B,0,none⟩=some (.bool s)/\w.cell? ⟨B,1,none⟩=some (.slice a n c)/\w.cell? ⟨B,2,none⟩=some vP/\w.cell? ⟨B,3,none⟩=some vR/\w.cell? ⟨B,4,none⟩=some (.int .i64 b) /\
  w.frozen? ⟨B,2,none⟩=false/\w.frozen? ⟨B,3,none⟩=false/\It w (Qlv s a n c) N:=by
 obtain⟨s,a,n,c,h1,h2⟩:=h.hb;exact⟨s,a,n,c,by simp[World.cell?,h1],by simp[World.cell?,h1],by simp[World.cell?,h1],by simp[World.cell?,h1],by simp[World.cell?,h1],by simp[World.frozen?,h1],by simp[World.frozen?,h1],h2⟩
theorem BuT.setP {w1:World} {vP':Value} {P':List (Int×Int)} (h:BuT T w B vP vR N P R b) (hb:ButS (fun k=>vP.ownBlock=some k) w w1) (hP:So eP w1 0 vP' P') (hg:∀ g,vP'.ownBlock=some g->vP.ownBlock=some g\/g=w.heap.size) :
  BuT T (w1.setCell ⟨B,2,none⟩ vP') B vP' vR N P' R b/\ButS (YB B vP vR) w (w1.setCell ⟨B,2,none⟩ vP')/\∀ k,YB B vP' vR k->YB B vP vR k\/w.heap.size<=k:=by
 have aD:=h.lt;have hS:∀ g,vP.ownBlock=some g->NoW w g:=h.hP.nw;obtain⟨s,a,n,c,h1,h2⟩:=h.hb;have k1:w1.heap[B]? = some (.cells #[.bool s,.slice a n c,vP,vR,.int .i64 b] T (0,0)):=(hb.block B aD h.d2).trans h1;have k2:=h2.fr hb hS;have aE:=h.hR.fr hb hS (fun g hg=>fun e=>h.d1 g e hg);have nB:NoW w1 B:=(h.nw B (.inl rfl)).fr hb aD h.d2;have aA:=ButS.set w1 B 2 vP'
 have aC:vP'.ownBlock≠some B:=fun e=>by
  rcases hg B e with h'|h'
  ·exact h.d2 h'
  ·omega
 have aB:∀ g,g=B->NoW w1 g:=fun g hg=>by rw[hg];exact nB
 refine⟨⟨⟨s,a,n,c,?_,k2.fr aA aB⟩,hP.fr aA aB (fun g hg e=>aC (by rw[<- e];exact hg)),aE.fr aA aB (fun g hg e=>h.d3 (by rw[<- e];exact hg)),fun g hgv e=>?_,aC,h.d3⟩,?_,?_⟩
 ·simp[World.setCell,Array.getElem?_modify,k1]
 ·rcases hg g hgv with h'|h'
  ·exact h.d1 g h' e
  ·have:=(h.hR.lt g e).2;omega
 ·exact(hb.mono (fun k _ hk=>.inr (.inl hk))).step aA (fun i hi=>.inl (.inl hi))
 ·rintro k (rfl|hk|hk)
  ·exact .inl (.inl rfl)
  ·rcases hg k hk with h'|h'
   ·exact .inl (.inr (.inl h'))
   ·exact .inr (by omega)
  ·exact .inl (.inr (.inr hk))
theorem BuT.setR {w1:World} {vR':Value} {R':List (Int×Int)} (h:BuT T w B vP vR N P R b) (hb:ButS (fun k=>vR.ownBlock=some k) w w1) (hR:So eP w1 0 vR' R') (hg:∀ g,vR'.ownBlock=some g->vR.ownBlock=some g\/g=w.heap.size) :
  BuT T (w1.setCell ⟨B,3,none⟩ vR') B vP vR' N P R' b/\ButS (YB B vP vR) w (w1.setCell ⟨B,3,none⟩ vR')/\∀ k,YB B vP vR' k->YB B vP vR k\/w.heap.size<=k:=by
 have aD:=h.lt;have hS:∀ g,vR.ownBlock=some g->NoW w g:=h.hR.nw;obtain⟨s,a,n,c,h1,h2⟩:=h.hb;have k1:w1.heap[B]? = some (.cells #[.bool s,.slice a n c,vP,vR,.int .i64 b] T (0,0)):=(hb.block B aD h.d3).trans h1;have k2:=h2.fr hb hS;have aE:=h.hP.fr hb hS (fun g hg=>h.d1 g hg);have nB:NoW w1 B:=(h.nw B (.inl rfl)).fr hb aD h.d3;have aA:=ButS.set w1 B 3 vR'
 have aC:vR'.ownBlock≠some B:=fun e=>by
  rcases hg B e with h'|h'
  ·exact h.d3 h'
  ·omega
 have aB:∀ g,g=B->NoW w1 g:=fun g hg=>by rw[hg];exact nB
 refine⟨⟨⟨s,a,n,c,?_,k2.fr aA aB⟩,aE.fr aA aB (fun g hg e=>h.d2 (by rw[<- e];exact hg)),hR.fr aA aB (fun g hg e=>aC (by rw[<- e];exact hg)),fun g hgv e=>?_,h.d2,aC⟩,?_,?_⟩
 ·simp[World.setCell,Array.getElem?_modify,k1]
 ·rcases hg g e with h'|h'
  ·exact h.d1 g hgv h'
  ·have:=(h.hP.lt g hgv).2;omega
 ·exact(hb.mono (fun k _ hk=>.inr (.inr hk))).step aA (fun i hi=>.inl (.inl hi))
 ·rintro k (rfl|hk|hk)
  ·exact .inl (.inl rfl)
  ·exact .inl (.inr (.inl hk))
  ·rcases hg k hk with h'|h'
   ·exact .inl (.inr (.inr h'))
   ·exact .inr (by omega)
end
theorem QcP {w:World} {B:Nat} {vP vR:Value} {N:Int} {P R:List (Int×Int)} {b:Int} (h:Bu w B vP vR N P R b) (s:Bool) (a:Option Addr) (n c:Nat) (x k:Int) (hx:It w (Qlv s a n c) x) (hl:P.length<1099511627776) :
  Calls Tryz.prog 176 #[.pointer (some ⟨B,0,none⟩),.agg #[.bool s,.slice a n c,.int .i64 k]] w fun e w'=>
   e=.returned (.tuple #[])/\∃ vP',Bu w' B vP' vR N (P++[(x,k)]) R b/\ButS (YB B vP vR) w w'/\∀ k,YB B vP' vR k->YB B vP vR k\/w.heap.size<=k:=by
 go_enter Tryz.func176,Tryz.ntmps176
 go_upto_region 1 with fail;have aL:=h.lt;have hB:=h.alloc (.cells #[.bool s,.slice a n c,.int .i64 k] 147);have hX:=hx.alloc (.cells #[.bool s,.slice a n c,.int .i64 k] 147);have hD:=Zk1 w (.cells #[.bool s,.slice a n c,.int .i64 k] 147);have hW:=Qc w (.cells #[.bool s,.slice a n c,.int .i64 k] 147);generalize w.alloc (.cells #[.bool s,.slice a n c,.int .i64 k] 147)=W at *;have x0:W.cell? ⟨w.heap.size,0,none⟩=some (.bool s):=by simp[World.cell?,hD]
 have x1:W.cell? ⟨w.heap.size,1,none⟩=some (.slice a n c):=by simp[World.cell?,hD]
 have x2:W.cell? ⟨w.heap.size,2,none⟩=some (.int .i64 k):=by simp[World.cell?,hD]
 obtain⟨s1,a1,n1,c1,b0,b1,b2,b3,b4,f2,f3,hN⟩:=hB.cells;refine QaT (by kernel_rfl) [8] (S:=fun w'=>w'.cell? ⟨B,2,none⟩=some vP/\w'.cell? ⟨w.heap.size,0,none⟩=some (.bool s)/\w'.cell? ⟨w.heap.size,1,none⟩=some (.slice a n c)/\w'.cell? ⟨w.heap.size,2,none⟩=some (.int .i64 k)) ⟨b2,x0,x1,x2⟩ (fun aA=>?_);refine pL 0 rfl ?_;refine pL 1 rfl ?_;refine pL 2 rfl ?_;refine pL 3 rfl ?_;refine pL 4 rfl ?_;refine kL 5 rfl ?_;refine kL 6 rfl ?_;(refine oL 7 rfl fun K hK=>tL ?_;go_simp);have aB:=hB.drew.alloc (.cells #[.bool s,.slice a n c,.int .i64 k] 147);have aI:=hX.drew.alloc (.cells #[.bool s,.slice a n c,.int .i64 k] 147);have aK:=Zk1 W.drew (.cells #[.bool s,.slice a n c,.int .i64 k] 147);have aJ:=(Qc W.drew (.cells #[.bool s,.slice a n c,.int .i64 k] 147));(go_wp2_with fail;clear aA;refine nxL hK ⟨QbE (Qa7 b2) _,QbE (Qa7 x0) _,QbE (Qa7 x1) _,QbE (Qa7 x2) _⟩ fun aA=>tL ?_;clear hK);have aG:Sc eP (W.drew.alloc (.cells #[.bool s,.slice a n c,.int .i64 k] 147)) W.drew.heap.size 0 [(x,k)]:=Sc.one aK ⟨s,a,n,c,rfl,aI⟩;refine Qbh (i:=8) (by as_aux_lemma=>kernel_rfl) rfl (fun K hK=>?_);refine QbX (E:=eP) (by rfl) (.tmp 9) (.tmp 11) _ (by rfl) Tryz.underlying144 0 vP P [(x,k)] (by rfl) aB.hP (Nat.zero_le _) W.drew.heap.size 0 1 1 (by rfl) rfl aG (by omega) (by omega) ?_;intro g aO w3 h3 aC aH
 obtain⟨q1,q2,q3⟩:=aB.setP aC h3 (fun g' hg'=>by
  have:g'=g:=by simp[Value.ownBlock] at hg';exact hg'.symm
  subst this;exact aH)
 have aD:=aB.lt;refine hK.out _ _ nzz ?_;clear hK aA;refine tL ?_;refine pL 9 rfl ?_;refine pL 10 rfl ?_;refine pL 11 rfl ?_
 have aM:w3.frozen? ⟨B,2,none⟩=false:=by
  obtain⟨_,_,_,_,_,_,_,_,_,f,_,_⟩:=aB.cells;exact Yl aC aD aB.d2 f
 have aE:∃ u,w3.cell? ⟨B,2,none⟩=some u:=by
  obtain⟨_,_,_,_,_,_,f,_⟩:=aB.cells;exact⟨_,Yc aC aD aB.d2 f⟩
 obtain⟨u3,aE⟩:=aE;(refine oL 12 rfl fun K hK=>tL ?_;go_simp);(go_wp2_with fail;refine xL hK (tL ?_);clear hK);refine dT ?_;go_wp2_with fail;have hz:=hW.size;have aF:=hW.trans ((((Below.refl _ W).drew).trans aJ).mono hz);exact bodyPost_end (results_none rfl _ _ _) rfl ⟨rfl,_,q1,(ButS.of aF _).trans q2,fun k hk=>(q3 k hk).imp id (fun h=>by have:=aF.size;omega)⟩
def BuO (w:World) (B:Nat) (vP vR:Value) (N:Int) (P R:List (Int×Int)) (b x k:Int):Prop:=
 (x<(b+1)*(b+1)->Bu w B vP vR N (P++[(x,k)]) R b)/\(¬ x<(b+1)*(b+1)->Bu w B vP vR N P (R++[(x,k)]) b)
theorem Qh7 {w:World} {B:Nat} {vP vR:Value} {N:Int} {P R:List (Int×Int)} {b:Int} (h:Bu w B vP vR N P R b) (s:Bool) (a:Option Addr) (n c:Nat) (x k:Int) (hx:It w (Qlv s a n c) x) (hsx:sz x<=1099511627776) (hl:P.length<1099511627776) (hr:R.length<1099511627776) (hb0:0<=b) (hb1:b<=65536) :
  Calls Tryz.prog 178 #[.pointer (some ⟨B,0,none⟩),.agg #[.bool s,.slice a n c,.int .i64 k]] w fun e w'=>
   e=.returned (.tuple #[])/\∃ vP' vR',BuO w' B vP' vR' N P R b x k/\ButS (YB B vP vR) w w'/\∀ k,YB B vP' vR' k->YB B vP vR k\/w.heap.size<=k:=by
 go_enter Tryz.func178,Tryz.ntmps178
 go_upto_region 1 with fail;have bA:=h.lt;have hB:=h.alloc (.cells #[.bool s,.slice a n c,.int .i64 k] 147);have hX:=hx.alloc (.cells #[.bool s,.slice a n c,.int .i64 k] 147);have hD:=Zk1 w (.cells #[.bool s,.slice a n c,.int .i64 k] 147);have hW:=Qc w (.cells #[.bool s,.slice a n c,.int .i64 k] 147);generalize w.alloc (.cells #[.bool s,.slice a n c,.int .i64 k] 147)=W at *;have x0:W.cell? ⟨w.heap.size,0,none⟩=some (.bool s):=by simp[World.cell?,hD]
 have x1:W.cell? ⟨w.heap.size,1,none⟩=some (.slice a n c):=by simp[World.cell?,hD]
 have x2:W.cell? ⟨w.heap.size,2,none⟩=some (.int .i64 k):=by simp[World.cell?,hD]
 obtain⟨s1,a1,n1,c1,b0,b1,b2,b3,b4,f2,f3,hN⟩:=hB.cells;have i1 : -9223372036854775808<=b+1:=by omega
 have i2:b+1<=9223372036854775807:=by omega
 have aS : sz (b + 1) ≤ 4 := Qf (by have : (b + 1).natAbs ≤ 65537 := by omega
                                    exact Nat.lt_of_le_of_lt this (by decide))
 have aE:sz ((b+1)*(b+1))<=2199023255552:=Qt (QM _ _) (by omega);have hz:=hW.size;have a6:=Qh hB;have a2:=Qh hW;have a9:=Qh hx;clear hB hW hx hN b0 b1 b2 b3 f2 f3;have ib:IntKind.i64.wrap (b+1)=b+1:=IntWalk.i64_in _ (by omega)
 go_region_held3 (fun w'=>w'.cell? ⟨w.heap.size,0,none⟩=some (.bool s)/\w'.cell? ⟨w.heap.size,1,none⟩=some (.slice a n c)/\w'.cell? ⟨w.heap.size,2,none⟩=some (.int .i64 k)/\w'.cell? ⟨B,4,none⟩=some (.int .i64 b))
  ((repeat' (first|with_reducible assumption|(with_reducible refine And.intro ?_ ?_)|(with_reducible refine Qa7 ?_)|(with_reducible refine QbE ?_ _)|(with_reducible refine Qdg ?_ (by omega))|(with_reducible refine QaD (by with_reducible assumption) ?_))))
  (first
   | (go_at_call 175;with_reducible (refine(Qce (b+1) _ (by exact i1) (by exact i2)).mono ?_);rintro e w2 ⟨r,rfl,aR,aK⟩;obtain⟨bF,bC⟩:=QcT aK;have z2:=aK.size;(try simp only[Zk2,World.size_drew,World.size_setCell] at z2);(try have y2:=Nat.lt_of_succ_le z2);(try have x2:=Nat.lt_of_succ_le (Nat.le_of_succ_le z2));obtain⟨s3,a3,n3,c3,rfl⟩:=aR.shape)
   | (go_at_call 57;with_reducible (refine(Qbm _ _ (b+1) (b+1) _ (by exact QbY) (by exact QbY) (by exact Qt aS (by decide)) (by exact Qt aS (by decide))).mono ?_);rintro e w3 ⟨r,rfl,aQ,aJ⟩;obtain⟨aF,aY⟩:=QcT aJ;have z3:=aJ.size;(try simp only[Zk2,World.size_drew,World.size_setCell] at z3);(try have y3:=Nat.lt_of_succ_le z3);(try have x3:=Nat.lt_of_succ_le (Nat.le_of_succ_le z3));obtain⟨s4,a4,n4,c4,rfl⟩:=aQ.shape)
   | (go_at_call 110;with_reducible (refine(Qbz _ _ x ((b+1)*(b+1)) _ (by exact QbY) (by exact QbY) (by exact Qt hsx (by decide)) (by exact aE)).mono ?_);rintro e w4 ⟨rfl,aI⟩;obtain⟨bE,bB⟩:=QcT aI;have z4:=aI.size;(try simp only[Zk2,World.size_drew,World.size_setCell] at z4);(try have y4:=Nat.lt_of_succ_le z4);(try have x4:=Nat.lt_of_succ_le (Nat.le_of_succ_le z4))))
 have aC:Below W.heap.size W w4:=by exact QbY
 have aP:=QaD aC x0;have aO:=QaD aC x1;have aM:=QaD aC x2;have aU:=hX.up aC;have aL:=a6.out.up aC;have aG:=Bl.up a2.out aC;have aV:=aG.size
 have hc:(QaW x ((b+1)*(b+1))<0)↔x<(b+1)*(b+1):=by
  unfold QaW;split
  ·constructor <;> intro <;> omega
  ·split <;> constructor <;> intro <;> omega
 have HC:=Qh hc;clear hc;have bD:∀ {W W':World},Below W.heap.size W W'->W.heap.size<=W'.heap.size:=fun h=>h.size;clear hX hD x0 x1 x2 b4 aR aQ aK aJ aI;rcases Classical.em (x<(b+1)*(b+1)) with hlt2|hlt2
 ·have hd:decide (QaW x ((b+1)*(b+1))<0)=true:=by rw[decide_eq_true_iff];exact HC.out.2 hlt2
  have HL:=Qh hlt2;clear hlt2;rw[hd];clear hd HC;go_wp2_with fail;refine(QcP aL s a n c x k aU hl).mono ?_;rintro e w5 ⟨rfl,vP',q1,q2,q3⟩;go_wp2_with fail;exact bodyPost_ret (results_none rfl _ _ _) rfl ⟨rfl,_,_,⟨fun _=>q1,fun h=>absurd HL.out h⟩,(ButS.of aG _).trans q2,fun k hk=>(q3 k hk).imp id (fun h=>by omega)⟩
 ·have hd:decide (QaW x ((b+1)*(b+1))<0)=false:=by rw[decide_eq_false_iff_not];exact fun h=>hlt2 (HC.out.1 h)
  have HL:=Qh hlt2;clear hlt2;rw[hd];clear hd HC;obtain⟨a7,bI,a8,bH,b0,b1,b2,b3,b4,f2,f3,hN⟩:=aL.cells;clear b0 b1 b2 b4 f2 hN;go_upto_region 3 with fail;refine QaT (by kernel_rfl) [8] (S:=fun w'=>w'.cell? ⟨B,3,none⟩=some vR/\w'.cell? ⟨w.heap.size,0,none⟩=some (.bool s)/\w'.cell? ⟨w.heap.size,1,none⟩=some (.slice a n c)/\w'.cell? ⟨w.heap.size,2,none⟩=some (.int .i64 k)) ⟨b3,aP,aO,aM⟩ (fun aA=>?_);refine pL 0 rfl ?_;refine pL 1 rfl ?_;refine pL 2 rfl ?_;refine pL 3 rfl ?_;refine pL 4 rfl ?_;refine kL 5 rfl ?_;refine kL 6 rfl ?_;(refine oL 7 rfl fun K hK=>tL ?_;go_simp);have aB:=aL.drew.alloc (.cells #[.bool s,.slice a n c,.int .i64 k] 147);have aZ:=aU.drew.alloc (.cells #[.bool s,.slice a n c,.int .i64 k] 147);have a5:=Zk1 w4.drew (.cells #[.bool s,.slice a n c,.int .i64 k] 147);have a0:=(Qc w4.drew (.cells #[.bool s,.slice a n c,.int .i64 k] 147));(go_wp2_with fail;clear aA;refine nxL hK ⟨QbE (Qa7 b3) _,QbE (Qa7 aP) _,QbE (Qa7 aO) _,QbE (Qa7 aM) _⟩ fun aA=>tL ?_;clear hK);have aW:Sc eP (w4.drew.alloc (.cells #[.bool s,.slice a n c,.int .i64 k] 147)) w4.drew.heap.size 0 [(x,k)]:=Sc.one a5 ⟨s,a,n,c,rfl,aZ⟩;refine Qbh (i:=8) (by as_aux_lemma=>kernel_rfl) rfl (fun K hK=>?_);refine QbX (E:=eP) (by rfl) (.tmp 31) (.tmp 33) _ (by rfl) Tryz.underlying144 0 vR R [(x,k)] (by rfl) aB.hR (Nat.zero_le _) w4.drew.heap.size 0 1 1 (by rfl) rfl aW (by omega) (by omega) ?_;intro g bG w5 h5 aH aX
  obtain⟨q1,q2,q3⟩:=aB.setR aH h5 (fun g' hg'=>by
   have:g'=g:=by simp[Value.ownBlock] at hg';exact hg'.symm
   subst this;exact aX)
  have aT:=aB.lt;refine hK.out _ _ nzz ?_;clear hK aA;refine tL ?_;refine pL 9 rfl ?_;refine pL 10 rfl ?_;refine pL 11 rfl ?_
  have aY:w5.frozen? ⟨B,3,none⟩=false:=by
   obtain⟨_,_,_,_,_,_,_,_,_,_,f,_⟩:=aB.cells;exact Yl aH aT aB.d3 f
  have aF:∃ u,w5.cell? ⟨B,3,none⟩=some u:=by
   obtain⟨_,_,_,_,_,_,_,f,_⟩:=aB.cells;exact⟨_,Yc aH aT aB.d3 f⟩
  obtain⟨u3,aF⟩:=aF;(refine oL 12 rfl fun K hK=>tL ?_;go_simp);(go_wp2_with fail;refine xL hK (tL ?_);clear hK);refine dT ?_;go_wp2_with fail;have aD:=aG.trans ((((Below.refl _ w4).drew).trans a0).mono aV);exact bodyPost_end (results_none rfl _ _ _) rfl ⟨rfl,_,_,⟨fun h=>absurd h (by first|exact HL.out|exact Int.not_lt.2 HL.out),fun _=>q1⟩,(ButS.of aD _).trans q2,fun k hk=>(q3 k hk).imp id (fun h=>by have:=aD.size;omega)⟩
open Go.RowKit Go.Sort
def Gr (w w':World):Prop:=∃ q os,w'=grow (w.drewN q) os
theorem Gr.refl (w:World):Gr w w:=⟨0,#[],by simp[grow,World.drewN]⟩
theorem Gr.drewN {w w':World} (h:Gr w w') (k:Nat):Gr w (w'.drewN k):=by
 obtain⟨q,os,rfl⟩:=h;exact⟨q+k,os,by simp[grow,World.drewN,Nat.add_assoc]⟩
theorem Gr.drew {w w':World} (h:Gr w w'):Gr w w'.drew:=h.drewN 1
theorem Gr.alloc {w w':World} (h:Gr w w') (o:Obj):Gr w (w'.alloc o):=by
 obtain⟨q,os,rfl⟩:=h;exact⟨q,os ++ #[o],by rw[alloc_eq_grow,grow_grow]⟩
theorem Gr.trans {a b c:World} (h:Gr a b) (k:Gr b c):Gr a c:=by
 obtain⟨q,os,rfl⟩:=h;obtain⟨q',aA,rfl⟩:=k;exact⟨q+q',os++aA,by simp[grow,World.drewN,Nat.add_assoc,Array.append_assoc]⟩
theorem Gr.below {w w':World} (h:Gr w w'):Below w.heap.size w w':=by
 obtain⟨q,os,rfl⟩:=h;refine⟨rfl,rfl,rfl,by simp[grow,World.drewN],fun k hk=>?_⟩;simp only[grow,World.drewN];rw[Array.getElem?_append_left hk]
theorem Qfm (va:Value) (x:Int) (w:World) (hx:It w va x) :
  Calls Tryz.prog 58 #[va] w fun e w'=>e=.returned (.int .i64 (QaW x 0))/\Gr w w':=by
 obtain⟨a,aA,f,rfl,h1,h2,h3,h4,h5⟩:=hx.parts;rcases Int.lt_trichotomy x 0 with h|h|h
 ·have hz:((sz x:Int) == 0)=false:=by rw[beq_eq_false_iff_ne];have:=mt QbF.1 (show x≠0 by omega);omega
  have hd:decide (x<0)=true:=by simpa using h
  go_enter Tryz.func58,Tryz.ntmps58
  go_wp2_with fail;go_ret
  exact⟨Qa2 (by rw[Qbb h];rfl),(Gr.refl _).alloc _⟩
 ·subst h;have hz:sz 0=0:=rfl;rw[hz];clear hz;go_enter Tryz.func58,Tryz.ntmps58
  go_wp2_with fail;go_ret
  exact⟨Qa2 (by rw[Qbx rfl];rfl),(Gr.refl _).alloc _⟩
 ·have hz:((sz x:Int) == 0)=false:=by rw[beq_eq_false_iff_ne];have:=mt QbF.1 (show x≠0 by omega);omega
  have hd:decide (x<0)=false:=by simp;omega
  go_enter Tryz.func58,Tryz.ntmps58
  go_wp2_with fail;go_ret
  exact⟨Qa2 (by rw[Qbc h];rfl),(Gr.refl _).alloc _⟩
theorem Qjq (va vb:Value) (x y:Int) (w:World) (hx:It w va x) (hy:It w vb y) (hsx:sz x<=2199023255552) (hsy:sz y<=2199023255552) :
  Calls Tryz.prog 110 #[va,vb] w fun e w'=>e=.returned (.int .i64 (QaW x y))/\Gr w w':=by
 obtain⟨a,ca,f,rfl,h1,h2,h3,h4,h5⟩:=hx.parts;obtain⟨b,cb,g,rfl,k1,k2,k3,k4,k5⟩:=hy.parts;have H5:=Qh h5;have K5:=Qh k5;clear h5 k5;obtain⟨W,hW,hw,d1,d2,n1,n2,-⟩:=Qcu w (decide (x<0)) (decide (y<0)) a b (sz x) (sz y) ca cb 33;have hG:Gr w W:=by rw[hW];exact((Gr.refl w).alloc _).alloc _
 replace hx:=hx.up hw;replace hy:=hy.up hw;replace h2:=h2.up hw;replace k2:=k2.up hw;have p1:=d1.c0;have q1:=d2.c0;by_cases hs:(decide (x<0) == decide (y<0))=false
 ·have HS:=Qh hs;go_enter Tryz.func110,Tryz.ntmps110
  go_wp2_with fail;rw[<- hW];clear hW;clear p1 q1;replace hw:=hw.drew;replace hG:=hG.drew;replace d1:=d1.drew;replace d2:=d2.drew;replace hx:=hx.drew;replace hy:=hy.drew;replace h2:=h2.drew;replace k2:=k2.drew
  go_region_held3 (fun w'=>w'.cell? ⟨w.heap.size,0,none⟩=some (.bool (decide (x<0)))/\w'.cell? ⟨w.heap.size,1,none⟩=some (.slice a (sz x) ca)/\w'.cell? ⟨w.heap.size+1,0,none⟩=some (.bool (decide (y<0)))/\w'.cell? ⟨w.heap.size+1,1,none⟩=some (.slice b (sz y) cb))
   (first|exact⟨d1.c0,d1.c1,d2.c0,d2.c1⟩|exact⟨((d1.other (by omega) _ _).other (by omega) _ _).c0,((d1.other (by omega) _ _).other (by omega) _ _).c1,((d2.other (by omega) _ _).other (by omega) _ _).c0,((d2.other (by omega) _ _).other (by omega) _ _).c1⟩|exact⟨(d1.up (Qc _ _)).c0,(d1.up (Qc _ _)).c1,(d2.up (Qc _ _)).c0,(d2.up (Qc _ _)).c1⟩|(go_keep;done)|(refine⟨?_,?_,?_,?_⟩ <;> (go_keep;done)))
   (first
    | (go_at_call 58;with_reducible (refine(Qfm _ x _ hx).mono ?_);rintro e w1 ⟨rfl,hg⟩;have hb:=hg.below;replace hG:=hG.trans hg;clear hg;replace d1:=d1.up hb;replace d2:=d2.up hb;replace hx:=hx.up hb;replace hy:=hy.up hb;replace hw:=hw.trans (hb.mono hw.size);clear hb)
    | (go_at_call 58;with_reducible (refine(Qfm _ y _ hy).mono ?_);rintro e w1 ⟨rfl,hg⟩;have hb:=hg.below;replace hG:=hG.trans hg;clear hg;replace d1:=d1.up hb;replace d2:=d2.up hb;replace hx:=hx.up hb;replace hy:=hy.up hb;replace hw:=hw.trans (hb.mono hw.size);clear hb)
    | (go_at_call 161;refine(QbK _ _ _).mono ?_;rintro e w1 ⟨rfl,rfl⟩))
  all_goals (go_wp2_with fail;go_ret;exact⟨Qa2 (by rw[<- QeG x y HS.out];rfl),hG⟩)
 ·have aD:(decide (x<0) == decide (y<0))=true:=by simpa using hs
  have HS:=Qh aD;clear hs;have aC:=QbU x 0;have he:=QfE x y f g _ _ H5.out K5.out HS.out;have aA:=QbU x y;rw[<- he] at aA;have aF:=aA.1;have aE:=aA.2;have HE:=Qh he;clear aA he;go_enter Tryz.func110,Tryz.ntmps110
  go_wp2_with fail;rw[<- hW];clear hW;clear p1 q1;replace hw:=hw.drew;replace hG:=hG.drew;replace d1:=d1.drew;replace d2:=d2.drew;replace hx:=hx.drew;replace hy:=hy.drew;replace h2:=h2.drew;replace k2:=k2.drew
  go_region_held3 (fun w'=>w'.cell? ⟨w.heap.size,0,none⟩=some (.bool (decide (x<0)))/\w'.cell? ⟨w.heap.size,1,none⟩=some (.slice a (sz x) ca)/\w'.cell? ⟨w.heap.size+1,1,none⟩=some (.slice b (sz y) cb))
   (first|exact⟨d1.c0,d1.c1,d2.c1⟩|exact⟨((d1.other (by omega) _ _).other (by omega) _ _).c0,((d1.other (by omega) _ _).other (by omega) _ _).c1,((d2.other (by omega) _ _).other (by omega) _ _).c1⟩|exact⟨(d1.up (Qc _ _)).c0,(d1.up (Qc _ _)).c1,(d2.up (Qc _ _)).c1⟩|(go_keep;done)|(refine⟨?_,?_,?_⟩ <;> (go_keep;done)))
   (first
    | (go_at_call 162;refine(Qbw a b (sz x) (sz y) ca cb f g _ (by omega) (by omega) h2 k2 h3 k3 h4 k4).mono ?_;rintro e w5 ⟨rfl,nk,aB⟩;replace hG:=hG.drewN nk;replace hw:=Below.drewN hw nk;replace d1:=d1.drewN nk;replace d2:=d2.drewN nk;replace hx:=hx.drewN nk;rw[<- aB] at hw d1 d2 hx hG;clear aB)
    | (go_at_call 58;refine(Qfm _ x _ hx).mono ?_;rintro e w1 ⟨rfl,hg⟩;have hb:=hg.below;replace hG:=hG.trans hg;clear hg;replace d1:=d1.up hb;replace d2:=d2.up hb;replace hx:=hx.up hb;replace hw:=hw.trans (hb.mono hw.size);clear hb)
    | (go_at_call 163;refine(Qjr _ _ aC.1 aC.2 _ (by simp) (by simp)).mono ?_;rintro e w1 ⟨rfl,rfl⟩))
  all_goals (go_wp2_with fail;go_ret;exact⟨Qa2 (congrArg (Value.int .i64) ((IntWalk.i64_in _ (by omega)).trans HE.out)),hG.alloc _⟩)
theorem Qf8 (s1 s2:Bool) (a1 a2:Option Addr) (n1 n2 c1 c2:Nat) (x y k1 k2:Int) (w:World) (hx:It w (Qlv s1 a1 n1 c1) x) (hy:It w (Qlv s2 a2 n2 c2) y) (hsx:sz x<=2199023255552) (hsy:sz y<=2199023255552) :
  Calls Tryz.prog 217 #[.agg #[.bool s1,.slice a1 n1 c1,.int .i64 k1],.agg #[.bool s2,.slice a2 n2 c2,.int .i64 k2]] w fun e w'=>e=.returned (.int .i64 (QaW x y))/\Gr w w':=by
 go_enter Tryz.func217,Tryz.ntmps217
 go_wp2_with fail;have hG:=((Gr.refl w).alloc (.cells #[.bool s1,.slice a1 n1 c1,.int .i64 k1] 147)).alloc (.cells #[.bool s2,.slice a2 n2 c2,.int .i64 k2] 147);refine(Qjq _ _ x y _ ((hx.alloc _).alloc _) ((hy.alloc _).alloc _) hsx hsy).mono ?_;rintro e w1 ⟨rfl,hg⟩;go_wp2_with fail;go_ret
 exact⟨rfl,hG.trans hg⟩
