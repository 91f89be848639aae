/-
  law29.DescentSolubility: the walk.
-/
import Derived.Test.YteidokhjmbihlaaGreatFZA
import Derived.Test.YteidokhjmbihlaaGreatFN
import Derived.Test.YteidokhjmbihlaaGreatFF
import Derived.Test.YteidokhjmbihlaaGreatDV
import Derived.Test.YteidokhjmbihlaaGreatDW
import Derived.Test.YteidokhjmbihlaaGreatDR
import Derived.Test.YteidokhjmbihlaaGreatDO
import Derived.Test.YteidokhjmbihlaaGreatDQ
import Derived.Test.YteidokhjmbihlaaGreatDC
import Derived.Test.YteidokhjmbihlaaGreatDD
import Derived.Test.YteidokhjmbihlaaGreatDX
import Derived.Test.YteidokhjmbihlaaGreatDI
import Derived.Test.YteidokhjmbihlaaGreatDF
import Derived.Test.YteidokhjmbihlaaGreatDL
import Derived.Test.YteidokhjmbihlaaGreatDT
import Derived.Test.YteidokhjmbihlaaGreatDS
set_option linter.all false
set_option maxRecDepth 100000
set_option maxHeartbeats 8000000
namespace Go.Proofs.YteidokhjmbihlaaGreat
def kyI (m:List Int) (a:Nat):Int:=m.getD a 0
def SoI (m:List Int) (i:Nat):Prop:=∀ a b,a<b->b<i->kyI m a<=kyI m b
def InJ (m:List Int) (i k:Nat):Prop:=(∀ a b,a<b->b<=i->a≠k->b≠k->kyI m a<=kyI m b)/\∀ b,k<b->b<=i->kyI m k<=kyI m b
def swI (m:List Int) (k:Nat):List Int:=(m.set k (m.getD (k-1) 0)).set (k-1) (m.getD k 0)
theorem SoI.ins {m:List Int} {i:Nat} (h:SoI m i):InJ m i i:=⟨fun a b hab hb _ hn=>h a b hab (by omega),fun b h1 h2=>by omega⟩
theorem InJ.done {m:List Int} {i k:Nat} (h:InJ m i k) (hk:k<=i) (he:k=0\/kyI m (k-1)<=kyI m k):SoI m (i+1):=by
 intro a b hab hb;by_cases e1:a=k
 ·subst e1;exact h.2 b hab (by omega)
 ·by_cases e2:b=k
  ·subst e2;rcases he with he|he
   ·omega
   ·by_cases e3:a=b-1
    ·subst e3;exact he
    ·exact Int.le_trans (h.1 a (b-1) (by omega) (by omega) e1 (by omega)) he
  ·exact h.1 a b hab (by omega) e1 e2
theorem QjR (m:List Int) (k:Nat):(swI m k).length=m.length:=by unfold swI;rw[List.length_set,List.length_set]
theorem QiV {m:List Int} {k:Nat} (hk:k<m.length):(swI m k).Perm m:=by
 have h:=@List.set_set_perm _ m k (k-1) hk (by omega);unfold swI;rw[List.getD_eq_getElem?_getD,List.getD_eq_getElem?_getD,List.getElem?_eq_getElem hk,List.getElem?_eq_getElem (by omega:k-1<m.length),Option.getD_some,Option.getD_some];exact h
theorem Qej {m:List Int} {k:Nat} (h0:0<k) (hk:k<m.length) (a:Nat):kyI (swI m k) a=if a=k-1 then kyI m k else if a=k then kyI m (k-1) else kyI m a:=by
 unfold kyI swI;rw[Qaj _ _ _ _ _ (by rw[List.length_set];omega),Qaj _ _ _ _ _ hk]
theorem InJ.step {m:List Int} {i k:Nat} (h:InJ m i k) (h0:0<k) (hk:k<=i) (hi:i<m.length) (hgt:kyI m k<kyI m (k-1)):InJ (swI m k) i (k-1):=by
 have hkm:k<m.length:=by omega
 refine⟨fun a b hab hb n1 n2=>?_,fun b h1 h2=>?_⟩
 ·rw[Qej h0 hkm,Qej h0 hkm,if_neg n1,if_neg n2];by_cases e1:a=k
  ·rw[if_pos e1,if_neg (by omega)];exact h.1 (k-1) b (by omega) hb (by omega) (by omega)
  ·rw[if_neg e1];by_cases e2:b=k
   ·rw[if_pos e2];exact h.1 a (k-1) (by omega) (by omega) e1 (by omega)
   ·rw[if_neg e2];exact h.1 a b hab hb e1 e2
 ·rw[Qej h0 hkm,Qej h0 hkm,if_pos rfl,if_neg (by omega)];by_cases e2:b=k
  ·rw[if_pos e2];omega
  ·rw[if_neg e2];exact h.2 b (by omega) h2
theorem SoI.pw {m:List Int} (h:SoI m m.length):m.Pairwise (· <= ·):=by
 rw[List.pairwise_iff_getElem];intro a b ha hb hab;have:=h a b hab hb;unfold kyI at this;rw[List.getD_eq_getElem?_getD,List.getD_eq_getElem?_getD,List.getElem?_eq_getElem ha,List.getElem?_eq_getElem hb,Option.getD_some,Option.getD_some] at this;exact this
open Go.RowKit
attribute [local go_sem ↓] Go.wp_at_zero Go.wp_at_succ
theorem YH {w:World} {base g n cap:Nat} {l:List Int} (h:So eI w base (.slice (some ⟨g,0,none⟩) n cap) l) {i:Nat} (hi:i<l.length) :
  ∃ s a m c,w.cell? ⟨g,i*2,none⟩=some (.bool s)/\w.cell? ⟨g,i*2+1,none⟩=some (.slice a m c)/\It w (.agg #[.bool s,.slice a m c]) (l.getD i 0) /\
   w.frozen? ⟨g,i*2,none⟩=false/\w.frozen? ⟨g,i*2+1,none⟩=false:=by
 obtain⟨s,a,m,c,p0,p1,hx⟩:=h.sc.int hi;rw[Nat.zero_add] at p0 p1;obtain⟨xs,⟨k1,k2⟩,-⟩:=h;rcases k2 with ⟨e,-⟩|⟨g',cap',cur,e,k3,k4,k5,k6,k7,k8⟩
 ·injection e with e1;cases e1
 injection e with e1 e2 e3;injection e1 with e1;injection e1 with e1;subst e1;exact⟨s,a,m,c,p0,p1,hx,by simp[World.frozen?,k4],by simp[World.frozen?,k4]⟩
theorem So.set2 {w:World} {base g n cap:Nat} {l:List Int} (h:So eI w base (.slice (some ⟨g,0,none⟩) n cap) l) {i:Nat} (hi:i<l.length) {s:Bool} {a:Option Addr} {m c:Nat} {x:Int} (hx:It w (.agg #[.bool s,.slice a m c]) x) :
  So eI ((w.setCell ⟨g,i*2,none⟩ (.bool s)).setCell ⟨g,i*2+1,none⟩ (.slice a m c)) base (.slice (some ⟨g,0,none⟩) n cap) (l.set i x)/\ButS (fun k=>k=g) w ((w.setCell ⟨g,i*2,none⟩ (.bool s)).setCell ⟨g,i*2+1,none⟩ (.slice a m c)):=
 ⟨h.setE hi (cs:=[.bool s,.slice a m c]) ⟨s,a,m,c,rfl,hx⟩,(ButS.set w g _ _).trans (ButS.set _ g _ _)⟩
theorem Qc0 (g cap base N:Nat) (l:List Int) (w:World) (h:So eI w base (.slice (some ⟨g,0,none⟩) N cap) l) (hNl:l.length=N) (hL:∀ x∈l,sz x<=1099511627776) (hN:N<=1000000000) (hbs:base<=w.heap.size) :
  Calls Tryz.prog 65 #[.slice (some ⟨g,0,none⟩) N cap] w fun e w'=>∃ m,e=.returned (.slice (some ⟨g,0,none⟩) N cap)/\So eI w' base (.slice (some ⟨g,0,none⟩) N cap) m/\m.Perm l/\m.Pairwise (· <= ·)/\Below base w w':=by
 have hg:base<=g:=(h.lt g rfl).1;have HNL:=Qh hNl;have HS1:=Qh h;have HL:=Qh hL;have HBS:=Qh hbs;clear hNl h hL hbs;go_enter Tryz.func65,Tryz.ntmps65
 go_wp2_with fail
 go_loopw [3,4,5] (fun s3 s4 s5 wr=>∃ (i:Nat) (m:List Int),s3=.int .i64 (i:Int)/\1<=i/\(i<=N\/i=1)/\m.length=N/\m.Perm l/\SoI m i/\So eI wr base (.slice (some ⟨g,0,none⟩) N cap) m/\Below base w wr)
  (fun s3 _ _ _=>N-(intOf s3).toNat)
 case atStart=>exact⟨1,l,rfl,Nat.le_refl _,.inr rfl,HNL.out,List.Perm.refl _,fun a b _ _=>by omega,HS1.out,(Below.refl _ _).mono HBS.out⟩
 case round=>
  obtain⟨i,m,rfl,hi1,hi2,hlm,hpm,hso,hS,hBl⟩:=hrel;by_cases hlt:i<N
  ·have i1:(i:Int)<(N:Int):=by omega
   have HSO:=Qh hso;have HPM:=Qh hpm;have HLM:=Qh hlm;have HSI:=Qh hS;have HBI:=Qh hBl;clear hso hpm hlm hS hBl;go_wp2_with fail
   go_loopw [4,5] (fun s4 s5 wq=>∃ (k:Nat) (q:List Int),s4=.int .i64 (k:Int)/\k<=i/\q.length=N/\q.Perm l/\InJ q i k/\So eI wq base (.slice (some ⟨g,0,none⟩) N cap) q/\Below base w wq)
    (fun s4 _ _=>(intOf s4).toNat)
   case atStart=>exact⟨i,m,rfl,Nat.le_refl _,HLM.out,HPM.out,HSO.out.ins,HSI.out,HBI.out⟩
   case round=>
    obtain⟨k,q,rfl,hk,hlq,hpq,hin,hS,hBl⟩:=hrel;clear HSO HPM HLM HSI HBI;have HIN:=Qh hin;have HPQ:=Qh hpq;clear hin hpq;by_cases hk0:0<k
    ·obtain⟨j,rfl⟩:∃ j,k=j+1:=⟨k-1,by omega⟩;obtain⟨s1,a1,n1,c1,p0,p1,hx,f0,f1⟩:=YH hS (i:=j) (by omega);obtain⟨s2,a2,n2,c2,q0,q1,hy,g0,g1⟩:=YH hS (i:=j+1) (by omega);have hszx:sz (q.getD j 0)<=1099511627776:=HL.out _ (HPQ.out.mem_iff.1 (by rw[List.getD_eq_getElem?_getD,List.getElem?_eq_getElem (by omega)];exact List.getElem_mem _));have hszy:sz (q.getD (j+1) 0)<=1099511627776:=HL.out _ (HPQ.out.mem_iff.1 (by rw[List.getD_eq_getElem?_getD,List.getElem?_eq_getElem (by omega)];exact List.getElem_mem _));obtain⟨x,hx0⟩:∃ x,q.getD j 0=x:=⟨_,rfl⟩;obtain⟨y,hy0⟩:∃ y,q.getD (j+1) 0=y:=⟨_,rfl⟩;rw[hx0] at hx hszx;rw[hy0] at hy hszy;have HX:=Qh hx0;have HY:=Qh hy0;have HS:=Qh hS;have HB:=Qh hBl;have HLQ:=Qh hlq;clear hx0 hy0 hS hBl hlq;have j0:(j:Int)+1>0:=by omega
     have j2:(j:Int)<(N:Int):=by omega
     have j3:(j:Int)+1<(N:Int):=by omega
     have j4:(0:Int)<=(j:Int):=by omega
     have j5:(0:Int)<=(j:Int)+1:=by omega
     have w1:IntKind.i64.wrap (j:Int)=(j:Int):=by rw[IntKind.wrap_i64];omega
     go_upto_region 5 with fail;refine Qc (by kernel_rfl) [] (S:=fun w'=>w'.cell? ⟨g,j*2,none⟩=some (.bool s1)/\w'.cell? ⟨g,j*2+1,none⟩=some (.slice a1 n1 c1)/\w'.cell? ⟨g,(j+1)*2,none⟩=some (.bool s2)/\w'.cell? ⟨g,(j+1)*2+1,none⟩=some (.slice a2 n2 c2)) ⟨p0,p1,q0,q1⟩ (fun hHeld=>?_);(refine kL 0 rfl ?_;refine kL 1 rfl ?_;refine kL 2 rfl ?_;refine kL 3 rfl ?_;refine kL 4 rfl ?_;refine kL 5 rfl ?_;refine kL 6 rfl ?_;refine kL 7 rfl ?_;refine kL 8 rfl ?_;refine kL 9 rfl ?_;refine kL 10 rfl ?_;refine kL 11 rfl ?_)
     (refine oL 12 rfl fun K hK=>tL ?_;go_simp);refine(Qb8 _ _ x y _ hx.drew hy.drew (Qt hszx (by decide)) (Qt hszy (by decide))).mono ?_;rintro e w2 ⟨rfl,hb2⟩;have HS2:=Qh ((HS.out.drew).up hb2);have HB2:=Qh (HB.out.trans ((Bl.up (Below.refl _ _).drew hb2).mono (Qt HBS.out HB.out.size)));(go_wp2_with fail;clear hHeld;refine nxL hK ⟨Qb hb2 (Qy p0),Qb hb2 (Qy p1),Qb hb2 (Qy q0),Qb hb2 (Qy q1)⟩ fun hHeld=>tL ?_;clear hK);(refine kL 13 rfl ?_;refine kL 14 rfl ?_)
     refine dT ?_;clear hHeld p0 p1 q0 q1 f0 f1 g0 g1 hb2 hx hy HS HB;obtain⟨s1,a1,n1,c1,p0,p1,hx,f0,f1⟩:=YH HS2.out (i:=j) (by rw[HLQ.out];omega);obtain⟨s2,a2,n2,c2,q0,q1,hy,g0,g1⟩:=YH HS2.out (i:=j+1) (by rw[HLQ.out];omega);rw[HX.out] at hx;rw[HY.out] at hy;by_cases hgt:y<x
     ·have hc:Qg x y>0:=by unfold Qg;split <;> (try split) <;> omega
      have HGT:=Qh hgt;have HX1:=Qh hx;have HY1:=Qh hy;generalize Qg x y=cc at *;clear hgt hx hy;have hD:=heap_alloc_new w2 (.cells #[.bool s2,.slice a2 n2 c2] 33);have hbn:=Qa w2 (.cells #[.bool s2,.slice a2 n2 c2] 33);go_upto_region 8 with fail;clear q0 q1 g0 g1 p0 p1 f0 f1;have HS3:=Qh (HS2.out.up hbn);have HY3:=Qh (HY1.out.alloc (.cells #[.bool s2,.slice a2 n2 c2] 33));have HX3:=Qh (HX1.out.alloc (.cells #[.bool s2,.slice a2 n2 c2] 33));have HB3:=Qh (HB2.out.trans (hbn.mono (Qt HBS.out HB2.out.size)));have hg2:g<w2.heap.size:=(HS2.out.lt g rfl).2;clear hbn HS2 HB2 HX1 HY1;generalize hw3:w2.alloc (.cells #[.bool s2,.slice a2 n2 c2] 33)=w3 at *;clear hw3;obtain⟨s3,a3,n3,c3,p0,p1,hx,f0,f1⟩:=YH HS3.out (i:=j) (by rw[HLQ.out];omega);obtain⟨s4,a4,n4,c4,q0,q1,hy,g0,g1⟩:=YH HS3.out (i:=j+1) (by rw[HLQ.out];omega);rw[HX.out] at hx;rw[HY.out] at hy;have b0:w3.cell? ⟨w2.heap.size,0,none⟩=some (.bool s2):=by simp[World.cell?,hD]
      have b1:w3.cell? ⟨w2.heap.size,1,none⟩=some (.slice a2 n2 c2):=by simp[World.cell?,hD]
      have hne:w2.heap.size≠g:=by omega
      generalize w2.heap.size=Bx at *;have hlt3:Bx<w3.heap.size:=(Ql hD).1;clear hD hg2;have HX4:=Qh hx;clear hx hy;go_upto_region 9 with fail;obtain⟨hS4,hb4⟩:=HS3.out.set2 (i:=j+1) (by rw[HLQ.out];omega) HX4.out;have hn4:∀ g',g'=g->NoW w3 g':=fun g' e=>by rw[e];exact HS3.out.nw g rfl
      have hY4:=HY3.out.fr hb4 hn4;have hB4:=ButS.below HB3.out hb4 (Qt HBS.out HB3.out.size) (fun g' e=>by rw[e];exact hg);replace b0:=YV hb4 hlt3 hne b0;replace b1:=YV hb4 hlt3 hne b1;have HS4:=Qh hS4;have HY4:=Qh hY4;have HB4:=Qh hB4;clear p0 p1 f0 f1 q0 q1 g0 g1 hS4 hb4 hn4 hY4 hB4 HS3 HY3 HB3 HX4 HX3;generalize (w3.setCell ⟨g,(j+1)*2,none⟩ (.bool s3)).setCell ⟨g,(j+1)*2+1,none⟩ (.slice a3 n3 c3)=w4 at *;obtain⟨s5,a5,n5,c5,p0,p1,hx,f0,f1⟩:=YH HS4.out (i:=j) (by rw[List.length_set,HLQ.out];omega);clear hx;go_wp2_with fail;obtain⟨hS5,hb5⟩:=HS4.out.set2 (i:=j) (by rw[List.length_set,HLQ.out];omega) HY4.out;have hB5:=ButS.below HB4.out hb5 (Qt HBS.out HB4.out.size) (fun g' e=>by rw[e];exact hg);have e5:(q.set (j+1) x).set j y=swI q (j+1):=by unfold swI;rw[show j+1-1=j by omega,HX.out,HY.out]
      rw[e5] at hS5;have hjq:j+1<q.length:=by rw[HLQ.out];omega
      refine⟨⟨j,swI q (j+1),by go_num,by omega,by rw[QjR];exact HLQ.out,(QiV hjq).trans HPQ.out,?_,hS5,hB5⟩,by simp[intOf]⟩;refine HIN.out.step (Nat.succ_pos j) hk (by rw[HLQ.out];exact hlt) ?_;unfold kyI;have h1:=HX.out;have h2:=HY.out;rw[h2,show j+1-1=j by omega,h1];exact HGT.out
     ·have hc:¬ Qg x y>0:=by unfold Qg;split <;> (try split) <;> omega
      have HGT:=Qh hgt;generalize Qg x y=cc at *;clear hgt hx hy p0 p1 f0 f1 q0 q1 g0 g1;go_wp2_with fail;refine⟨⟨i+1,q,by go_num,by omega,.inl (by omega),HLQ.out,HPQ.out,HIN.out.done hk (.inr ?_),HS2.out,HB2.out⟩,by simp[intOf];omega⟩;have h1:=HX.out;have h2:=HY.out;have h3:=HGT.out;unfold kyI;rw[h2,show j+1-1=j by omega,h1];omega
    ·obtain rfl:k=0:=by omega
     have HSS:=Qh hS;have HBB:=Qh hBl;clear hS hBl;go_upto_region 5 with fail;refine Qc (by kernel_rfl) [] (S:=fun w'=>True) trivial (fun hHeld=>?_);(refine kL 0 rfl ?_;refine kL 1 rfl ?_;refine kL 2 rfl ?_)
     (refine uL 3 rfl ?_;refine uL 4 rfl ?_;refine uL 5 rfl ?_;refine uL 6 rfl ?_;refine uL 7 rfl ?_;refine uL 8 rfl ?_;refine uL 9 rfl ?_;refine uL 10 rfl ?_;refine uL 11 rfl ?_;refine uL 12 rfl ?_;refine uL 13 rfl ?_)
     refine kL 14 rfl ?_;refine dT ?_;clear hHeld;go_wp2_with fail;refine⟨⟨i+1,q,by go_num,by omega,.inl (by omega),hlq,HPQ.out,HIN.out.done (Nat.zero_le _) (.inl rfl),HSS.out.drew,HBB.out.trans ((Below.refl _ _).drew.mono (Qt HBS.out HBB.out.size))⟩,by simp[intOf];omega⟩
  ·have HS:=Qh hS;have HBl:=Qh hBl;have HPW:=Qh (SoI.pw (m:=m) (by rw[hlm];exact fun a b h1 h2=>hso a b h1 (by omega)));have HPM:=Qh hpm;clear hS hBl hso hpm;go_wp2_with fail;go_ret
   exact⟨m,rfl,HS.out,HPM.out,HPW.out,HBl.out⟩
structure FlK (Y:Nat->Value->World->Prop) (W0:World) (b:Nat->Bool) (x:Nat->Value) (W:World):Prop where
 bl:Below W0.heap.size W0 W
 ok:∀ i,b i=true->Y i (x i) W
theorem FlK.start (Y:Nat->Value->World->Prop) (W0:World) (x:Nat->Value):FlK Y W0 (fun _=>false) x W0:=⟨Below.refl _ _,fun _ h=>nomatch h⟩
theorem FlK.put {Y:Nat->Value->World->Prop} {W0 W W':World} {b:Nat->Bool} {x:Nat->Value} (h:FlK Y W0 b x W) (hY:∀ i v,Kp (Y i v)) {i:Nat} {v:Value} (hb:Below W.heap.size W W') (h0:Y i v W'):FlK Y W0 (QF b i true) (QF x i v) W':=
 ⟨h.bl.trans (hb.mono h.bl.size),fun k hk=>by
  by_cases e:k=i
  ·subst e;rw[Qe];exact h0
  ·rw[Qd _ _ e] at hk |-;exact(hY _ _).up (h.ok k hk) hb⟩
theorem It.shp {w:World} {v:Value} {z:Int} (h:It w v z):∃ p:Bool×Option Addr×Nat×Nat,v=.agg #[.bool p.1,.slice p.2.1 p.2.2.1 p.2.2.2]:=by
 obtain⟨s,a,n,c,e⟩:=h.shape;exact⟨(s,a,n,c),e⟩
theorem QgE:∀ (ps:List Nat) (o:List Int) (y:Int),y∈o->y∈rfI o ps
 | [],_,_,h=>h
 | _ :: ps,o,y,h=>QgE ps _ y (List.mem_append_left _ h)
theorem QjB {n:Nat} {ps:List Nat} (hn:1<=n) (hl:n<1099511627776) (h:Prs n ps):ps.length<=25:=by
 have h1:=Qjy hn h (JV hn);have h2:=Yt (JV hn) hn hl;rcases Nat.lt_or_ge 25 ps.length with e|e
 ·have:=Nat.pow_le_pow_right (show 0<2 by decide) e;have h9:2 ^ (25+1)=67108864:=by decide
  omega
 ·exact e
theorem QhZ {n:Nat} {ps:List Nat} (hn:1<=n) (hl:n<1099511627776) (h:Prs n ps):∀ y∈rfI [1,-1] ps,sz y<=2:=fun y hy=>by
 have hP:∀ p∈ps,Pri p:=fun p h'=>((h.2 p).1 h').1;have h1:=(Qam hP h.1 _).1 (QcK.1 ((Qhn ps 1).mem_iff.1 hy));have h2:=QfR h1.1 h1.2.1 (fun q hq hqd=>((h.2 q).1 (h1.2.2 q hq hqd)).2);exact Qbw (Nat.lt_of_le_of_lt (Nat.le_of_dvd hn h2) hl)
theorem QhF {o:List Int} {p:Int} {k:Nat} (hk:k<o.length):o++(o.take k).map (· * p)++[o.getD k 0*p]=o++(o.take (k+1)).map (· * p):=by
 rw[Qat hk 0,List.map_append,List.append_assoc];rfl
theorem QhT {o l:List Int} {k:Nat} (hk:k<o.length):(o++l).getD k 0=o.getD k 0:=by
 rw[List.getD_eq_getElem?_getD,List.getElem?_append_left hk,<- List.getD_eq_getElem?_getD]
theorem YP (va:Value) (x:Int) (w:World) (hx:It w va x) (h0:x≠0) (hlt:x.natAbs<1099511627776) :
  Calls Tryz.prog 22 #[va] w fun e w'=>∃ v l,e=.returned v/\Sr eI w' v l/\Cand x.natAbs l/\Below w.heap.size w w':=by
 have hsx:=Qbw hlt;obtain⟨W,s1,a1,n1,c1,rfl,hW,b,vX,-,p0,p1,hx'⟩:=Qfa w hx;clear hx;go_enter Tryz.func22,Tryz.ntmps22
 go_upto_region 1 with fail;rw[<- hW];clear hW vX;refine Qc (by kernel_rfl) [] (S:=fun w'=>w'.cell? ⟨w.heap.size,0,none⟩=some (.bool s1)/\w'.cell? ⟨w.heap.size,1,none⟩=some (.slice a1 n1 c1)) ⟨p0,p1⟩ (fun hHeld=>?_);replace b:=Bl.drew b;replace hx':=hx'.drew;replace p0:=Qy p0;replace p1:=Qy p1;generalize W.drew=W1 at *;refine kL 3 rfl ?_;clear hHeld;have HB:=Qh b;have HX:=Qh hx';have HP0:=Qh p0;have HP1:=Qh p1;clear b hx' p0 p1
 have kY:∀ (i:Nat) (v:Value),Kp ((fun i v w'=>(i=0->It w' v 1)/\(i=1->It w' v (-1))/\(i=2->So eI w' w.heap.size v [1,-1])/\(i=4->∃ ps,So e64 w' w.heap.size v (zI ps)/\Prs x.natAbs ps):Nat->Value->World->Prop) i v):=
  fun i v=>⟨fun h hb=>⟨fun e=>(h.1 e).up hb,fun e=>(h.2.1 e).up hb,fun e=>(h.2.2.1 e).up hb,fun e=>by obtain⟨ps,h1,h2⟩:=h.2.2.2 e;exact⟨ps,h1.up hb,h2⟩⟩⟩
 refine Qz [(0,some 8),(1,some 9),(2,some 10),(4,some 12)] 2 (FlK (fun i v w'=>(i=0->It w' v 1)/\(i=1->It w' v (-1))/\(i=2->So eI w' w.heap.size v [1,-1])/\(i=4->∃ ps,So e64 w' w.heap.size v (zI ps)/\Prs x.natAbs ps)) W1) rfl (by kernel_rfl) (by decide) (by kernel_rfl) (by kernel_rfl) (by kernel_rfl) (fun bb xx wz h=>⟨Qb h.bl HP0.out,Qb h.bl HP1.out⟩) (fun xx=>FlK.start _ _ _) ?_ ?_
 ·intro i hi;have hi':i=0\/i=1\/i=2\/i=4:=by simpa using hi
  clear hi;rcases hi' with rfl|rfl|rfl|rfl
  ·refine⟨_,rfl,fun bb xx wz hJ hbf hw K hK=>?_⟩;clear hbf hw;simp only[QE] at hK |-;go_simp;refine(Qn 1 wz (by decide) (by decide)).mono ?_;rintro e w8 ⟨v,rfl,hv,hb⟩;exact hK.out _ _ (hJ.put kY (i:=0) hb ⟨fun _=>hv,fun h=>absurd h (by decide),fun h=>absurd h (by decide),fun h=>absurd h (by decide)⟩)
  ·refine⟨_,rfl,fun bb xx wz hJ hbf hw K hK=>?_⟩;clear hbf hw;simp only[QE] at hK |-;go_simp;refine(Qn (-1) wz (by decide) (by decide)).mono ?_;rintro e w8 ⟨v,rfl,hv,hb⟩;exact hK.out _ _ (hJ.put kY (i:=1) hb ⟨fun h=>absurd h (by decide),fun _=>hv,fun h=>absurd h (by decide),fun h=>absurd h (by decide)⟩)
  ·refine⟨_,rfl,fun bb xx wz hJ hbf hw K hK=>?_⟩;have h0:=(hJ.ok 0 (hw 0 (by kernel_rfl))).1 rfl;have h1:=(hJ.ok 1 (hw 1 (by kernel_rfl))).2.1 rfl;have hp:=Classical.choose_spec h0.shp;have hq:=Classical.choose_spec h1.shp;generalize Classical.choose h0.shp=p at hp;generalize Classical.choose h1.shp=q at hq;rw[show xx 0=_ from hp] at h0;rw[show xx 1=_ from hq] at h1;have HI0:=Qh h0;have HI1:=Qh h1;clear hbf hw h0 h1;simp only[QE,show xx 0=_ from hp,show xx 1=_ from hq] at hK |-;clear hp hq;go_simp;exact hK.out _ _ (hJ.put kY (i:=2) (Qa wz (.cells #[.bool p.1,.slice p.2.1 p.2.2.1 p.2.2.2,.bool q.1,.slice q.2.1 q.2.2.1 q.2.2.2] 33)) ⟨fun h=>absurd h (by decide),fun h=>absurd h (by decide),fun _=>So.ints2 (heap_alloc_new wz (.cells #[.bool p.1,.slice p.2.1 p.2.2.1 p.2.2.2,.bool q.1,.slice q.2.1 q.2.2.1 q.2.2.2] 33)) (Qt HB.out.size hJ.bl.size) (HI0.out.alloc _) (HI1.out.alloc _),fun h=>absurd h (by decide)⟩)
  ·refine⟨_,rfl,fun bb xx wz hJ hbf hw K hK=>?_⟩;clear hbf hw;simp only[QE] at hK |-;go_simp;refine(QdA _ x wz (HX.out.up hJ.bl) h0 hlt).mono ?_;rintro e w8 ⟨v,ps,rfl,hs,-,hp,hb⟩;exact hK.out _ _ (hJ.put kY (i:=4) hb ⟨fun h=>absurd h (by decide),fun h=>absurd h (by decide),fun h=>absurd h (by decide),fun _=>⟨ps,hs.base (Qt HB.out.size hJ.bl.size),hp⟩⟩)
 intro bb xx wz hbb hJ;have h2:=(hJ.ok 2 (hbb 2 (by decide))).2.2.1 rfl;obtain⟨ps,h4,hps⟩:=(hJ.ok 4 (hbb 4 (by decide))).2.2.2 rfl;have hbz:=hJ.bl;clear hbb hJ kY;obtain⟨u0,hu0⟩:∃ u,u=xx 0:=⟨_,rfl⟩;obtain⟨u1,hu1⟩:∃ u,u=xx 1:=⟨_,rfl⟩;obtain⟨g0,cap0,e2,-,-,-⟩:=h2.form.resolve_left (fun h=>by cases h.2);obtain⟨aP,cP,e4,-⟩:=h4.slice;replace e2:xx 2=.slice (some ⟨g0,0,none⟩) 2 cap0:=e2;rw[show xx 2=_ from e2] at h2;rw[show xx 4=_ from e4] at h4;simp only[Qdn,show xx 2=_ from e2,show xx 4=_ from e4,<- hu0,<- hu1];clear e2 e4 hu0 hu1;have hHeld:wz.cell? ⟨w.heap.size,0,none⟩=some (.bool s1)/\wz.cell? ⟨w.heap.size,1,none⟩=some (.slice a1 n1 c1):=⟨Qb hbz HP0.out,Qb hbz HP1.out⟩;have hN1:1<=x.natAbs:=by omega
 have hfew:=QjB hN1 hlt hps;have HSM:=Qh (QhZ hN1 hlt hps);have HPS:=Qh hps;replace HB:=Qh (Bl.up HB.out hbz);have HS:=Qh h2;have HQ:=Qh h4;clear h2 h4 hbz HX HP0 HP1 hps;(refine pL 5 rfl ?_;refine pL 6 rfl ?_)
 refine dT ?_;clear hHeld;obtain⟨L,hL⟩:∃ L,(zI ps).length=L:=⟨_,rfl⟩;have hLp:L=ps.length:=by rw[<- hL];exact Jh ps
 rw[hL] at HQ |-;rw[<- hLp] at hfew;have HLP:=Qh hLp;clear hL hLp;go_wp2_with fail
 go_loopw [3,5,6,7] (fun s3 s5 _ _ wr=>∃ (i g cap M:Nat) (o:List Int),s3=.slice (some ⟨g,0,none⟩) M cap/\s5=.int .i64 (i:Int)/\i<=L/\Hid (o.length=M/\rfI o (ps.drop i)=rfI [1,-1] ps)/\M=2*2 ^ i/\Hid (So eI wr w.heap.size (.slice (some ⟨g,0,none⟩) M cap) o)/\Hid (So e64 wr w.heap.size (.slice aP L cP) (zI ps))/\Hid (Below w.heap.size w wr))
  (fun _ s5 _ _ _=>L-(intOf s5).toNat)
 case atStart=>exact⟨0,g0,cap0,2,[1,-1],rfl,rfl,Nat.zero_le _,Qh ⟨rfl,rfl⟩,rfl,HS,HQ,HB⟩
 case round=>
  clear HS HQ HB;obtain⟨i,g,cap,M,o,rfl,rfl,hi,HO,hM,HS,HQ,HB⟩:=hrel;have hpw:2 ^ i<=2 ^ 25:=Nat.pow_le_pow_right (by decide) (by omega);rw[show 2 ^ 25=33554432 by decide] at hpw;have HMI:=Qh hM;have hMb:M<=67108864:=by omega
  clear hM hpw;by_cases hiL:i<L
  ·have i1:(i:Int)<(L:Int):=by omega
   have i0:(0:Int)<=(i:Int):=by omega
   obtain⟨p,hp⟩:∃ p,ps.getD i 0=p:=⟨_,rfl⟩;have hil:i<ps.length:=by rw[<- HLP.out];exact hiL
   have hdr:ps.drop i=p :: ps.drop (i+1):=by rw[<- hp,List.getD_eq_getElem?_getD,List.getElem?_eq_getElem hil];exact List.drop_eq_getElem_cons hil
   have hpP:Pri p/\p∣x.natAbs:=(HPS.out.2 p).1 (by rw[<- hp,List.getD_eq_getElem?_getD,List.getElem?_eq_getElem hil];exact List.getElem_mem _);have hpl:p<1099511627776:=Nat.lt_of_le_of_lt (Nat.le_of_dvd hN1 hpP.2) hlt;have HP:=Qh hp;have HDR:=Qh (show rfI (o++o.map (· * (p:Int))) (ps.drop (i+1))=rfI [1,-1] ps by have:=HO.out.2;rw[hdr] at this;exact this);clear hp hil hdr hpP;go_wp2_with fail
   go_loopw [3,7] (fun s3 s7 wq=>∃ (k g cap Z:Nat) (q:List Int),s3=.slice (some ⟨g,0,none⟩) Z cap/\s7=.int .i64 (k:Int)/\k<=M/\Z=M+k/\Hid (q.length=Z/\q=o++(o.take k).map (· * (p:Int)))/\Hid (So eI wq w.heap.size (.slice (some ⟨g,0,none⟩) Z cap) q)/\Hid (So e64 wq w.heap.size (.slice aP L cP) (zI ps))/\Hid (Below w.heap.size w wq))
    (fun _ s7 _=>M-(intOf s7).toNat)
   case atStart=>exact⟨0,g,cap,M,o,rfl,rfl,Nat.zero_le _,rfl,Qh ⟨HO.out.1,by simp⟩,HS,HQ,HB⟩
   case round=>
    clear HS HQ HB;obtain⟨k,g,cap,Z,q,rfl,rfl,hk,hK',HQQ,HS,HQ,HB⟩:=hrel;by_cases hkM:k<M
    ·have k1:(k:Int)<(M:Int):=by omega
     have k2:(k:Int)<(Z:Int):=by omega
     have k0:(0:Int)<=(k:Int):=by omega
     have hKb:Z<=134217728:=by omega
     have HKM:=Qh hK';have hko:k<o.length:=by rw[HO.out.1];exact hkM
     clear hK';obtain⟨sx,ax,nx,kx,p0,p1,hx⟩:=HS.out.sc.int (i:=k) (by rw[HQQ.out.1];have:=HKM.out;omega);rw[Nat.zero_add] at p0 p1;have hqc:q.getD k 0=o.getD k 0:=by rw[HQQ.out.2];exact QhT hko
     rw[hqc] at hx;obtain⟨c,hc⟩:∃ c,o.getD k 0=c:=⟨_,rfl⟩;have hcs:sz c<=2:=HSM.out c (by rw[<- HDR.out];exact QgE _ _ _ (List.mem_append_left _ (by rw[<- hc];exact QD hko 0)));have HNX:=Qh (QhF (o:=o) (p:=(p:Int)) hko);rw[hc] at hx HNX;obtain⟨bP,oP,rfl,-,hla⟩:=HQ.out.sr.at (i:=i) (by rw[Jh,<- HLP.out];exact hiL);have q0:=hla.n64 (i:=i) (by rw[Jh,<- HLP.out];exact hiL);rw[Qj8,HP.out] at q0;have HIX:=Qh hx;have hdj:=HS.out.disj HQ.out (by decide);have HDJ:=Qh hdj;clear hqc hc hla hx hdj hko;have j1:(i:Int)<(L:Int):=by omega
     go_upto_region 9 with fail;refine Qc (by kernel_rfl) [12] (S:=fun w'=>w'.cell? ⟨g,k*2,none⟩=some (.bool sx)/\w'.cell? ⟨g,k*2+1,none⟩=some (.slice ax nx kx)/\w'.cell? ⟨bP,oP+i,none⟩=some (.int .i64 (p:Int))) ⟨p0,p1,q0⟩ (fun hHeld=>?_);(refine kL 0 rfl ?_;refine kL 1 rfl ?_;refine kL 2 rfl ?_;refine kL 3 rfl ?_;refine kL 4 rfl ?_;refine kL 5 rfl ?_;refine kL 6 rfl ?_;refine kL 7 rfl ?_;refine kL 8 rfl ?_)
     (refine oL 9 rfl fun K hK=>tL ?_;go_simp);refine(Qn (p:Int) _ (by omega) (by omega)).mono ?_;rintro e w2 ⟨v,rfl,hv,hb⟩;obtain⟨sp,ap,np,kp,rfl⟩:=hv.shape;replace hb:=Bl.up (Below.refl _ _).drew hb;replace HS:=Qh (HS.out.up hb);replace HQ:=Qh (HQ.out.up hb);replace HB:=Qh (Bl.up HB.out hb);replace HIX:=Qh (HIX.out.up hb);replace p0:=Qb hb p0;replace p1:=Qb hb p1;replace q0:=Qb hb q0;have HV:=Qh hv;have hps:sz (p:Int)<=2:=Qbw hpl;clear hb hv;(go_wp2_with fail;clear hHeld;refine nxL hK ⟨p0,p1,q0⟩ fun hHeld=>tL ?_;clear hK);(refine oL 10 rfl fun K hK=>tL ?_;go_simp);refine(Ys _ _ c (p:Int) w2 HIX.out HV.out (by omega) (by omega)).mono ?_;rintro e w3 ⟨v,rfl,hv,hb⟩;obtain⟨sm,am,nm,km,rfl⟩:=hv.shape;replace HS:=Qh (HS.out.up hb);replace HQ:=Qh (HQ.out.up hb);replace HB:=Qh (Bl.up HB.out hb);replace p0:=Qb hb p0;replace p1:=Qb hb p1;replace q0:=Qb hb q0;have HM:=Qh hv;clear hb hv HIX HV;(go_wp2_with fail;clear hHeld;refine nxL hK ⟨p0,p1,q0⟩ fun hHeld=>tL ?_;clear hK);(refine oL 11 rfl fun K hK=>tL ?_;go_simp);have hD:=heap_alloc_new w3 (.cells #[.bool sm,.slice am nm km] 33);have hbn:=Qa w3 (.cells #[.bool sm,.slice am nm km] 33);have hsc:=(So.ints1 (base:=0) hD (Nat.zero_le _) (HM.out.alloc _)).sc;have hS3:=HS.out.up hbn;have hQ3:=HQ.out.up hbn;have hB3:=Bl.up HB.out hbn;replace p0:=Qb hbn p0;replace p1:=Qb hbn p1;replace q0:=Qb hbn q0;have hql:q.length=Z:=HQQ.out.1;rw[<- hql] at hS3 |-;(go_wp2_with fail;clear hHeld;refine nxL hK ⟨p0,p1,q0⟩ fun hHeld=>tL ?_;clear hK);refine QS (i:=12) (by as_aux_lemma=>kernel_rfl) rfl (fun KK hKK=>?_);refine YI (E:=eI) (by rfl) (.tmp 26) (.tmp 37) _ (by rfl) Tryz.underlying46 w.heap.size _ q [c*(p:Int)] (by rfl) hS3 hB3.size w3.heap.size 0 1 1 (by rfl) rfl hsc (by decide) (by omega) ?_;intro g' cap' w4 hS4 hb4 hg4;have hQ4:=hQ3.fr hb4 (fun g hg=>hS3.nw g hg) (fun g h1 h2=>HDJ.out g h2 h1);have hB4:=ButS.below hB3 hb4 hB3.size (fun g hg=>(hS3.lt g hg).1);have HS4:=Qh (show So eI w4 w.heap.size (.slice (some ⟨g',0,none⟩) (Z+1) cap') (q++[c*(p:Int)]) by rw[<- hql];exact hS4);have HQ4:=Qh hQ4;have HB4:=Qh hB4;have HLN:=Qh (show (q++[c*(p:Int)]).length=Z+1/\q++[c*(p:Int)]=o++(o.take (k+1)).map (· * (p:Int)) from ⟨by rw[List.length_append,hql];rfl,by rw[<- HNX.out,HQQ.out.2]⟩);rw[hql];clear hS3 hQ3 hB3 hS4 hb4 hg4 hQ4 hB4 hsc hD hbn p0 p1 q0 HM HS HQ HB HNX HDJ hql;refine hKK.out _ _ nzz ?_;clear hKK hHeld;refine tL ?_;(refine pL 13 rfl ?_)
     refine dT ?_;have j7:IntKind.i64.wrap ((k:Int)+1)=((k+1:Nat):Int):=by rw[IntKind.wrap_i64];omega
     generalize q++[c*(p:Int)]=q2 at *;go_wp2_with fail;exact⟨⟨k+1,g',cap',Z+1,q2,rfl,rfl,by omega,by have:=HKM.out;omega,HLN,HS4,HQ4,HB4⟩,by simp only[intOf,Int.toNat_natCast];omega⟩
    ·obtain rfl:k=M:=by omega
     have j7:IntKind.i64.wrap ((i:Int)+1)=((i+1:Nat):Int):=by rw[IntKind.wrap_i64];omega
     have HQE:=Qh (show q.length=Z/\rfI q (ps.drop (i+1))=rfI [1,-1] ps from ⟨HQQ.out.1,by rw[HQQ.out.2,<- HO.out.1,List.take_length];exact HDR.out⟩);have hKi:Z=2*2 ^ (i+1):=by rw[Nat.pow_succ,<- Nat.mul_assoc,<- HMI.out,hK'];omega
     have HKI:=Qh hKi;clear hKi HDR HQQ;go_wp2_with fail;exact⟨⟨i+1,g,cap,Z,q,rfl,rfl,by omega,HQE,HKI.out,HS,HQ,HB⟩,by simp only[intOf,Int.toNat_natCast];omega⟩
  ·obtain rfl:i=L:=by omega
   have hoe:o=rfI [1,-1] ps:=by have:=HO.out.2;rwa [HLP.out,List.drop_length] at this
   have HOE:=Qh hoe;clear hoe;go_wp2_with fail;refine(Qc0 g cap w.heap.size M o wr HS.out HO.out.1 (fun y hy=>Qt (HSM.out y (HOE.out▸hy)) (by decide)) (by omega) HB.out.size).mono ?_;rintro e w5 ⟨m,rfl,hm,hpm,hpw,hb⟩;have HC:=Qh (Qdw hN1 HPS.out (hpm.trans (by rw[HOE.out];exact Qhn ps 1)) hpw);have HBE:=Qh (HB.out.trans hb);have HME:=Qh hm.sr;clear hm hpm hpw hb HB;go_wp2_with fail;go_ret
   exact⟨_,m,rfl,HME.out,HC.out,HBE.out⟩
theorem Qfr (va vb:Value) (a b x:Int) (w:World) (hp:Qx w va a b) (hx:It w vb x) (h0:x≠0) (sb:sz b<=1000000) (sx:sz x<=1000000) :
  Calls Tryz.prog 38 #[va,vb] w fun e' w'=>∃ t,e'=.returned t/\Sx w' t x a (b/x)/\Below w.heap.size w w':=by
 have qp:=hp;obtain⟨sp0,ap0,np0,kp0,sp1,ap1,np1,kp1,rfl,hp0,hp1⟩:=hp;obtain⟨sq0,aq0,nq0,kq0,rfl⟩:=hx.shape;obtain⟨F,hFD,kF⟩:∃ F:World->Prop,(∀ w',F w'↔(w'.heap[w.heap.size]? = some (.cells #[.bool sp0,.slice ap0 np0 kp0,.bool sp1,.slice ap1 np1 kp1] 35)/\w'.heap[w.heap.size+1]? = some (.cells #[.bool sq0,.slice aq0 nq0 kq0] 33)/\w'.heap[w.heap.size+1+1]? = some (.cells #[.bool false,.slice none 0 0,.bool false,.slice none 0 0,.bool false,.slice none 0 0] 53)/\Qx w' (.agg #[.bool sp0,.slice ap0 np0 kp0,.bool sp1,.slice ap1 np1 kp1]) (a) (b)/\It w' (.agg #[.bool sp0,.slice ap0 np0 kp0]) (a)/\It w' (.agg #[.bool sp1,.slice ap1 np1 kp1]) (b)/\It w' (.agg #[.bool sq0,.slice aq0 nq0 kq0]) (x)/\Below w.heap.size w w'))/\Kp F:=⟨fun w'=>w'.heap[w.heap.size]? = some (.cells #[.bool sp0,.slice ap0 np0 kp0,.bool sp1,.slice ap1 np1 kp1] 35)/\w'.heap[w.heap.size+1]? = some (.cells #[.bool sq0,.slice aq0 nq0 kq0] 33)/\w'.heap[w.heap.size+1+1]? = some (.cells #[.bool false,.slice none 0 0,.bool false,.slice none 0 0,.bool false,.slice none 0 0] 53)/\Qx w' (.agg #[.bool sp0,.slice ap0 np0 kp0,.bool sp1,.slice ap1 np1 kp1]) (a) (b)/\It w' (.agg #[.bool sp0,.slice ap0 np0 kp0]) (a)/\It w' (.agg #[.bool sp1,.slice ap1 np1 kp1]) (b)/\It w' (.agg #[.bool sq0,.slice aq0 nq0 kq0]) (x)/\Below w.heap.size w w',fun _=>Iff.rfl,kpf⟩;have HFD:=Qh hFD;clear hFD;have bn0:=Qa w (.cells #[.bool sp0,.slice ap0 np0 kp0,.bool sp1,.slice ap1 np1 kp1] 35);have d0:=heap_alloc_new w (.cells #[.bool sp0,.slice ap0 np0 kp0,.bool sp1,.slice ap1 np1 kp1] 35);have bn1:=Qa (w.alloc (.cells #[.bool sp0,.slice ap0 np0 kp0,.bool sp1,.slice ap1 np1 kp1] 35)) (.cells #[.bool sq0,.slice aq0 nq0 kq0] 33);have d1:=heap_alloc_new (w.alloc (.cells #[.bool sp0,.slice ap0 np0 kp0,.bool sp1,.slice ap1 np1 kp1] 35)) (.cells #[.bool sq0,.slice aq0 nq0 kq0] 33);rw[show (w.alloc (.cells #[.bool sp0,.slice ap0 np0 kp0,.bool sp1,.slice ap1 np1 kp1] 35)).heap.size=w.heap.size+1 by simp only[World.size_alloc]] at d1;have bn2:=Qa ((w.alloc (.cells #[.bool sp0,.slice ap0 np0 kp0,.bool sp1,.slice ap1 np1 kp1] 35)).alloc (.cells #[.bool sq0,.slice aq0 nq0 kq0] 33)) (.cells #[.bool false,.slice none 0 0,.bool false,.slice none 0 0,.bool false,.slice none 0 0] 53);have d2:=heap_alloc_new ((w.alloc (.cells #[.bool sp0,.slice ap0 np0 kp0,.bool sp1,.slice ap1 np1 kp1] 35)).alloc (.cells #[.bool sq0,.slice aq0 nq0 kq0] 33)) (.cells #[.bool false,.slice none 0 0,.bool false,.slice none 0 0,.bool false,.slice none 0 0] 53);rw[show ((w.alloc (.cells #[.bool sp0,.slice ap0 np0 kp0,.bool sp1,.slice ap1 np1 kp1] 35)).alloc (.cells #[.bool sq0,.slice aq0 nq0 kq0] 33)).heap.size=w.heap.size+1+1 by simp only[World.size_alloc]] at d2;have be1:=Bl.up bn1 bn2;have be0:=Bl.up bn0 be1;have HF:Hid (F (((w.alloc (.cells #[.bool sp0,.slice ap0 np0 kp0,.bool sp1,.slice ap1 np1 kp1] 35)).alloc (.cells #[.bool sq0,.slice aq0 nq0 kq0] 33)).alloc (.cells #[.bool false,.slice none 0 0,.bool false,.slice none 0 0,.bool false,.slice none 0 0] 53))):=Qh ((HFD.out _).2 ⟨(Kp.blk _ _).up d0 be1,(Kp.blk _ _).up d1 bn2,d2,qp.up be0,hp0.up be0,hp1.up be0,hx.up be0,be0⟩);clear bn0 d0 bn1 d1 bn2 d2 be0 be1 qp hp0 hp1 hx;go_enter Tryz.func38,Tryz.ntmps38
 go_upto_region 1 with fail;generalize ((w.alloc (.cells #[.bool sp0,.slice ap0 np0 kp0,.bool sp1,.slice ap1 np1 kp1] 35)).alloc (.cells #[.bool sq0,.slice aq0 nq0 kq0] 33)).alloc (.cells #[.bool false,.slice none 0 0,.bool false,.slice none 0 0,.bool false,.slice none 0 0] 53)=W at *;have hS0:bc4 W (w.heap.size) (.bool sp0) (.slice ap0 np0 kp0) (.bool sp1) (.slice ap1 np1 kp1)/\bc2 W (w.heap.size+1) (.bool sq0) (.slice aq0 nq0 kq0):=⟨QG ((HFD.out _).1 HF.out).1,Qq ((HFD.out _).1 HF.out).2.1⟩;refine Qc (by kernel_rfl) [8] (S:=fun w'=>bc4 w' (w.heap.size) (.bool sp0) (.slice ap0 np0 kp0) (.bool sp1) (.slice ap1 np1 kp1)/\bc2 w' (w.heap.size+1) (.bool sq0) (.slice aq0 nq0 kq0)) hS0 (fun hHeld=>?_);have kS:Kp fun w'=>bc4 w' (w.heap.size) (.bool sp0) (.slice ap0 np0 kp0) (.bool sp1) (.slice ap1 np1 kp1)/\bc2 w' (w.heap.size+1) (.bool sq0) (.slice aq0 nq0 kq0):=kpf;clear hS0;replace HF:=Qh (kF.dr HF.out);generalize W.drew=wa at *;(refine tS 0 rfl ?_;refine tS 1 rfl ?_;refine tS 2 rfl ?_;refine tS 3 rfl ?_;refine tS 4 rfl ?_;refine tS 5 rfl ?_)
 (refine oL 6 rfl fun K hK=>tL ?_;go_simp);refine(QbN _ _ b x wa ((HFD.out _).1 HF.out).2.2.2.2.2.1 ((HFD.out _).1 HF.out).2.2.2.2.2.2.1 h0 (by omega) (by omega)).mono ?_;rintro e wc1 ⟨v,rfl,hv,hb⟩;obtain⟨sr0,ar0,nr0,kr0,rfl⟩:=hv.shape;have hS2:=kS.up hHeld hb;replace HF:=Qh (kF.up HF.out hb);have Hr:=Qh hv;clear hb hv;(go_wp2_with fail;clear hHeld;refine nxL hK hS2 fun hHeld=>tL ?_;clear hK);clear hS2;(refine tS 7 rfl ?_)
 have HBZ:=Qh (((HFD.out _).1 HF.out).2.2.1);obtain⟨z0,z1,z2,z3,z4,z5⟩:=Qw HBZ.out;obtain⟨y0,y1,y2,y3,y4,y5⟩:=YR HBZ.out;(refine oL 8 rfl fun K hK=>tL ?_;go_simp);(go_wp2_with fail;refine xL hK (tL ?_);clear hK);refine dT ?_;clear hHeld;go_wp2_with fail;have hh:=Qa2 HBZ.out (.bool sq0) (.slice aq0 nq0 kq0) (.bool sp0) (.slice ap0 np0 kp0) (.bool sr0) (.slice ar0 nr0 kr0);have hbt:=Qhx wc1 (w.heap.size+1+1) (.bool sq0) (.slice aq0 nq0 kq0) (.bool sp0) (.slice ap0 np0 kp0) (.bool sr0) (.slice ar0 nr0 kr0);have hnw:=nw6 HBZ.out;exact QaD (B:=w.heap.size+1+1) rfl rfl rfl (Qc3 _ _ _ _ _ _ _ _ _ _ hh) ⟨_,rfl,⟨_,_,_,_,_,_,_,_,_,_,_,_,rfl,(((HFD.out _).1 HF.out).2.2.2.2.2.2.1).fr hbt hnw,(((HFD.out _).1 HF.out).2.2.2.2.1).fr hbt hnw,(Hr.out).fr hbt hnw⟩,(ButS.below ((HFD.out _).1 HF.out).2.2.2.2.2.2.2 hbt ((HFD.out _).1 HF.out).2.2.2.2.2.2.2.size (fun g e=>by omega))⟩
theorem FlI.start0 (f:Nat->Rk) (vs:List (Nat×Nat×Int)) (cs:List Nat) (W0:World) (x:Nat->Value):FlI f vs cs W0 (fun _=>false) x W0:=
 ⟨Below.refl _ _,(fun _ _ _ h=>nomatch h),(fun _ _ _ h=>nomatch h),(fun _ _ h=>nomatch h),(fun _ _ _ _ _ h=>nomatch h),(fun _ _ h=>nomatch h),(fun _ _ _ _ h=>nomatch h),fun _ _ _ h=>nomatch h⟩
structure FlN (X:Value->World->Prop) (c v s:Nat) (W0:World) (b:Nat->Bool) (x:Nat->Value) (W:World):Prop where
 bl:Below W0.heap.size W0 W
 e0:b c=true->X (x c) W
 vr:b v=true->∃ B c0 c1 c2 c3 c4 c5,x v=.pointer (some ⟨B,0,none⟩)/\W0.heap.size<=B/\W.heap[B]? = some (.cells #[c0,c1,c2,c3,c4,c5] 53 (0,0))/\NoW W B/\(b s=true->x c=.agg #[c0,c1,c2,c3,c4,c5])
 so:b s=true->b v=true/\b c=true
section
variable {X:Value->World->Prop} {c v s:Nat} {W0 W W':World} {b:Nat->Bool} {x:Nat->Value}
theorem FlN.start (X:Value->World->Prop) (c v s:Nat) (W0:World) (x:Nat->Value):FlN X c v s W0 (fun _=>false) x W0:=
 ⟨Below.refl _ _,(fun h=>nomatch h),(fun h=>nomatch h),fun h=>nomatch h⟩
theorem FlN.put (h:FlN X c v s W0 b x W) (hbc:b c=false) (hc:c≠v/\c≠s/\v≠s) {y:Value} (hb:Below W.heap.size W W') (h2:X y W'):FlN X c v s W0 (QF b c true) (QF x c y) W':=by
 have hbs:b s=false:=by
  cases e:b s with
  | false=>rfl
  | true=>have:=(h.so e).2;rw[hbc] at this;cases this
 refine⟨h.bl.trans (hb.mono h.bl.size),fun _=>?_,fun hbk=>?_,fun hbk=>?_⟩
 ·rw[Qe];exact h2
 ·rw[Qd _ _ (Ne.symm hc.1)] at hbk |-;obtain⟨B,c0,c1,c2,c3,c4,c5,k1,k2,k3,k4,k5⟩:=h.vr hbk;refine⟨B,c0,c1,c2,c3,c4,c5,k1,k2,(Kp.blk _ _).up k3 hb,k4.fr (ButS.of hb (fun _=>False)) (Ql k3).1 (fun h=>h),fun e=>?_⟩;rw[Qd _ _ (Ne.symm hc.2.1),hbs] at e
  cases e
 ·rw[Qd _ _ (Ne.symm hc.2.1),hbs] at hbk
  cases hbk
theorem FlN.var (h:FlN X c v s W0 b x W) (hX:∀ y,Kp (X y)) (hc:c≠v/\c≠s/\v≠s) (hv:b v=false) :
  FlN X c v s W0 (QF b v true) (QF x v (.pointer (some ⟨W.heap.size,0,none⟩))) (W.alloc (.cells #[.bool false,.slice none 0 0,.bool false,.slice none 0 0,.bool false,.slice none 0 0] 53)):=by
 have hb:=Qa W (.cells #[.bool false,.slice none 0 0,.bool false,.slice none 0 0,.bool false,.slice none 0 0] 53)
 have hbs:b s=false:=by
  cases e:b s with
  | false=>rfl
  | true=>have:=(h.so e).1;rw[hv] at this;cases this
 refine⟨h.bl.trans (hb.mono h.bl.size),fun hbk=>?_,fun hbk=>?_,fun hbk=>?_⟩
 ·rw[Qd _ _ hc.1] at hbk |-;exact(hX _).up (h.e0 hbk) hb
 ·rw[Qe];refine⟨_,_,_,_,_,_,_,rfl,h.bl.size,heap_alloc_new _ _,NoW.new _ _ _ (by decide),fun e=>?_⟩;rw[Qd _ _ (Ne.symm hc.2.2),hbs] at e
  cases e
 ·rw[Qd _ _ (Ne.symm hc.2.2),hbs] at hbk
  cases hbk
theorem FlN.sto (h:FlN X c v s W0 b x W) (hS:∀ y w,X y w->∃ s1 a1 n1 k1 s2 a2 n2 k2 s3 a3 n3 k3,y=.agg #[.bool s1,.slice a1 n1 k1,.bool s2,.slice a2 n2 k2,.bool s3,.slice a3 n3 k3]) (hv:b v=true) (hc:b c=true) :
  ∃ p:Nat×(Bool×Option Addr×Nat×Nat)×(Bool×Option Addr×Nat×Nat)×(Bool×Option Addr×Nat×Nat)×Value×Value×Value×Value×Value×Value,x v=.pointer (some ⟨p.1,0,none⟩)/\x c=.agg #[.bool p.2.1.1,.slice p.2.1.2.1 p.2.1.2.2.1 p.2.1.2.2.2,.bool p.2.2.1.1,.slice p.2.2.1.2.1 p.2.2.1.2.2.1 p.2.2.1.2.2.2,.bool p.2.2.2.1.1,.slice p.2.2.2.1.2.1 p.2.2.2.1.2.2.1 p.2.2.2.1.2.2.2] /\
   W.heap[p.1]? = some (.cells #[p.2.2.2.2.1,p.2.2.2.2.2.1,p.2.2.2.2.2.2.1,p.2.2.2.2.2.2.2.1,p.2.2.2.2.2.2.2.2.1,p.2.2.2.2.2.2.2.2.2] 53 (0,0)):=by
 obtain⟨B,c0,c1,c2,c3,c4,c5,k1,k2,k3,k4,k5⟩:=h.vr hv;obtain⟨s1,a1,n1,g1,s2,a2,n2,g2,s3,a3,n3,g3,e⟩:=hS _ _ (h.e0 hc);exact⟨(B,(s1,a1,n1,g1),(s2,a2,n2,g2),(s3,a3,n3,g3),c0,c1,c2,c3,c4,c5),k1,e,k3⟩
theorem FlN.st (h:FlN X c v s W0 b x W) (hX:∀ y,Kq (fun _=>False) (X y)) (hc:c≠v/\c≠s/\v≠s) (hv:b v=true) (hbc:b c=true) {B:Nat} {s1 s2 s3:Bool} {a1 a2 a3:Option Addr} {n1 n2 n3 k1 k2 k3:Nat} (e4:x v=.pointer (some ⟨B,0,none⟩)) (e2:x c=.agg #[.bool s1,.slice a1 n1 k1,.bool s2,.slice a2 n2 k2,.bool s3,.slice a3 n3 k3]) {d:Value} :
  FlN X c v s W0 (QF b s true) (QF x s d) (QkP W B (.bool s1) (.slice a1 n1 k1) (.bool s2) (.slice a2 n2 k2) (.bool s3) (.slice a3 n3 k3)):=by
 obtain⟨B',c0,c1,c2,c3,c4,c5,g1,g2,g3,g4,g5⟩:=h.vr hv;have eB:B'=B:=by rw[e4] at g1;injection g1 with g1;injection g1 with g1;injection g1 with g1;exact g1.symm
 subst eB;have hbt:=Qhx W B' (.bool s1) (.slice a1 n1 k1) (.bool s2) (.slice a2 n2 k2) (.bool s3) (.slice a3 n3 k3);have hn:∀ g,g=B'->NoW W g:=fun g e=>by subst e;exact g4
 refine⟨ButS.below h.bl hbt h.bl.size (fun g e=>by omega),fun hbk=>?_,fun hbk=>?_,fun hbk=>?_⟩
 ·rw[Qd _ _ hc.2.1] at hbk |-;exact(hX _).fr (h.e0 hbk) hbt hn (fun _ h=>h.elim)
 ·rw[Qd _ _ hc.2.2,Qd _ _ hc.2.1];have hh:=Qa2 g3 (.bool s1) (.slice a1 n1 k1) (.bool s2) (.slice a2 n2 k2) (.bool s3) (.slice a3 n3 k3);exact⟨B',_,_,_,_,_,_,e4,g2,hh,nw6 hh _ rfl,fun _=>e2⟩
 ·rw[Qd _ _ hc.2.2,Qd _ _ hc.2.1];exact⟨hv,hbc⟩
theorem FlN.out (h:FlN X c v s W0 b x W) (hbc:b c=true) (hv:b v=true) (hs:b s=true) :
  ∃ B c0 c1 c2 c3 c4 c5,x c=.agg #[c0,c1,c2,c3,c4,c5]/\X (.agg #[c0,c1,c2,c3,c4,c5]) W/\x v=.pointer (some ⟨B,0,none⟩)/\W.heap[B]? = some (.cells #[c0,c1,c2,c3,c4,c5] 53 (0,0))/\Below W0.heap.size W0 W:=by
 obtain⟨B,c0,c1,c2,c3,c4,c5,k1,k2,k3,k4,k5⟩:=h.vr hv;have e:=k5 hs;exact⟨B,c0,c1,c2,c3,c4,c5,e,e▸h.e0 hbc,k1,k3,h.bl⟩
end
