/-
  law29.DescentSolubility: the walk.
-/
import Derived.Test.YteidokhjmbihlaaGreatFZA
import Derived.Test.YteidokhjmbihlaaGreatFN
import Derived.Test.YteidokhjmbihlaaGreatFF
import Derived.Test.YteidokhjmbihlaaGreatDV
import Derived.Test.YteidokhjmbihlaaGreatDW
import Derived.Test.YteidokhjmbihlaaGreatDR
import Derived.Test.YteidokhjmbihlaaGreatDO
import Derived.Test.YteidokhjmbihlaaGreatDQ
import Derived.Test.YteidokhjmbihlaaGreatDC
import Derived.Test.YteidokhjmbihlaaGreatDD
import Derived.Test.YteidokhjmbihlaaGreatDX
import Derived.Test.YteidokhjmbihlaaGreatDI
import Derived.Test.YteidokhjmbihlaaGreatDF
import Derived.Test.YteidokhjmbihlaaGreatDL
import Derived.Test.YteidokhjmbihlaaGreatDT3
import Derived.Test.YteidokhjmbihlaaGreatDS
set_option linter.unusedSimpArgs false
set_option linter.unusedVariables false
set_option maxRecDepth 100000
set_option maxHeartbeats 8000000
namespace Go.Proofs.YteidokhjmbihlaaGreat
def kyI (m:List Int) (a:Nat):Int:=m.getD a 0
def SoI (m:List Int) (i:Nat):Prop:=∀ a b,a<b->b<i->kyI m a<=kyI m b
def InJ (m:List Int) (i k:Nat):Prop:=(∀ a b,a<b->b<=i->a ≠ k->b ≠ k->kyI m a<=kyI m b)/\∀ b,k<b->b<=i->kyI m k<=kyI m b
def swI (m:List Int) (k:Nat):List Int:=(m.set k (m.getD (k - 1) 0)).set (k - 1) (m.getD k 0)
theorem SoI.ins {m:List Int} {i:Nat} (h:SoI m i):InJ m i i:=⟨fun a b hab hb _ hn=>h a b hab (by omega),fun b h1 h2=>by omega⟩
theorem InJ.done {m:List Int} {i k:Nat} (h:InJ m i k) (hk:k<=i) (he:k=0\/kyI m (k - 1)<=kyI m k):SoI m (i+1):=by
 intro a b hab hb;by_cases e1:a=k
 ·subst e1;exact h.2 b hab (by omega)
 ·by_cases e2:b=k
  ·subst e2;rcases he with he|he
   ·omega
   ·by_cases e3:a=b - 1
    ·subst e3;exact he
    ·exact Int.le_trans (h.1 a (b - 1) (by omega) (by omega) e1 (by omega)) he
  ·exact h.1 a b hab (by omega) e1 e2
theorem QjF (m:List Int) (k:Nat):(swI m k).length=m.length:=by unfold swI;rw [List.length_set,List.length_set]
theorem Qhi {m:List Int} {k:Nat} (hk:k<m.length):(swI m k).Perm m:=by
 have h:=@List.set_set_perm _ m k (k - 1) hk (by omega);unfold swI;rw [List.getD_eq_getElem?_getD,List.getD_eq_getElem?_getD,List.getElem?_eq_getElem hk,List.getElem?_eq_getElem (by omega:k - 1<m.length),Option.getD_some,Option.getD_some];exact h
theorem Qef {m:List Int} {k:Nat} (h0:0<k) (hk:k<m.length) (a:Nat):kyI (swI m k) a=if a=k - 1 then kyI m k else if a=k then kyI m (k - 1) else kyI m a:=by
 unfold kyI swI;rw [Qak _ _ _ _ _ (by rw [List.length_set];omega),Qak _ _ _ _ _ hk]
theorem InJ.step {m:List Int} {i k:Nat} (h:InJ m i k) (h0:0<k) (hk:k<=i) (hi:i<m.length) (hgt:kyI m k<kyI m (k - 1)):InJ (swI m k) i (k - 1):=by
 have hkm:k<m.length:=by omega
 refine ⟨fun a b hab hb n1 n2=>?_,fun b h1 h2=>?_⟩
 ·rw [Qef h0 hkm,Qef h0 hkm,if_neg n1,if_neg n2];by_cases e1:a=k
  ·rw [if_pos e1,if_neg (by omega)];exact h.1 (k - 1) b (by omega) hb (by omega) (by omega)
  ·rw [if_neg e1];by_cases e2:b=k
   ·rw [if_pos e2];exact h.1 a (k - 1) (by omega) (by omega) e1 (by omega)
   ·rw [if_neg e2];exact h.1 a b hab hb e1 e2
 ·rw [Qef h0 hkm,Qef h0 hkm,if_pos rfl,if_neg (by omega)];by_cases e2:b=k
  ·rw [if_pos e2];omega
  ·rw [if_neg e2];exact h.2 b (by omega) h2
theorem SoI.pw {m:List Int} (h:SoI m m.length):m.Pairwise (· <= ·):=by
 rw [List.pairwise_iff_getElem];intro a b ha hb hab;have:=h a b hab hb;unfold kyI at this;rw [List.getD_eq_getElem?_getD,List.getD_eq_getElem?_getD,List.getElem?_eq_getElem ha,List.getElem?_eq_getElem hb,Option.getD_some,Option.getD_some] at this;exact this
open Go.RowKit
attribute [local go_sem ↓] Go.wp_at_zero Go.wp_at_succ
theorem Yy {w:World} {base g n cap:Nat} {l:List Int} (h:So eI w base (.slice (some ⟨g,0,none⟩) n cap) l) {i:Nat} (hi:i<l.length) :
  ∃ s a m c,w.cell? ⟨g,i*2,none⟩=some (.bool s)/\w.cell? ⟨g,i*2+1,none⟩=some (.slice a m c)/\It w (.agg #[.bool s,.slice a m c]) (l.getD i 0) /\
   w.frozen? ⟨g,i*2,none⟩=false/\w.frozen? ⟨g,i*2+1,none⟩=false:=by
 obtain ⟨s,a,m,c,p0,p1,hx⟩:=h.sc.int hi;rw [Nat.zero_add] at p0 p1;obtain ⟨xs,⟨k1,k2⟩,-⟩:=h;rcases k2 with ⟨e,-⟩|⟨g',cap',cur,e,k3,k4,k5,k6,k7,k8⟩
 ·injection e with e1;cases e1
 injection e with e1 e2 e3;injection e1 with e1;injection e1 with e1;subst e1;exact ⟨s,a,m,c,p0,p1,hx,by simp [World.frozen?,k4],by simp [World.frozen?,k4]⟩
theorem So.set2 {w:World} {base g n cap:Nat} {l:List Int} (h:So eI w base (.slice (some ⟨g,0,none⟩) n cap) l) {i:Nat} (hi:i<l.length) {s:Bool} {a:Option Addr} {m c:Nat} {x:Int} (hx:It w (.agg #[.bool s,.slice a m c]) x) :
  So eI ((w.setCell ⟨g,i*2,none⟩ (.bool s)).setCell ⟨g,i*2+1,none⟩ (.slice a m c)) base (.slice (some ⟨g,0,none⟩) n cap) (l.set i x)/\ButS (fun k=>k=g) w ((w.setCell ⟨g,i*2,none⟩ (.bool s)).setCell ⟨g,i*2+1,none⟩ (.slice a m c)):=
 ⟨h.setE hi (cs:=[.bool s,.slice a m c]) ⟨s,a,m,c,rfl,hx⟩,(ButS.set w g _ _).trans (ButS.set _ g _ _)⟩
theorem QcG (g cap base N:Nat) (l:List Int) (w:World) (h:So eI w base (.slice (some ⟨g,0,none⟩) N cap) l) (hNl:l.length=N) (hL:∀ x ∈ l,sz x<=1099511627776) (hN:N<=1000000000) (hbs:base<=w.heap.size) :
  Calls Tryz.prog 65 #[.slice (some ⟨g,0,none⟩) N cap] w fun e w'=>∃ m,e = .returned (.slice (some ⟨g,0,none⟩) N cap)/\So eI w' base (.slice (some ⟨g,0,none⟩) N cap) m/\m.Perm l/\m.Pairwise (· <= ·)/\Below base w w':=by
 have hg:base<=g:=(h.lt g rfl).1;have HNL:=Qh hNl;have HS1:=Qh h;have HL:=Qh hL;have HBS:=Qh hbs;clear hNl h hL hbs;go_enter Tryz.func65,Tryz.ntmps65
 go_wp2_with fail
 go_loopw [3,4,5] (fun s3 s4 s5 wr=>∃ (i:Nat) (m:List Int),s3 = .int .i64 (i:Int)/\1<=i/\(i<=N\/i=1)/\m.length=N/\m.Perm l/\SoI m i/\So eI wr base (.slice (some ⟨g,0,none⟩) N cap) m/\Below base w wr)
  (fun s3 _ _ _=>N - (intOf s3).toNat)
 case atStart=>exact ⟨1,l,rfl,Nat.le_refl _,.inr rfl,HNL.out,List.Perm.refl _,fun a b _ _=>by omega,HS1.out,(Below.refl _ _).mono HBS.out⟩
 case round=>
  obtain ⟨i,m,rfl,hi1,hi2,hlm,hpm,hso,hS,hBl⟩:=hrel;by_cases hlt:i<N
  ·have i1:(i:Int)<(N:Int):=by omega
   have HSO:=Qh hso;have HPM:=Qh hpm;have HLM:=Qh hlm;have HSI:=Qh hS;have HBI:=Qh hBl;clear hso hpm hlm hS hBl;go_wp2_with fail
   go_loopw [4,5] (fun s4 s5 wq=>∃ (k:Nat) (q:List Int),s4 = .int .i64 (k:Int)/\k<=i/\q.length=N/\q.Perm l/\InJ q i k/\So eI wq base (.slice (some ⟨g,0,none⟩) N cap) q/\Below base w wq)
    (fun s4 _ _=>(intOf s4).toNat)
   case atStart=>exact ⟨i,m,rfl,Nat.le_refl _,HLM.out,HPM.out,HSO.out.ins,HSI.out,HBI.out⟩
   case round=>
    obtain ⟨k,q,rfl,hk,hlq,hpq,hin,hS,hBl⟩:=hrel;clear HSO HPM HLM HSI HBI;have HIN:=Qh hin;have HPQ:=Qh hpq;clear hin hpq;by_cases hk0:0<k
    ·obtain ⟨j,rfl⟩:∃ j,k=j+1:=⟨k - 1,by omega⟩;obtain ⟨s1,a1,n1,c1,p0,p1,hx,f0,f1⟩:=Yy hS (i:=j) (by omega);obtain ⟨s2,a2,n2,c2,q0,q1,hy,g0,g1⟩:=Yy hS (i:=j+1) (by omega);have hszx:sz (q.getD j 0)<=1099511627776:=HL.out _ (HPQ.out.mem_iff.1 (by rw [List.getD_eq_getElem?_getD,List.getElem?_eq_getElem (by omega)];exact List.getElem_mem _));have hszy:sz (q.getD (j+1) 0)<=1099511627776:=HL.out _ (HPQ.out.mem_iff.1 (by rw [List.getD_eq_getElem?_getD,List.getElem?_eq_getElem (by omega)];exact List.getElem_mem _));obtain ⟨x,hx0⟩:∃ x,q.getD j 0=x:=⟨_,rfl⟩;obtain ⟨y,hy0⟩:∃ y,q.getD (j+1) 0=y:=⟨_,rfl⟩;rw [hx0] at hx hszx;rw [hy0] at hy hszy;have HX:=Qh hx0;have HY:=Qh hy0;have HS:=Qh hS;have HB:=Qh hBl;have HLQ:=Qh hlq;clear hx0 hy0 hS hBl hlq;have j0:(j:Int)+1 > 0:=by omega
     have j2:(j:Int)<(N:Int):=by omega
     have j3:(j:Int)+1<(N:Int):=by omega
     have j4:(0:Int)<=(j:Int):=by omega
     have j5:(0:Int)<=(j:Int)+1:=by omega
     have w1:IntKind.i64.wrap (j:Int)=(j:Int):=by rw [IntKind.wrap_i64];omega
     go_upto_region 5 with fail;refine Qc (by kernel_rfl) [] (S:=fun w'=>w'.cell? ⟨g,j*2,none⟩=some (.bool s1)/\w'.cell? ⟨g,j*2+1,none⟩=some (.slice a1 n1 c1)/\w'.cell? ⟨g,(j+1)*2,none⟩=some (.bool s2)/\w'.cell? ⟨g,(j+1)*2+1,none⟩=some (.slice a2 n2 c2)) ⟨p0,p1,q0,q1⟩ (fun hHeld=>?_);(refine kL 0 rfl ?_;refine kL 1 rfl ?_;refine kL 2 rfl ?_;refine kL 3 rfl ?_;refine kL 4 rfl ?_;refine kL 5 rfl ?_;refine kL 6 rfl ?_;refine kL 7 rfl ?_;refine kL 8 rfl ?_;refine kL 9 rfl ?_;refine kL 10 rfl ?_;refine kL 11 rfl ?_)
     (refine oL 12 rfl fun K hK=>tL ?_;go_simp);refine (Qd8 _ _ x y _ hx.drew hy.drew (Qt hszx (by decide)) (Qt hszy (by decide))).mono ?_;rintro e w2 ⟨rfl,hb2⟩;have HS2:=Qh ((HS.out.drew).up hb2);have HB2:=Qh (HB.out.trans ((Bl.up (Below.refl _ _).drew hb2).mono (Qt HBS.out HB.out.size)));(go_wp2_with fail;clear hHeld;refine nxL hK ⟨Qb hb2 (Qv p0),Qb hb2 (Qv p1),Qb hb2 (Qv q0),Qb hb2 (Qv q1)⟩ fun hHeld=>tL ?_;clear hK);(refine kL 13 rfl ?_;refine kL 14 rfl ?_)
     refine dT ?_;clear hHeld p0 p1 q0 q1 f0 f1 g0 g1 hb2 hx hy HS HB;obtain ⟨s1,a1,n1,c1,p0,p1,hx,f0,f1⟩:=Yy HS2.out (i:=j) (by rw [HLQ.out];omega);obtain ⟨s2,a2,n2,c2,q0,q1,hy,g0,g1⟩:=Yy HS2.out (i:=j+1) (by rw [HLQ.out];omega);rw [HX.out] at hx;rw [HY.out] at hy;by_cases hgt:y<x
     ·have hc:Qj x y > 0:=by unfold Qj;split <;> (try split) <;> omega
      have HGT:=Qh hgt;have HX1:=Qh hx;have HY1:=Qh hy;generalize Qj x y=cc at *;clear hgt hx hy;have hD:=heap_alloc_new w2 (.cells #[.bool s2,.slice a2 n2 c2] 33);have hbn:=Qa w2 (.cells #[.bool s2,.slice a2 n2 c2] 33);go_upto_region 8 with fail;clear q0 q1 g0 g1 p0 p1 f0 f1;have HS3:=Qh (HS2.out.up hbn);have HY3:=Qh (HY1.out.alloc (.cells #[.bool s2,.slice a2 n2 c2] 33));have HX3:=Qh (HX1.out.alloc (.cells #[.bool s2,.slice a2 n2 c2] 33));have HB3:=Qh (HB2.out.trans (hbn.mono (Qt HBS.out HB2.out.size)));have hg2:g<w2.heap.size:=(HS2.out.lt g rfl).2;clear hbn HS2 HB2 HX1 HY1;generalize hw3:w2.alloc (.cells #[.bool s2,.slice a2 n2 c2] 33)=w3 at *;clear hw3;obtain ⟨s3,a3,n3,c3,p0,p1,hx,f0,f1⟩:=Yy HS3.out (i:=j) (by rw [HLQ.out];omega);obtain ⟨s4,a4,n4,c4,q0,q1,hy,g0,g1⟩:=Yy HS3.out (i:=j+1) (by rw [HLQ.out];omega);rw [HX.out] at hx;rw [HY.out] at hy;have b0:w3.cell? ⟨w2.heap.size,0,none⟩=some (.bool s2):=by simp [World.cell?,hD]
      have b1:w3.cell? ⟨w2.heap.size,1,none⟩=some (.slice a2 n2 c2):=by simp [World.cell?,hD]
      have hne:w2.heap.size ≠ g:=by omega
      generalize w2.heap.size=Bx at *;have hlt3:Bx<w3.heap.size:=(Ql hD).1;clear hD hg2;have HX4:=Qh hx;clear hx hy;go_upto_region 9 with fail;obtain ⟨hS4,hb4⟩:=HS3.out.set2 (i:=j+1) (by rw [HLQ.out];omega) HX4.out;have hn4:∀ g',g'=g->NoW w3 g':=fun g' e=>by rw [e];exact HS3.out.nw g rfl
      have hY4:=HY3.out.fr hb4 hn4;have hB4:=ButS.below HB3.out hb4 (Qt HBS.out HB3.out.size) (fun g' e=>by rw [e];exact hg);replace b0:=YM hb4 hlt3 hne b0;replace b1:=YM hb4 hlt3 hne b1;have HS4:=Qh hS4;have HY4:=Qh hY4;have HB4:=Qh hB4;clear p0 p1 f0 f1 q0 q1 g0 g1 hS4 hb4 hn4 hY4 hB4 HS3 HY3 HB3 HX4 HX3;generalize (w3.setCell ⟨g,(j+1)*2,none⟩ (.bool s3)).setCell ⟨g,(j+1)*2+1,none⟩ (.slice a3 n3 c3)=w4 at *;obtain ⟨s5,a5,n5,c5,p0,p1,hx,f0,f1⟩:=Yy HS4.out (i:=j) (by rw [List.length_set,HLQ.out];omega);clear hx;go_wp2_with fail;obtain ⟨hS5,hb5⟩:=HS4.out.set2 (i:=j) (by rw [List.length_set,HLQ.out];omega) HY4.out;have hB5:=ButS.below HB4.out hb5 (Qt HBS.out HB4.out.size) (fun g' e=>by rw [e];exact hg);have e5:(q.set (j+1) x).set j y=swI q (j+1):=by unfold swI;rw [show j+1 - 1=j by omega,HX.out,HY.out]
      rw [e5] at hS5;have hjq:j+1<q.length:=by rw [HLQ.out];omega
      refine ⟨⟨j,swI q (j+1),by go_num,by omega,by rw [QjF];exact HLQ.out,(Qhi hjq).trans HPQ.out,?_,hS5,hB5⟩,by simp [intOf]⟩;refine HIN.out.step (Nat.succ_pos j) hk (by rw [HLQ.out];exact hlt) ?_;unfold kyI;have h1:=HX.out;have h2:=HY.out;rw [h2,show j+1 - 1=j by omega,h1];exact HGT.out
     ·have hc:¬ Qj x y > 0:=by unfold Qj;split <;> (try split) <;> omega
      have HGT:=Qh hgt;generalize Qj x y=cc at *;clear hgt hx hy p0 p1 f0 f1 q0 q1 g0 g1;go_wp2_with fail;refine ⟨⟨i+1,q,by go_num,by omega,.inl (by omega),HLQ.out,HPQ.out,HIN.out.done hk (.inr ?_),HS2.out,HB2.out⟩,by simp [intOf];omega⟩;have h1:=HX.out;have h2:=HY.out;have h3:=HGT.out;unfold kyI;rw [h2,show j+1 - 1=j by omega,h1];omega
    ·obtain rfl:k=0:=by omega
     have HSS:=Qh hS;have HBB:=Qh hBl;clear hS hBl;go_upto_region 5 with fail;refine Qc (by kernel_rfl) [] (S:=fun w'=>True) trivial (fun hHeld=>?_);(refine kL 0 rfl ?_;refine kL 1 rfl ?_;refine kL 2 rfl ?_)
     (refine uL 3 rfl ?_;refine uL 4 rfl ?_;refine uL 5 rfl ?_;refine uL 6 rfl ?_;refine uL 7 rfl ?_;refine uL 8 rfl ?_;refine uL 9 rfl ?_;refine uL 10 rfl ?_;refine uL 11 rfl ?_;refine uL 12 rfl ?_;refine uL 13 rfl ?_)
     refine kL 14 rfl ?_;refine dT ?_;clear hHeld;go_wp2_with fail;refine ⟨⟨i+1,q,by go_num,by omega,.inl (by omega),hlq,HPQ.out,HIN.out.done (Nat.zero_le _) (.inl rfl),HSS.out.drew,HBB.out.trans ((Below.refl _ _).drew.mono (Qt HBS.out HBB.out.size))⟩,by simp [intOf];omega⟩
  ·have HS:=Qh hS;have HBl:=Qh hBl;have HPW:=Qh (SoI.pw (m:=m) (by rw [hlm];exact fun a b h1 h2=>hso a b h1 (by omega)));have HPM:=Qh hpm;clear hS hBl hso hpm;go_wp2_with fail;go_ret
   exact ⟨m,rfl,HS.out,HPM.out,HPW.out,HBl.out⟩
structure FlK (Y:Nat->Value->World->Prop) (W0:World) (b:Nat->Bool) (x:Nat->Value) (W:World):Prop where
 bl:Below W0.heap.size W0 W
 ok:∀ i,b i=true->Y i (x i) W
theorem FlK.start (Y:Nat->Value->World->Prop) (W0:World) (x:Nat->Value):FlK Y W0 (fun _=>false) x W0:=⟨Below.refl _ _,fun _ h=>nomatch h⟩
theorem FlK.put {Y:Nat->Value->World->Prop} {W0 W W':World} {b:Nat->Bool} {x:Nat->Value} (h:FlK Y W0 b x W) (hY:∀ i v,Kp (Y i v)) {i:Nat} {v:Value} (hb:Below W.heap.size W W') (h0:Y i v W'):FlK Y W0 (QC b i true) (QC x i v) W':=
 ⟨h.bl.trans (hb.mono h.bl.size),fun k hk=>by
  by_cases e:k=i
  ·subst e;rw [Qe];exact h0
  ·rw [Qd _ _ e] at hk |-;exact (hY _ _).up (h.ok k hk) hb⟩
theorem It.shp {w:World} {v:Value} {z:Int} (h:It w v z):∃ p:Bool × Option Addr × Nat × Nat,v = .agg #[.bool p.1,.slice p.2.1 p.2.2.1 p.2.2.2]:=by
 obtain ⟨s,a,n,c,e⟩:=h.shape;exact ⟨(s,a,n,c),e⟩
theorem QgO:∀ (ps:List Nat) (o:List Int) (y:Int),y ∈ o->y ∈ rfI o ps
 | [],_,_,h=>h
 | _ :: ps,o,y,h=>QgO ps _ y (List.mem_append_left _ h)
theorem Qj4 {n:Nat} {ps:List Nat} (hn:1<=n) (hl:n<1099511627776) (h:Prs n ps):ps.length<=25:=by
 have h1:=Qi7 hn h (Qaf hn);have h2:=YW (Qaf hn) hn hl;rcases Nat.lt_or_ge 25 ps.length with e|e
 ·have:=Nat.pow_le_pow_right (show 0<2 by decide) e;have h9:2 ^ (25+1)=67108864:=by decide
  omega
 ·exact e
theorem Qib {n:Nat} {ps:List Nat} (hn:1<=n) (hl:n<1099511627776) (h:Prs n ps):∀ y ∈ rfI [1,-1] ps,sz y<=2:=fun y hy=>by
 have hP:∀ p ∈ ps,Pri p:=fun p h'=>((h.2 p).1 h').1;have h1:=(Qae hP h.1 _).1 (QcR.1 ((QgJ ps 1).mem_iff.1 hy));have h2:=Qgc h1.1 h1.2.1 (fun q hq hqd=>((h.2 q).1 (h1.2.2 q hq hqd)).2);exact QbI (Nat.lt_of_le_of_lt (Nat.le_of_dvd hn h2) hl)
theorem Qhz {o:List Int} {p:Int} {k:Nat} (hk:k<o.length):o ++ (o.take k).map (· * p) ++ [o.getD k 0*p]=o ++ (o.take (k+1)).map (· * p):=by
 rw [Qcx hk 0,List.map_append,List.append_assoc];rfl
theorem Qhf {o l:List Int} {k:Nat} (hk:k<o.length):(o ++ l).getD k 0=o.getD k 0:=by
 rw [List.getD_eq_getElem?_getD,List.getElem?_append_left hk,<- List.getD_eq_getElem?_getD]
theorem Qa4 (va:Value) (x:Int) (w:World) (hx:It w va x) (h0:x ≠ 0) (hlt:x.natAbs<1099511627776) :
  Calls Tryz.prog 22 #[va] w fun e w'=>∃ v l,e = .returned v/\Sr eI w' v l/\Cand x.natAbs l/\Below w.heap.size w w':=by
 have hsx:=QbI hlt;obtain ⟨W,s1,a1,n1,c1,rfl,hW,b,vX,-,p0,p1,hx'⟩:=Qfj w hx;clear hx;go_enter Tryz.func22,Tryz.ntmps22
 go_upto_region 1 with fail;rw [<- hW];clear hW vX;refine Qc (by kernel_rfl) [] (S:=fun w'=>w'.cell? ⟨w.heap.size,0,none⟩=some (.bool s1)/\w'.cell? ⟨w.heap.size,1,none⟩=some (.slice a1 n1 c1)) ⟨p0,p1⟩ (fun hHeld=>?_);replace b:=Bl.drew b;replace hx':=hx'.drew;replace p0:=Qv p0;replace p1:=Qv p1;generalize W.drew=W1 at *;refine kL 3 rfl ?_;clear hHeld;have HB:=Qh b;have HX:=Qh hx';have HP0:=Qh p0;have HP1:=Qh p1;clear b hx' p0 p1
 have kY:∀ (i:Nat) (v:Value),Kp ((fun i v w'=>(i=0->It w' v 1)/\(i=1->It w' v (-1))/\(i=2->So eI w' w.heap.size v [1,-1])/\(i=4->∃ ps,So e64 w' w.heap.size v (zI ps)/\Prs x.natAbs ps):Nat->Value->World->Prop) i v):=
  fun i v=>⟨fun h hb=>⟨fun e=>(h.1 e).up hb,fun e=>(h.2.1 e).up hb,fun e=>(h.2.2.1 e).up hb,fun e=>by obtain ⟨ps,h1,h2⟩:=h.2.2.2 e;exact ⟨ps,h1.up hb,h2⟩⟩⟩
 refine Qu [(0,some 8),(1,some 9),(2,some 10),(4,some 12)] 2 (FlK (fun i v w'=>(i=0->It w' v 1)/\(i=1->It w' v (-1))/\(i=2->So eI w' w.heap.size v [1,-1])/\(i=4->∃ ps,So e64 w' w.heap.size v (zI ps)/\Prs x.natAbs ps)) W1) rfl (by kernel_rfl) (by decide) (by kernel_rfl) (by kernel_rfl) (by kernel_rfl) (fun bb xx wz h=>⟨Qb h.bl HP0.out,Qb h.bl HP1.out⟩) (fun xx=>FlK.start _ _ _) ?_ ?_
 ·intro i hi;have hi':i=0\/i=1\/i=2\/i=4:=by simpa using hi
  clear hi;rcases hi' with rfl|rfl|rfl|rfl
  ·refine ⟨_,rfl,fun bb xx wz hJ hbf hw K hK=>?_⟩;clear hbf hw;simp only [QD] at hK |-;go_simp;refine (Qo 1 wz (by decide) (by decide)).mono ?_;rintro e w8 ⟨v,rfl,hv,hb⟩;exact hK.out _ _ (hJ.put kY (i:=0) hb ⟨fun _=>hv,fun h=>absurd h (by decide),fun h=>absurd h (by decide),fun h=>absurd h (by decide)⟩)
  ·refine ⟨_,rfl,fun bb xx wz hJ hbf hw K hK=>?_⟩;clear hbf hw;simp only [QD] at hK |-;go_simp;refine (Qo (-1) wz (by decide) (by decide)).mono ?_;rintro e w8 ⟨v,rfl,hv,hb⟩;exact hK.out _ _ (hJ.put kY (i:=1) hb ⟨fun h=>absurd h (by decide),fun _=>hv,fun h=>absurd h (by decide),fun h=>absurd h (by decide)⟩)
  ·refine ⟨_,rfl,fun bb xx wz hJ hbf hw K hK=>?_⟩;have h0:=(hJ.ok 0 (hw 0 (by kernel_rfl))).1 rfl;have h1:=(hJ.ok 1 (hw 1 (by kernel_rfl))).2.1 rfl;have hp:=Classical.choose_spec h0.shp;have hq:=Classical.choose_spec h1.shp;generalize Classical.choose h0.shp=p at hp;generalize Classical.choose h1.shp=q at hq;rw [show xx 0=_ from hp] at h0;rw [show xx 1=_ from hq] at h1;have HI0:=Qh h0;have HI1:=Qh h1;clear hbf hw h0 h1;simp only [QD,show xx 0=_ from hp,show xx 1=_ from hq] at hK |-;clear hp hq;go_simp;exact hK.out _ _ (hJ.put kY (i:=2) (Qa wz (.cells #[.bool p.1,.slice p.2.1 p.2.2.1 p.2.2.2,.bool q.1,.slice q.2.1 q.2.2.1 q.2.2.2] 33)) ⟨fun h=>absurd h (by decide),fun h=>absurd h (by decide),fun _=>So.ints2 (heap_alloc_new wz (.cells #[.bool p.1,.slice p.2.1 p.2.2.1 p.2.2.2,.bool q.1,.slice q.2.1 q.2.2.1 q.2.2.2] 33)) (Qt HB.out.size hJ.bl.size) (HI0.out.alloc _) (HI1.out.alloc _),fun h=>absurd h (by decide)⟩)
  ·refine ⟨_,rfl,fun bb xx wz hJ hbf hw K hK=>?_⟩;clear hbf hw;simp only [QD] at hK |-;go_simp;refine (QdE _ x wz (HX.out.up hJ.bl) h0 hlt).mono ?_;rintro e w8 ⟨v,ps,rfl,hs,-,hp,hb⟩;exact hK.out _ _ (hJ.put kY (i:=4) hb ⟨fun h=>absurd h (by decide),fun h=>absurd h (by decide),fun h=>absurd h (by decide),fun _=>⟨ps,hs.base (Qt HB.out.size hJ.bl.size),hp⟩⟩)
 intro bb xx wz hbb hJ;have h2:=(hJ.ok 2 (hbb 2 (by decide))).2.2.1 rfl;obtain ⟨ps,h4,hps⟩:=(hJ.ok 4 (hbb 4 (by decide))).2.2.2 rfl;have hbz:=hJ.bl;clear hbb hJ kY;obtain ⟨u0,hu0⟩:∃ u,u=xx 0:=⟨_,rfl⟩;obtain ⟨u1,hu1⟩:∃ u,u=xx 1:=⟨_,rfl⟩;obtain ⟨g0,cap0,e2,-,-,-⟩:=h2.form.resolve_left (fun h=>by cases h.2);obtain ⟨aP,cP,e4,-⟩:=h4.slice;replace e2:xx 2 = .slice (some ⟨g0,0,none⟩) 2 cap0:=e2;rw [show xx 2=_ from e2] at h2;rw [show xx 4=_ from e4] at h4;simp only [Qdg,show xx 2=_ from e2,show xx 4=_ from e4,<- hu0,<- hu1];clear e2 e4 hu0 hu1;have hHeld:wz.cell? ⟨w.heap.size,0,none⟩=some (.bool s1)/\wz.cell? ⟨w.heap.size,1,none⟩=some (.slice a1 n1 c1):=⟨Qb hbz HP0.out,Qb hbz HP1.out⟩;have hN1:1<=x.natAbs:=by omega
 have hfew:=Qj4 hN1 hlt hps;have HSM:=Qh (Qib hN1 hlt hps);have HPS:=Qh hps;replace HB:=Qh (Bl.up HB.out hbz);have HS:=Qh h2;have HQ:=Qh h4;clear h2 h4 hbz HX HP0 HP1 hps;(refine pL 5 rfl ?_;refine pL 6 rfl ?_)
 refine dT ?_;clear hHeld;obtain ⟨L,hL⟩:∃ L,(zI ps).length=L:=⟨_,rfl⟩;have hLp:L=ps.length:=by rw [<- hL];exact Jf ps
 rw [hL] at HQ |-;rw [<- hLp] at hfew;have HLP:=Qh hLp;clear hL hLp;go_wp2_with fail
 go_loopw [3,5,6,7] (fun s3 s5 _ _ wr=>∃ (i g cap M:Nat) (o:List Int),s3 = .slice (some ⟨g,0,none⟩) M cap/\s5 = .int .i64 (i:Int)/\i<=L/\Hid (o.length=M/\rfI o (ps.drop i)=rfI [1,-1] ps)/\M=2*2 ^ i/\Hid (So eI wr w.heap.size (.slice (some ⟨g,0,none⟩) M cap) o)/\Hid (So e64 wr w.heap.size (.slice aP L cP) (zI ps))/\Hid (Below w.heap.size w wr))
  (fun _ s5 _ _ _=>L - (intOf s5).toNat)
 case atStart=>exact ⟨0,g0,cap0,2,[1,-1],rfl,rfl,Nat.zero_le _,Qh ⟨rfl,rfl⟩,rfl,HS,HQ,HB⟩
 case round=>
  clear HS HQ HB;obtain ⟨i,g,cap,M,o,rfl,rfl,hi,HO,hM,HS,HQ,HB⟩:=hrel;have hpw:2 ^ i<=2 ^ 25:=Nat.pow_le_pow_right (by decide) (by omega);rw [show 2 ^ 25=33554432 by decide] at hpw;have HMI:=Qh hM;have hMb:M<=67108864:=by omega
  clear hM hpw;by_cases hiL:i<L
  ·have i1:(i:Int)<(L:Int):=by omega
   have i0:(0:Int)<=(i:Int):=by omega
   obtain ⟨p,hp⟩:∃ p,ps.getD i 0=p:=⟨_,rfl⟩;have hil:i<ps.length:=by rw [<- HLP.out];exact hiL
   have hdr:ps.drop i=p :: ps.drop (i+1):=by rw [<- hp,List.getD_eq_getElem?_getD,List.getElem?_eq_getElem hil];exact List.drop_eq_getElem_cons hil
   have hpP:Pri p/\p ∣ x.natAbs:=(HPS.out.2 p).1 (by rw [<- hp,List.getD_eq_getElem?_getD,List.getElem?_eq_getElem hil];exact List.getElem_mem _);have hpl:p<1099511627776:=Nat.lt_of_le_of_lt (Nat.le_of_dvd hN1 hpP.2) hlt;have HP:=Qh hp;have HDR:=Qh (show rfI (o ++ o.map (· * (p:Int))) (ps.drop (i+1))=rfI [1,-1] ps by have:=HO.out.2;rw [hdr] at this;exact this);clear hp hil hdr hpP;go_wp2_with fail
   go_loopw [3,7] (fun s3 s7 wq=>∃ (k g cap Z:Nat) (q:List Int),s3 = .slice (some ⟨g,0,none⟩) Z cap/\s7 = .int .i64 (k:Int)/\k<=M/\Z=M+k/\Hid (q.length=Z/\q=o ++ (o.take k).map (· * (p:Int)))/\Hid (So eI wq w.heap.size (.slice (some ⟨g,0,none⟩) Z cap) q)/\Hid (So e64 wq w.heap.size (.slice aP L cP) (zI ps))/\Hid (Below w.heap.size w wq))
    (fun _ s7 _=>M - (intOf s7).toNat)
   case atStart=>exact ⟨0,g,cap,M,o,rfl,rfl,Nat.zero_le _,rfl,Qh ⟨HO.out.1,by simp⟩,HS,HQ,HB⟩
   case round=>
    clear HS HQ HB;obtain ⟨k,g,cap,Z,q,rfl,rfl,hk,hK',HQQ,HS,HQ,HB⟩:=hrel;by_cases hkM:k<M
    ·have k1:(k:Int)<(M:Int):=by omega
     have k2:(k:Int)<(Z:Int):=by omega
     have k0:(0:Int)<=(k:Int):=by omega
     have hKb:Z<=134217728:=by omega
     have HKM:=Qh hK';have hko:k<o.length:=by rw [HO.out.1];exact hkM
     clear hK';obtain ⟨sx,ax,nx,kx,p0,p1,hx⟩:=HS.out.sc.int (i:=k) (by rw [HQQ.out.1];have:=HKM.out;omega);rw [Nat.zero_add] at p0 p1;have hqc:q.getD k 0=o.getD k 0:=by rw [HQQ.out.2];exact Qhf hko
     rw [hqc] at hx;obtain ⟨c,hc⟩:∃ c,o.getD k 0=c:=⟨_,rfl⟩;have hcs:sz c<=2:=HSM.out c (by rw [<- HDR.out];exact QgO _ _ _ (List.mem_append_left _ (by rw [<- hc];exact QB hko 0)));have HNX:=Qh (Qhz (o:=o) (p:=(p:Int)) hko);rw [hc] at hx HNX;obtain ⟨bP,oP,rfl,-,hla⟩:=HQ.out.sr.at (i:=i) (by rw [Jf,<- HLP.out];exact hiL);have q0:=hla.n64 (i:=i) (by rw [Jf,<- HLP.out];exact hiL);rw [QjD,HP.out] at q0;have HIX:=Qh hx;have hdj:=HS.out.disj HQ.out (by decide);have HDJ:=Qh hdj;clear hqc hc hla hx hdj hko;have j1:(i:Int)<(L:Int):=by omega
     go_upto_region 9 with fail;refine Qc (by kernel_rfl) [12] (S:=fun w'=>w'.cell? ⟨g,k*2,none⟩=some (.bool sx)/\w'.cell? ⟨g,k*2+1,none⟩=some (.slice ax nx kx)/\w'.cell? ⟨bP,oP+i,none⟩=some (.int .i64 (p:Int))) ⟨p0,p1,q0⟩ (fun hHeld=>?_);(refine kL 0 rfl ?_;refine kL 1 rfl ?_;refine kL 2 rfl ?_;refine kL 3 rfl ?_;refine kL 4 rfl ?_;refine kL 5 rfl ?_;refine kL 6 rfl ?_;refine kL 7 rfl ?_;refine kL 8 rfl ?_)
     (refine oL 9 rfl fun K hK=>tL ?_;go_simp);refine (Qo (p:Int) _ (by omega) (by omega)).mono ?_;rintro e w2 ⟨v,rfl,hv,hb⟩;obtain ⟨sp,ap,np,kp,rfl⟩:=hv.shape;replace hb:=Bl.up (Below.refl _ _).drew hb;replace HS:=Qh (HS.out.up hb);replace HQ:=Qh (HQ.out.up hb);replace HB:=Qh (Bl.up HB.out hb);replace HIX:=Qh (HIX.out.up hb);replace p0:=Qb hb p0;replace p1:=Qb hb p1;replace q0:=Qb hb q0;have HV:=Qh hv;have hps:sz (p:Int)<=2:=QbI hpl;clear hb hv;(go_wp2_with fail;clear hHeld;refine nxL hK ⟨p0,p1,q0⟩ fun hHeld=>tL ?_;clear hK);(refine oL 10 rfl fun K hK=>tL ?_;go_simp);refine (Yr _ _ c (p:Int) w2 HIX.out HV.out (by omega) (by omega)).mono ?_;rintro e w3 ⟨v,rfl,hv,hb⟩;obtain ⟨sm,am,nm,km,rfl⟩:=hv.shape;replace HS:=Qh (HS.out.up hb);replace HQ:=Qh (HQ.out.up hb);replace HB:=Qh (Bl.up HB.out hb);replace p0:=Qb hb p0;replace p1:=Qb hb p1;replace q0:=Qb hb q0;have HM:=Qh hv;clear hb hv HIX HV;(go_wp2_with fail;clear hHeld;refine nxL hK ⟨p0,p1,q0⟩ fun hHeld=>tL ?_;clear hK);(refine oL 11 rfl fun K hK=>tL ?_;go_simp);have hD:=heap_alloc_new w3 (.cells #[.bool sm,.slice am nm km] 33);have hbn:=Qa w3 (.cells #[.bool sm,.slice am nm km] 33);have hsc:=(So.ints1 (base:=0) hD (Nat.zero_le _) (HM.out.alloc _)).sc;have hS3:=HS.out.up hbn;have hQ3:=HQ.out.up hbn;have hB3:=Bl.up HB.out hbn;replace p0:=Qb hbn p0;replace p1:=Qb hbn p1;replace q0:=Qb hbn q0;have hql:q.length=Z:=HQQ.out.1;rw [<- hql] at hS3 |-;(go_wp2_with fail;clear hHeld;refine nxL hK ⟨p0,p1,q0⟩ fun hHeld=>tL ?_;clear hK);refine QU (i:=12) (by as_aux_lemma=>kernel_rfl) rfl (fun KK hKK=>?_);refine YI (E:=eI) (by rfl) (.tmp 26) (.tmp 37) _ (by rfl) Tryz.underlying46 w.heap.size _ q [c*(p:Int)] (by rfl) hS3 hB3.size w3.heap.size 0 1 1 (by rfl) rfl hsc (by decide) (by omega) ?_;intro g' cap' w4 hS4 hb4 hg4;have hQ4:=hQ3.fr hb4 (fun g hg=>hS3.nw g hg) (fun g h1 h2=>HDJ.out g h2 h1);have hB4:=ButS.below hB3 hb4 hB3.size (fun g hg=>(hS3.lt g hg).1);have HS4:=Qh (show So eI w4 w.heap.size (.slice (some ⟨g',0,none⟩) (Z+1) cap') (q ++ [c*(p:Int)]) by rw [<- hql];exact hS4);have HQ4:=Qh hQ4;have HB4:=Qh hB4;have HLN:=Qh (show (q ++ [c*(p:Int)]).length=Z+1/\q ++ [c*(p:Int)]=o ++ (o.take (k+1)).map (· * (p:Int)) from ⟨by rw [List.length_append,hql];rfl,by rw [<- HNX.out,HQQ.out.2]⟩);rw [hql];clear hS3 hQ3 hB3 hS4 hb4 hg4 hQ4 hB4 hsc hD hbn p0 p1 q0 HM HS HQ HB HNX HDJ hql;refine hKK.out _ _ nzz ?_;clear hKK hHeld;refine tL ?_;(refine pL 13 rfl ?_)
     refine dT ?_;have j7:IntKind.i64.wrap ((k:Int)+1)=((k+1:Nat):Int):=by rw [IntKind.wrap_i64];omega
     generalize q ++ [c*(p:Int)]=q2 at *;go_wp2_with fail;exact ⟨⟨k+1,g',cap',Z+1,q2,rfl,rfl,by omega,by have:=HKM.out;omega,HLN,HS4,HQ4,HB4⟩,by simp only [intOf,Int.toNat_natCast];omega⟩
    ·obtain rfl:k=M:=by omega
     have j7:IntKind.i64.wrap ((i:Int)+1)=((i+1:Nat):Int):=by rw [IntKind.wrap_i64];omega
     have HQE:=Qh (show q.length=Z/\rfI q (ps.drop (i+1))=rfI [1,-1] ps from ⟨HQQ.out.1,by rw [HQQ.out.2,<- HO.out.1,List.take_length];exact HDR.out⟩);have hKi:Z=2*2 ^ (i+1):=by rw [Nat.pow_succ,<- Nat.mul_assoc,<- HMI.out,hK'];omega
     have HKI:=Qh hKi;clear hKi HDR HQQ;go_wp2_with fail;exact ⟨⟨i+1,g,cap,Z,q,rfl,rfl,by omega,HQE,HKI.out,HS,HQ,HB⟩,by simp only [intOf,Int.toNat_natCast];omega⟩
  ·obtain rfl:i=L:=by omega
   have hoe:o=rfI [1,-1] ps:=by have:=HO.out.2;rwa [HLP.out,List.drop_length] at this
   have HOE:=Qh hoe;clear hoe;go_wp2_with fail;refine (QcG g cap w.heap.size M o wr HS.out HO.out.1 (fun y hy=>Qt (HSM.out y (HOE.out ▸ hy)) (by decide)) (by omega) HB.out.size).mono ?_;rintro e w5 ⟨m,rfl,hm,hpm,hpw,hb⟩;have HC:=Qh (Qdi hN1 HPS.out (hpm.trans (by rw [HOE.out];exact QgJ ps 1)) hpw);have HBE:=Qh (HB.out.trans hb);have HME:=Qh hm.sr;clear hm hpm hpw hb HB;go_wp2_with fail;go_ret
   exact ⟨_,m,rfl,HME.out,HC.out,HBE.out⟩
theorem QeE (va vb:Value) (a b x:Int) (w:World) (hp:Qx w va a b) (hx:It w vb x) (h0:x ≠ 0) (sb:sz b<=1000000) (sx:sz x<=1000000) :
  Calls Tryz.prog 38 #[va,vb] w fun e' w'=>∃ t,e' = .returned t/\Sx w' t x a (b / x)/\Below w.heap.size w w':=by
 have qp:=hp;obtain ⟨sp0,ap0,np0,kp0,sp1,ap1,np1,kp1,rfl,hp0,hp1⟩:=hp;obtain ⟨sq0,aq0,nq0,kq0,rfl⟩:=hx.shape;obtain ⟨F,hFD,kF⟩:∃ F:World->Prop,(∀ w',F w' ↔ (w'.heap[w.heap.size]? = some (.cells #[.bool sp0,.slice ap0 np0 kp0,.bool sp1,.slice ap1 np1 kp1] 35)/\w'.heap[w.heap.size+1]? = some (.cells #[.bool sq0,.slice aq0 nq0 kq0] 33)/\w'.heap[w.heap.size+1+1]? = some (.cells #[.bool false,.slice none 0 0,.bool false,.slice none 0 0,.bool false,.slice none 0 0] 53)/\Qx w' (.agg #[.bool sp0,.slice ap0 np0 kp0,.bool sp1,.slice ap1 np1 kp1]) (a) (b)/\It w' (.agg #[.bool sp0,.slice ap0 np0 kp0]) (a)/\It w' (.agg #[.bool sp1,.slice ap1 np1 kp1]) (b)/\It w' (.agg #[.bool sq0,.slice aq0 nq0 kq0]) (x)/\Below w.heap.size w w'))/\Kp F:=⟨fun w'=>w'.heap[w.heap.size]? = some (.cells #[.bool sp0,.slice ap0 np0 kp0,.bool sp1,.slice ap1 np1 kp1] 35)/\w'.heap[w.heap.size+1]? = some (.cells #[.bool sq0,.slice aq0 nq0 kq0] 33)/\w'.heap[w.heap.size+1+1]? = some (.cells #[.bool false,.slice none 0 0,.bool false,.slice none 0 0,.bool false,.slice none 0 0] 53)/\Qx w' (.agg #[.bool sp0,.slice ap0 np0 kp0,.bool sp1,.slice ap1 np1 kp1]) (a) (b)/\It w' (.agg #[.bool sp0,.slice ap0 np0 kp0]) (a)/\It w' (.agg #[.bool sp1,.slice ap1 np1 kp1]) (b)/\It w' (.agg #[.bool sq0,.slice aq0 nq0 kq0]) (x)/\Below w.heap.size w w',fun _=>Iff.rfl,kpf⟩;have HFD:=Qh hFD;clear hFD;have bn0:=Qa w (.cells #[.bool sp0,.slice ap0 np0 kp0,.bool sp1,.slice ap1 np1 kp1] 35);have d0:=heap_alloc_new w (.cells #[.bool sp0,.slice ap0 np0 kp0,.bool sp1,.slice ap1 np1 kp1] 35);have bn1:=Qa (w.alloc (.cells #[.bool sp0,.slice ap0 np0 kp0,.bool sp1,.slice ap1 np1 kp1] 35)) (.cells #[.bool sq0,.slice aq0 nq0 kq0] 33);have d1:=heap_alloc_new (w.alloc (.cells #[.bool sp0,.slice ap0 np0 kp0,.bool sp1,.slice ap1 np1 kp1] 35)) (.cells #[.bool sq0,.slice aq0 nq0 kq0] 33);rw [show (w.alloc (.cells #[.bool sp0,.slice ap0 np0 kp0,.bool sp1,.slice ap1 np1 kp1] 35)).heap.size=w.heap.size+1 by simp only [World.size_alloc]] at d1;have bn2:=Qa ((w.alloc (.cells #[.bool sp0,.slice ap0 np0 kp0,.bool sp1,.slice ap1 np1 kp1] 35)).alloc (.cells #[.bool sq0,.slice aq0 nq0 kq0] 33)) (.cells #[.bool false,.slice none 0 0,.bool false,.slice none 0 0,.bool false,.slice none 0 0] 53);have d2:=heap_alloc_new ((w.alloc (.cells #[.bool sp0,.slice ap0 np0 kp0,.bool sp1,.slice ap1 np1 kp1] 35)).alloc (.cells #[.bool sq0,.slice aq0 nq0 kq0] 33)) (.cells #[.bool false,.slice none 0 0,.bool false,.slice none 0 0,.bool false,.slice none 0 0] 53);rw [show ((w.alloc (.cells #[.bool sp0,.slice ap0 np0 kp0,.bool sp1,.slice ap1 np1 kp1] 35)).alloc (.cells #[.bool sq0,.slice aq0 nq0 kq0] 33)).heap.size=w.heap.size+1+1 by simp only [World.size_alloc]] at d2;have be1:=Bl.up bn1 bn2;have be0:=Bl.up bn0 be1;have HF:Hid (F (((w.alloc (.cells #[.bool sp0,.slice ap0 np0 kp0,.bool sp1,.slice ap1 np1 kp1] 35)).alloc (.cells #[.bool sq0,.slice aq0 nq0 kq0] 33)).alloc (.cells #[.bool false,.slice none 0 0,.bool false,.slice none 0 0,.bool false,.slice none 0 0] 53))):=Qh ((HFD.out _).2 ⟨(Kp.blk _ _).up d0 be1,(Kp.blk _ _).up d1 bn2,d2,qp.up be0,hp0.up be0,hp1.up be0,hx.up be0,be0⟩);clear bn0 d0 bn1 d1 bn2 d2 be0 be1 qp hp0 hp1 hx;go_enter Tryz.func38,Tryz.ntmps38
 go_upto_region 1 with fail;generalize ((w.alloc (.cells #[.bool sp0,.slice ap0 np0 kp0,.bool sp1,.slice ap1 np1 kp1] 35)).alloc (.cells #[.bool sq0,.slice aq0 nq0 kq0] 33)).alloc (.cells #[.bool false,.slice none 0 0,.bool false,.slice none 0 0,.bool false,.slice none 0 0] 53)=W at *;have hS0:bc4 W (w.heap.size) (.bool sp0) (.slice ap0 np0 kp0) (.bool sp1) (.slice ap1 np1 kp1)/\bc2 W (w.heap.size+1) (.bool sq0) (.slice aq0 nq0 kq0):=⟨QJ ((HFD.out _).1 HF.out).1,QH ((HFD.out _).1 HF.out).2.1⟩;refine Qc (by kernel_rfl) [8] (S:=fun w'=>bc4 w' (w.heap.size) (.bool sp0) (.slice ap0 np0 kp0) (.bool sp1) (.slice ap1 np1 kp1)/\bc2 w' (w.heap.size+1) (.bool sq0) (.slice aq0 nq0 kq0)) hS0 (fun hHeld=>?_);have kS:Kp fun w'=>bc4 w' (w.heap.size) (.bool sp0) (.slice ap0 np0 kp0) (.bool sp1) (.slice ap1 np1 kp1)/\bc2 w' (w.heap.size+1) (.bool sq0) (.slice aq0 nq0 kq0):=kpf;clear hS0;replace HF:=Qh (kF.dr HF.out);generalize W.drew=wa at *;(refine tS 0 rfl ?_;refine tS 1 rfl ?_;refine tS 2 rfl ?_;refine tS 3 rfl ?_;refine tS 4 rfl ?_;refine tS 5 rfl ?_)
 (refine oL 6 rfl fun K hK=>tL ?_;go_simp);refine (JS _ _ b x wa ((HFD.out _).1 HF.out).2.2.2.2.2.1 ((HFD.out _).1 HF.out).2.2.2.2.2.2.1 h0 (by omega) (by omega)).mono ?_;rintro e wc1 ⟨v,rfl,hv,hb⟩;obtain ⟨sr0,ar0,nr0,kr0,rfl⟩:=hv.shape;have hS2:=kS.up hHeld hb;replace HF:=Qh (kF.up HF.out hb);have Hr:=Qh hv;clear hb hv;(go_wp2_with fail;clear hHeld;refine nxL hK hS2 fun hHeld=>tL ?_;clear hK);clear hS2;(refine tS 7 rfl ?_)
 have HBZ:=Qh (((HFD.out _).1 HF.out).2.2.1);obtain ⟨z0,z1,z2,z3,z4,z5⟩:=QR HBZ.out;obtain ⟨y0,y1,y2,y3,y4,y5⟩:=Qac HBZ.out;(refine oL 8 rfl fun K hK=>tL ?_;go_simp);(go_wp2_with fail;refine xL hK (tL ?_);clear hK);refine dT ?_;clear hHeld;go_wp2_with fail;have hh:=Qdr HBZ.out (.bool sq0) (.slice aq0 nq0 kq0) (.bool sp0) (.slice ap0 np0 kp0) (.bool sr0) (.slice ar0 nr0 kr0);have hbt:=Qj3 wc1 (w.heap.size+1+1) (.bool sq0) (.slice aq0 nq0 kq0) (.bool sp0) (.slice ap0 np0 kp0) (.bool sr0) (.slice ar0 nr0 kr0);have hnw:=nw6 HBZ.out;exact Qby (B:=w.heap.size+1+1) rfl rfl rfl (QfV _ _ _ _ _ _ _ _ _ _ hh) ⟨_,rfl,⟨_,_,_,_,_,_,_,_,_,_,_,_,rfl,(((HFD.out _).1 HF.out).2.2.2.2.2.2.1).fr hbt hnw,(((HFD.out _).1 HF.out).2.2.2.2.1).fr hbt hnw,(Hr.out).fr hbt hnw⟩,(ButS.below ((HFD.out _).1 HF.out).2.2.2.2.2.2.2 hbt ((HFD.out _).1 HF.out).2.2.2.2.2.2.2.size (fun g e=>by omega))⟩
theorem FlI.start0 (f:Nat->Rk) (vs:List (Nat × Nat × Int)) (cs:List Nat) (W0:World) (x:Nat->Value):FlI f vs cs W0 (fun _=>false) x W0:=
 ⟨Below.refl _ _,(fun _ _ _ h=>nomatch h),(fun _ _ _ h=>nomatch h),(fun _ _ h=>nomatch h),(fun _ _ _ _ _ h=>nomatch h),(fun _ _ h=>nomatch h),(fun _ _ _ _ h=>nomatch h),fun _ _ _ h=>nomatch h⟩
theorem QkN (x y z m e:Int):Jt x y z m e=m*m*(x*(m*m)+y*(e*e))+z*(e*e*(e*e)):=by
 unfold Jt;rw [Int.mul_add];ac_rfl
theorem Qda (vs vm ve:Value) (x y z m n:Int) (w:World) (hS:Sx w vs x y z) (hm:It w vm m) (he:It w ve n) (sx:sz x<=1000000) (sy:sz y<=1000000) (sz1:sz z<=1000000) (sm:sz m<=1000000) (se:sz n<=1000000) :
  Calls Tryz.prog 85 #[vs,vm,ve] w fun e' w'=>∃ v,e' = .returned v/\It w' v (Jt x y z m n)/\Below w.heap.size w w':=by
 have qp:=hS;obtain ⟨sp0,ap0,np0,kp0,sp1,ap1,np1,kp1,sp2,ap2,np2,kp2,rfl,hp0,hp1,hp2⟩:=hS;obtain ⟨sq0,aq0,nq0,kq0,rfl⟩:=hm.shape;obtain ⟨sr0,ar0,nr0,kr0,rfl⟩:=he.shape;obtain ⟨F,hFD,kF⟩:∃ F:World->Prop,(∀ w',F w' ↔ (w'.heap[w.heap.size]? = some (.cells #[.bool sp0,.slice ap0 np0 kp0,.bool sp1,.slice ap1 np1 kp1,.bool sp2,.slice ap2 np2 kp2] 53)/\w'.heap[w.heap.size+1]? = some (.cells #[.bool sq0,.slice aq0 nq0 kq0] 33)/\w'.heap[w.heap.size+1+1]? = some (.cells #[.bool sr0,.slice ar0 nr0 kr0] 33)/\w'.heap[w.heap.size+1+1+1]? = some (.cells #[.bool false,.slice none 0 0] 33)/\Sx w' (.agg #[.bool sp0,.slice ap0 np0 kp0,.bool sp1,.slice ap1 np1 kp1,.bool sp2,.slice ap2 np2 kp2]) (x) (y) (z)/\It w' (.agg #[.bool sp0,.slice ap0 np0 kp0]) (x)/\It w' (.agg #[.bool sp1,.slice ap1 np1 kp1]) (y)/\It w' (.agg #[.bool sp2,.slice ap2 np2 kp2]) (z)/\It w' (.agg #[.bool sq0,.slice aq0 nq0 kq0]) (m)/\It w' (.agg #[.bool sr0,.slice ar0 nr0 kr0]) (n)/\Below w.heap.size w w'))/\Kp F:=⟨fun w'=>w'.heap[w.heap.size]? = some (.cells #[.bool sp0,.slice ap0 np0 kp0,.bool sp1,.slice ap1 np1 kp1,.bool sp2,.slice ap2 np2 kp2] 53)/\w'.heap[w.heap.size+1]? = some (.cells #[.bool sq0,.slice aq0 nq0 kq0] 33)/\w'.heap[w.heap.size+1+1]? = some (.cells #[.bool sr0,.slice ar0 nr0 kr0] 33)/\w'.heap[w.heap.size+1+1+1]? = some (.cells #[.bool false,.slice none 0 0] 33)/\Sx w' (.agg #[.bool sp0,.slice ap0 np0 kp0,.bool sp1,.slice ap1 np1 kp1,.bool sp2,.slice ap2 np2 kp2]) (x) (y) (z)/\It w' (.agg #[.bool sp0,.slice ap0 np0 kp0]) (x)/\It w' (.agg #[.bool sp1,.slice ap1 np1 kp1]) (y)/\It w' (.agg #[.bool sp2,.slice ap2 np2 kp2]) (z)/\It w' (.agg #[.bool sq0,.slice aq0 nq0 kq0]) (m)/\It w' (.agg #[.bool sr0,.slice ar0 nr0 kr0]) (n)/\Below w.heap.size w w',fun _=>Iff.rfl,kpf⟩;have HFD:=Qh hFD;clear hFD;have bn0:=Qa w (.cells #[.bool sp0,.slice ap0 np0 kp0,.bool sp1,.slice ap1 np1 kp1,.bool sp2,.slice ap2 np2 kp2] 53);have d0:=heap_alloc_new w (.cells #[.bool sp0,.slice ap0 np0 kp0,.bool sp1,.slice ap1 np1 kp1,.bool sp2,.slice ap2 np2 kp2] 53);have bn1:=Qa (w.alloc (.cells #[.bool sp0,.slice ap0 np0 kp0,.bool sp1,.slice ap1 np1 kp1,.bool sp2,.slice ap2 np2 kp2] 53)) (.cells #[.bool sq0,.slice aq0 nq0 kq0] 33);have d1:=heap_alloc_new (w.alloc (.cells #[.bool sp0,.slice ap0 np0 kp0,.bool sp1,.slice ap1 np1 kp1,.bool sp2,.slice ap2 np2 kp2] 53)) (.cells #[.bool sq0,.slice aq0 nq0 kq0] 33);rw [show (w.alloc (.cells #[.bool sp0,.slice ap0 np0 kp0,.bool sp1,.slice ap1 np1 kp1,.bool sp2,.slice ap2 np2 kp2] 53)).heap.size=w.heap.size+1 by simp only [World.size_alloc]] at d1;have bn2:=Qa ((w.alloc (.cells #[.bool sp0,.slice ap0 np0 kp0,.bool sp1,.slice ap1 np1 kp1,.bool sp2,.slice ap2 np2 kp2] 53)).alloc (.cells #[.bool sq0,.slice aq0 nq0 kq0] 33)) (.cells #[.bool sr0,.slice ar0 nr0 kr0] 33);have d2:=heap_alloc_new ((w.alloc (.cells #[.bool sp0,.slice ap0 np0 kp0,.bool sp1,.slice ap1 np1 kp1,.bool sp2,.slice ap2 np2 kp2] 53)).alloc (.cells #[.bool sq0,.slice aq0 nq0 kq0] 33)) (.cells #[.bool sr0,.slice ar0 nr0 kr0] 33);rw [show ((w.alloc (.cells #[.bool sp0,.slice ap0 np0 kp0,.bool sp1,.slice ap1 np1 kp1,.bool sp2,.slice ap2 np2 kp2] 53)).alloc (.cells #[.bool sq0,.slice aq0 nq0 kq0] 33)).heap.size=w.heap.size+1+1 by simp only [World.size_alloc]] at d2;have bn3:=Qa (((w.alloc (.cells #[.bool sp0,.slice ap0 np0 kp0,.bool sp1,.slice ap1 np1 kp1,.bool sp2,.slice ap2 np2 kp2] 53)).alloc (.cells #[.bool sq0,.slice aq0 nq0 kq0] 33)).alloc (.cells #[.bool sr0,.slice ar0 nr0 kr0] 33)) (.cells #[.bool false,.slice none 0 0] 33);have d3:=heap_alloc_new (((w.alloc (.cells #[.bool sp0,.slice ap0 np0 kp0,.bool sp1,.slice ap1 np1 kp1,.bool sp2,.slice ap2 np2 kp2] 53)).alloc (.cells #[.bool sq0,.slice aq0 nq0 kq0] 33)).alloc (.cells #[.bool sr0,.slice ar0 nr0 kr0] 33)) (.cells #[.bool false,.slice none 0 0] 33);rw [show (((w.alloc (.cells #[.bool sp0,.slice ap0 np0 kp0,.bool sp1,.slice ap1 np1 kp1,.bool sp2,.slice ap2 np2 kp2] 53)).alloc (.cells #[.bool sq0,.slice aq0 nq0 kq0] 33)).alloc (.cells #[.bool sr0,.slice ar0 nr0 kr0] 33)).heap.size=w.heap.size+1+1+1 by simp only [World.size_alloc]] at d3;have be2:=Bl.up bn2 bn3;have be1:=Bl.up bn1 be2;have be0:=Bl.up bn0 be1;have HF:Hid (F ((((w.alloc (.cells #[.bool sp0,.slice ap0 np0 kp0,.bool sp1,.slice ap1 np1 kp1,.bool sp2,.slice ap2 np2 kp2] 53)).alloc (.cells #[.bool sq0,.slice aq0 nq0 kq0] 33)).alloc (.cells #[.bool sr0,.slice ar0 nr0 kr0] 33)).alloc (.cells #[.bool false,.slice none 0 0] 33))):=Qh ((HFD.out _).2 ⟨(Kp.blk _ _).up d0 be1,(Kp.blk _ _).up d1 be2,(Kp.blk _ _).up d2 bn3,d3,qp.up be0,hp0.up be0,hp1.up be0,hp2.up be0,hm.up be0,he.up be0,be0⟩);clear bn0 d0 bn1 d1 bn2 d2 bn3 d3 be0 be1 be2 qp hp0 hp1 hp2 hm he;go_enter Tryz.func85,Tryz.ntmps85
 go_upto_region 1 with fail;generalize (((w.alloc (.cells #[.bool sp0,.slice ap0 np0 kp0,.bool sp1,.slice ap1 np1 kp1,.bool sp2,.slice ap2 np2 kp2] 53)).alloc (.cells #[.bool sq0,.slice aq0 nq0 kq0] 33)).alloc (.cells #[.bool sr0,.slice ar0 nr0 kr0] 33)).alloc (.cells #[.bool false,.slice none 0 0] 33)=W at *;have hS0:bc6 W (w.heap.size) (.bool sp0) (.slice ap0 np0 kp0) (.bool sp1) (.slice ap1 np1 kp1) (.bool sp2) (.slice ap2 np2 kp2)/\bc2 W (w.heap.size+1) (.bool sq0) (.slice aq0 nq0 kq0)/\bc2 W (w.heap.size+1+1) (.bool sr0) (.slice ar0 nr0 kr0):=⟨QR ((HFD.out _).1 HF.out).1,QH ((HFD.out _).1 HF.out).2.1,QH ((HFD.out _).1 HF.out).2.2.1⟩;refine Qc (by kernel_rfl) [8,9] (S:=fun w'=>bc6 w' (w.heap.size) (.bool sp0) (.slice ap0 np0 kp0) (.bool sp1) (.slice ap1 np1 kp1) (.bool sp2) (.slice ap2 np2 kp2)/\bc2 w' (w.heap.size+1) (.bool sq0) (.slice aq0 nq0 kq0)/\bc2 w' (w.heap.size+1+1) (.bool sr0) (.slice ar0 nr0 kr0)) hS0 (fun hHeld=>?_);have kS:Kp fun w'=>bc6 w' (w.heap.size) (.bool sp0) (.slice ap0 np0 kp0) (.bool sp1) (.slice ap1 np1 kp1) (.bool sp2) (.slice ap2 np2 kp2)/\bc2 w' (w.heap.size+1) (.bool sq0) (.slice aq0 nq0 kq0)/\bc2 w' (w.heap.size+1+1) (.bool sr0) (.slice ar0 nr0 kr0):=kpf;clear hS0;replace HF:=Qh (kF.dr HF.out);generalize W.drew=wa at *;(refine tS 0 rfl ?_;refine tS 1 rfl ?_;refine tS 3 rfl ?_;refine tS 4 rfl ?_)
 have HS0:=Qh hHeld;clear hHeld;refine Qu [(2,some 11),(5,some 14),(6,some 7),(7,some 8),(8,none),(9,none)] 0 (FlI (fun i=>if i=2 then .int (m*m) else if i=5 then .int (n*n) else .any) [(6,8,m*m),(7,9,n*n)] [] wa) rfl (by kernel_rfl) (by decide) (by kernel_rfl) (by kernel_rfl) (by kernel_rfl) (fun bb xx wz h=>(fun hb'=>kS.up HS0.out hb') h.bl) (fun xx=>FlI.start0 _ _ _ _ _) ?_ ?_
 ·intro i hi;have hi':i=2\/i=5\/i=6\/i=7\/i=8\/i=9:=by simpa using hi
  clear hi;rcases hi' with rfl|rfl|rfl|rfl|rfl|rfl
  ·refine ⟨_,rfl,fun bb xx wz hJ hbf hw K hK=>?_⟩;clear hbf hw;simp only [QD] at hK |-;go_simp;refine (Yr _ _ m m wz (((HFD.out _).1 HF.out).2.2.2.2.2.2.2.2.1.up hJ.bl) (((HFD.out _).1 HF.out).2.2.2.2.2.2.2.2.1.up hJ.bl) (by omega) (by omega)).mono ?_;rintro e w8 ⟨v,rfl,hv,hb⟩;exact hK.out _ _ (hJ.put 2 rfl (by intro u hu;simp only [List.mem_cons,List.not_mem_nil,or_false] at hu;rcases hu with rfl|rfl <;> simp) hv hb)
  ·refine ⟨_,rfl,fun bb xx wz hJ hbf hw K hK=>?_⟩;clear hbf hw;simp only [QD] at hK |-;go_simp;refine (Yr _ _ n n wz (((HFD.out _).1 HF.out).2.2.2.2.2.2.2.2.2.1.up hJ.bl) (((HFD.out _).1 HF.out).2.2.2.2.2.2.2.2.2.1.up hJ.bl) (by omega) (by omega)).mono ?_;rintro e w8 ⟨v,rfl,hv,hb⟩;exact hK.out _ _ (hJ.put 5 rfl (by intro u hu;simp only [List.mem_cons,List.not_mem_nil,or_false] at hu;rcases hu with rfl|rfl <;> simp) hv hb)
  ·refine ⟨_,rfl,fun bb xx wz hJ hbf hw K hK=>?_⟩;clear hw;simp only [QD] at hK |-;go_simp;exact hK.out _ _ (hJ.var 6 (v:=(6,8,m*m)) (by simp) rfl hbf rfl (by intro u hu;simp only [List.mem_cons,List.not_mem_nil,or_false] at hu;rcases hu with rfl|rfl <;> simp))
  ·refine ⟨_,rfl,fun bb xx wz hJ hbf hw K hK=>?_⟩;clear hw;simp only [QD] at hK |-;go_simp;exact hK.out _ _ (hJ.var 7 (v:=(7,9,n*n)) (by simp) rfl hbf rfl (by intro u hu;simp only [List.mem_cons,List.not_mem_nil,or_false] at hu;rcases hu with rfl|rfl <;> simp))
  ·refine ⟨_,rfl,fun bb xx wz hJ hbf hw K hK=>?_⟩;have hv:=hw 6 (by kernel_rfl);have hd:=hJ.sto (v:=(6,8,m*m)) (by simp) hv (hJ.int 2 _ rfl (hw 2 (by kernel_rfl)));have hh:=Classical.choose_spec hd;generalize Classical.choose hd=p at hh;have hxu:xx 2=_:=hh.hv;have hxv:xx 6=_:=hh.hx;have d0:=hh.c0;have d1:=hh.c1;have f0:=hh.f0;have f1:=hh.f1;have HJ:=Qh hJ;have HH:=Qh hh;clear hbf hw hh hJ hd;simp only [QD,hxu,hxv] at hK |-;clear hxu hxv;go_simp;go_wp2_with fail;exact hK.out _ _ (HJ.out.st 8 (v:=(6,8,m*m)) (by simp) rfl rfl (by intro u hu;simp only [List.mem_cons,List.not_mem_nil,or_false] at hu;rcases hu with rfl|rfl <;> simp) (by intro u hu;simp only [List.mem_cons,List.not_mem_nil,or_false] at hu;rcases hu with rfl|rfl <;> simp) hv (by simp) HH.out (d:=undef))
  ·refine ⟨_,rfl,fun bb xx wz hJ hbf hw K hK=>?_⟩;have hv:=hw 7 (by kernel_rfl);have hd:=hJ.sto (v:=(7,9,n*n)) (by simp) hv (hJ.int 5 _ rfl (hw 5 (by kernel_rfl)));have hh:=Classical.choose_spec hd;generalize Classical.choose hd=p at hh;have hxu:xx 5=_:=hh.hv;have hxv:xx 7=_:=hh.hx;have d0:=hh.c0;have d1:=hh.c1;have f0:=hh.f0;have f1:=hh.f1;have HJ:=Qh hJ;have HH:=Qh hh;clear hbf hw hh hJ hd;simp only [QD,hxu,hxv] at hK |-;clear hxu hxv;go_simp;go_wp2_with fail;exact hK.out _ _ (HJ.out.st 9 (v:=(7,9,n*n)) (by simp) rfl rfl (by intro u hu;simp only [List.mem_cons,List.not_mem_nil,or_false] at hu;rcases hu with rfl|rfl <;> simp) (by intro u hu;simp only [List.mem_cons,List.not_mem_nil,or_false] at hu;rcases hu with rfl|rfl <;> simp) hv (by simp) HH.out (d:=undef))
 intro bb xx wz hbb hJ;obtain ⟨B6,e6,hB6,-,hV6⟩:=hJ.vr (6,8,m*m) (by simp) (hbb 6 (by decide));replace hV6:=hV6 (hbb 8 (by decide));dsimp only at hV6;obtain ⟨B7,e7,hB7,-,hV7⟩:=hJ.vr (7,9,n*n) (by simp) (hbb 7 (by decide));replace hV7:=hV7 (hbb 9 (by decide));dsimp only at hV7;have hne01:B6 ≠ B7:=fun e=>hJ.ne (6,8,m*m) (by simp) (7,9,n*n) (by simp) (show 6 ≠ 7 by decide) (hbb 6 (by decide)) (hbb 7 (by decide)) (show xx 6=xx 7 by rw [show xx 6=_ from e6,show xx 7=_ from e7,e]);have hbz:=hJ.bl;clear hbb hJ;obtain ⟨u2,hu2⟩:∃ u,u=xx 2:=⟨_,rfl⟩;obtain ⟨u5,hu5⟩:∃ u,u=xx 5:=⟨_,rfl⟩;simp only [Qdg,show xx 6=_ from e6,show xx 7=_ from e7,<- hu2,<- hu5];clear e6 e7 hu2 hu5;have hHeld:bc6 wz (w.heap.size) (.bool sp0) (.slice ap0 np0 kp0) (.bool sp1) (.slice ap1 np1 kp1) (.bool sp2) (.slice ap2 np2 kp2)/\bc2 wz (w.heap.size+1) (.bool sq0) (.slice aq0 nq0 kq0)/\bc2 wz (w.heap.size+1+1) (.bool sr0) (.slice ar0 nr0 kr0):=kS.up HS0.out hbz;replace HF:=Qh (kF.up HF.out hbz);clear hbz HS0 hB6 hB7 hne01;refine dT ?_;clear hHeld kS;have HV6:=Qh hV6;have HV7:=Qh hV7;clear hV6 hV7;obtain ⟨s6,a6,n6,k6,r0,r1,-,-,hi6⟩:=HV6.out.cells;obtain ⟨s7,a7,n7,k7,t0,t1,-,-,hi7⟩:=HV7.out.cells;have HMM:=Qh hi6;have HEE:=Qh hi7;have hS0:bc6 wz (w.heap.size) (.bool sp0) (.slice ap0 np0 kp0) (.bool sp1) (.slice ap1 np1 kp1) (.bool sp2) (.slice ap2 np2 kp2)/\bc2 wz B6 (.bool s6) (.slice a6 n6 k6)/\bc2 wz B7 (.bool s7) (.slice a7 n7 k7):=⟨QR ((HFD.out _).1 HF.out).1,⟨r0,r1⟩,⟨t0,t1⟩⟩;clear r0 r1 t0 t1 hi6 hi7 HV6 HV7;go_upto_region 2 with fail;refine Qc (by kernel_rfl) [18] (S:=fun w'=>bc6 w' (w.heap.size) (.bool sp0) (.slice ap0 np0 kp0) (.bool sp1) (.slice ap1 np1 kp1) (.bool sp2) (.slice ap2 np2 kp2)/\bc2 w' B6 (.bool s6) (.slice a6 n6 k6)/\bc2 w' B7 (.bool s7) (.slice a7 n7 k7)) hS0 (fun hHeld=>?_);have kS:Kp fun w'=>bc6 w' (w.heap.size) (.bool sp0) (.slice ap0 np0 kp0) (.bool sp1) (.slice ap1 np1 kp1) (.bool sp2) (.slice ap2 np2 kp2)/\bc2 w' B6 (.bool s6) (.slice a6 n6 k6)/\bc2 w' B7 (.bool s7) (.slice a7 n7 k7):=kpf;clear hS0;replace HF:=Qh (kF.dr HF.out);replace HMM:=Qh HMM.out.drew;replace HEE:=Qh HEE.out.drew;generalize wz.drew=wd at *;have z1:=Qk m m;have z2:=Qk n n;have z3:=Qk x (m*m);have z4:=Qk y (n*n);have z5:=YS (x*(m*m)) (y*(n*n));have z6:=Qk (m*m) (x*(m*m)+y*(n*n));have z7:=Qk (n*n) (n*n);have z8:=Qk z (n*n*(n*n));(refine tS 0 rfl ?_;refine tS 1 rfl ?_;refine tS 2 rfl ?_;refine tS 3 rfl ?_;refine tS 5 rfl ?_;refine tS 6 rfl ?_;refine tS 7 rfl ?_;refine tS 11 rfl ?_;refine tS 12 rfl ?_;refine tS 13 rfl ?_;refine tS 14 rfl ?_)
 (refine oL 4 rfl fun K hK=>tL ?_;go_simp);refine (Yr _ _ x (m*m) wd ((HFD.out _).1 HF.out).2.2.2.2.2.1 HMM.out (by omega) (by omega)).mono ?_;rintro e wc1 ⟨v,rfl,hv,hb⟩;obtain ⟨sra0,ara0,nra0,kra0,rfl⟩:=hv.shape;have hS2:=kS.up hHeld hb;replace HMM:=Qh (HMM.out.up hb);replace HEE:=Qh (HEE.out.up hb);replace HF:=Qh (kF.up HF.out hb);have Hra:=Qh hv;clear hb hv;(go_wp2_with fail;clear hHeld;refine nxL hK hS2 fun hHeld=>tL ?_;clear hK);clear hS2;(refine oL 8 rfl fun K hK=>tL ?_;go_simp);refine (Yr _ _ y (n*n) wc1 ((HFD.out _).1 HF.out).2.2.2.2.2.2.1 HEE.out (by omega) (by omega)).mono ?_;rintro e wc2 ⟨v,rfl,hv,hb⟩;obtain ⟨srb0,arb0,nrb0,krb0,rfl⟩:=hv.shape;have hS2:=kS.up hHeld hb;replace HMM:=Qh (HMM.out.up hb);replace HEE:=Qh (HEE.out.up hb);replace Hra:=Qh (Hra.out.up hb);replace HF:=Qh (kF.up HF.out hb);have Hrb:=Qh hv;clear hb hv;(go_wp2_with fail;clear hHeld;refine nxL hK hS2 fun hHeld=>tL ?_;clear hK);clear hS2;(refine oL 9 rfl fun K hK=>tL ?_;go_simp);refine (Jm _ _ (x*(m*m)) (y*(n*n)) wc2 Hra.out Hrb.out (by omega) (by omega)).mono ?_;rintro e wc3 ⟨v,rfl,hv,hb⟩;obtain ⟨src0,arc0,nrc0,krc0,rfl⟩:=hv.shape;have hS2:=kS.up hHeld hb;replace HMM:=Qh (HMM.out.up hb);replace HEE:=Qh (HEE.out.up hb);replace Hra:=Qh (Hra.out.up hb);replace Hrb:=Qh (Hrb.out.up hb);replace HF:=Qh (kF.up HF.out hb);have Hrc:=Qh hv;clear hb hv;(go_wp2_with fail;clear hHeld;refine nxL hK hS2 fun hHeld=>tL ?_;clear hK);clear hS2;(refine oL 10 rfl fun K hK=>tL ?_;go_simp);refine (Yr _ _ (m*m) (x*(m*m)+y*(n*n)) wc3 HMM.out Hrc.out (by omega) (by omega)).mono ?_;rintro e wc4 ⟨v,rfl,hv,hb⟩;obtain ⟨srd0,ard0,nrd0,krd0,rfl⟩:=hv.shape;have hS2:=kS.up hHeld hb;replace HMM:=Qh (HMM.out.up hb);replace HEE:=Qh (HEE.out.up hb);replace Hra:=Qh (Hra.out.up hb);replace Hrb:=Qh (Hrb.out.up hb);replace Hrc:=Qh (Hrc.out.up hb);replace HF:=Qh (kF.up HF.out hb);have Hrd:=Qh hv;clear hb hv;(go_wp2_with fail;clear hHeld;refine nxL hK hS2 fun hHeld=>tL ?_;clear hK);clear hS2;(refine oL 15 rfl fun K hK=>tL ?_;go_simp);refine (Yr _ _ (n*n) (n*n) wc4 HEE.out HEE.out (by omega) (by omega)).mono ?_;rintro e wc5 ⟨v,rfl,hv,hb⟩;obtain ⟨sre0,are0,nre0,kre0,rfl⟩:=hv.shape;have hS2:=kS.up hHeld hb;replace HMM:=Qh (HMM.out.up hb);replace HEE:=Qh (HEE.out.up hb);replace Hra:=Qh (Hra.out.up hb);replace Hrb:=Qh (Hrb.out.up hb);replace Hrc:=Qh (Hrc.out.up hb);replace Hrd:=Qh (Hrd.out.up hb);replace HF:=Qh (kF.up HF.out hb);have Hre:=Qh hv;clear hb hv;(go_wp2_with fail;clear hHeld;refine nxL hK hS2 fun hHeld=>tL ?_;clear hK);clear hS2;(refine oL 16 rfl fun K hK=>tL ?_;go_simp);refine (Yr _ _ z (n*n*(n*n)) wc5 ((HFD.out _).1 HF.out).2.2.2.2.2.2.2.1 Hre.out (by omega) (by omega)).mono ?_;rintro e wc6 ⟨v,rfl,hv,hb⟩;obtain ⟨srf0,arf0,nrf0,krf0,rfl⟩:=hv.shape;have hS2:=kS.up hHeld hb;replace HMM:=Qh (HMM.out.up hb);replace HEE:=Qh (HEE.out.up hb);replace Hra:=Qh (Hra.out.up hb);replace Hrb:=Qh (Hrb.out.up hb);replace Hrc:=Qh (Hrc.out.up hb);replace Hrd:=Qh (Hrd.out.up hb);replace Hre:=Qh (Hre.out.up hb);replace HF:=Qh (kF.up HF.out hb);have Hrf:=Qh hv;clear hb hv;(go_wp2_with fail;clear hHeld;refine nxL hK hS2 fun hHeld=>tL ?_;clear hK);clear hS2;(refine oL 17 rfl fun K hK=>tL ?_;go_simp);refine (Jm _ _ (m*m*(x*(m*m)+y*(n*n))) (z*(n*n*(n*n))) wc6 Hrd.out Hrf.out (by omega) (by omega)).mono ?_;rintro e wc7 ⟨v,rfl,hv,hb⟩;obtain ⟨srg0,arg0,nrg0,krg0,rfl⟩:=hv.shape;have hS2:=kS.up hHeld hb;replace HMM:=Qh (HMM.out.up hb);replace HEE:=Qh (HEE.out.up hb);replace Hra:=Qh (Hra.out.up hb);replace Hrb:=Qh (Hrb.out.up hb);replace Hrc:=Qh (Hrc.out.up hb);replace Hrd:=Qh (Hrd.out.up hb);replace Hre:=Qh (Hre.out.up hb);replace Hrf:=Qh (Hrf.out.up hb);replace HF:=Qh (kF.up HF.out hb);have Hrg:=Qh hv;clear hb hv;(go_wp2_with fail;clear hHeld;refine nxL hK hS2 fun hHeld=>tL ?_;clear hK);clear hS2;have HBZ:=Qh (((HFD.out _).1 HF.out).2.2.2.1);obtain ⟨z0,z1⟩:=QH HBZ.out;obtain ⟨y0,y1⟩:=Qkg HBZ.out;(refine oL 18 rfl fun K hK=>tL ?_;go_simp);(go_wp2_with fail;refine xL hK (tL ?_);clear hK);refine dT ?_;clear hHeld;go_wp2_with fail;have hbt:=(ButS.set wc7 (w.heap.size+1+1+1) 0 (.bool srg0)).trans (ButS.set _ (w.heap.size+1+1+1) 1 (.slice arg0 nrg0 krg0));exact Ya (B:=w.heap.size+1+1+1) rfl rfl rfl (Vx.put (Qld HBZ.out) (Hrg.out)) (fun v hv=>⟨v,rfl,(QkN x y z m n).symm ▸ hv,(ButS.below ((HFD.out _).1 HF.out).2.2.2.2.2.2.2.2.2.2 hbt ((HFD.out _).1 HF.out).2.2.2.2.2.2.2.2.2.2.size (fun g e=>by omega))⟩)
theorem Qkc (x y z m e:Int):sz (Jt x y z m e)<=sz x+sz y+sz z+4*sz m+4*sz e+2:=by
 unfold Jt;have h1:=Qk m m;have h2:=Qk e e;have h3:=Qk x (m*m);have h4:=Qk (x*(m*m)) (m*m);have h5:=Qk y (m*m);have h6:=Qk (y*(m*m)) (e*e);have h7:=Qk z (e*e);have h8:=Qk (z*(e*e)) (e*e);have h9:=YS (x*(m*m)*(m*m)) (y*(m*m)*(e*e));have h10:=YS (x*(m*m)*(m*m)+y*(m*m)*(e*e)) (z*(e*e)*(e*e));omega
theorem Qkm {x y z s r c:Int} {m k:Nat} (h0:0<=Jt x y z m k) (hg:Nat.gcd m k=1) (hs:SqrtTo (Jt x y z m k) s r c) (hr:r=0):∃ n:Nat,s=(n:Int)/\gdP x y z m k n:=by
 rcases hs with ⟨h1,-⟩|⟨-,-,n,h3,-,h5⟩
 ·omega
 ·exact ⟨n,h3,hg,h0,by rw [hr,h3] at h5;omega⟩
theorem Qlh {x y z s r c:Int} {m k n:Nat} (h:gdP x y z m k n) (hs:SqrtTo (Jt x y z m k) s r c):r=0:=by
 obtain ⟨-,h0,h⟩:=h;rcases hs with ⟨h1,-⟩|⟨-,-,s',h3,h4,h5⟩
 ·omega
 ·have h6:(Jt x y z m k).toNat=n*n:=by rw [h];exact Int.toNat_natCast (n*n)
  rw [h6] at h4;have h7:=h4.uniq (QiZ n);rw [h5,h3,h7,h];omega
theorem QjM (m k:Nat):Int.gcd (m:Int) (k:Int)<=m+k:=by
 show Nat.gcd m k<=m+k
 rcases Nat.eq_zero_or_pos m with h|h
 ·subst h;rw [Nat.gcd_zero_left];omega
 ·have:=Nat.le_of_dvd h (Nat.gcd_dvd_left m k);omega
theorem QaL (va:Value) (x y z:Int) (mo:Nat) (w:World) (h:Sx w va x y z) (hsx:sz x<=1000) (hsy:sz y<=1000) (hsz:sz z<=1000) (hmo:mo<=1000) :
  Calls Tryz.prog 39 #[va,.int .i64 mo] w fun e' w'=>∃ v b m e n ok,e' = .returned (.tuple #[v,.bool ok])/\Fnd w' v b (m:Nat) (e:Nat) (n:Nat)/\b=(if ok then x else 0)/\PtTo x y z mo m e n ok/\Below w.heap.size w w':=by
 have HS0:=Qh h;obtain ⟨s1,a1,n1,c1,s2,a2,n2,c2,s3,a3,n3,c3,rfl,hX,hY,hZ⟩:=h;go_enter Tryz.func39,Tryz.ntmps39
 go_upto_region 1 with fail;have b0:=Qa w (.cells #[.bool s1,.slice a1 n1 c1,.bool s2,.slice a2 n2 c2,.bool s3,.slice a3 n3 c3] 53);have dA:=heap_alloc_new w (.cells #[.bool s1,.slice a1 n1 c1,.bool s2,.slice a2 n2 c2,.bool s3,.slice a3 n3 c3] 53);have b1:=Qa (w.alloc (.cells #[.bool s1,.slice a1 n1 c1,.bool s2,.slice a2 n2 c2,.bool s3,.slice a3 n3 c3] 53)) (.cells #[.bool false,.slice none 0 0,.bool false,.slice none 0 0,.bool false,.slice none 0 0,.bool false,.slice none 0 0] 78);have dB:=heap_alloc_new (w.alloc (.cells #[.bool s1,.slice a1 n1 c1,.bool s2,.slice a2 n2 c2,.bool s3,.slice a3 n3 c3] 53)) (.cells #[.bool false,.slice none 0 0,.bool false,.slice none 0 0,.bool false,.slice none 0 0,.bool false,.slice none 0 0] 78);replace dA:=(b1.block _ (Ql dA).1).trans dA;rw [World.size_alloc] at dB;have bl:=Bl.up b0 b1;have HF:=Qh (And.intro dA (And.intro dB (And.intro (HS0.out.up bl) (And.intro (hX.up bl) bl))));have kF:Kp fun w'=>w'.heap[w.heap.size]? = some (.cells #[.bool s1,.slice a1 n1 c1,.bool s2,.slice a2 n2 c2,.bool s3,.slice a3 n3 c3] 53)/\w'.heap[w.heap.size+1]? = some (.cells #[.bool false,.slice none 0 0,.bool false,.slice none 0 0,.bool false,.slice none 0 0,.bool false,.slice none 0 0] 78)/\Sx w' (.agg #[.bool s1,.slice a1 n1 c1,.bool s2,.slice a2 n2 c2,.bool s3,.slice a3 n3 c3]) x y z/\It w' (.agg #[.bool s1,.slice a1 n1 c1]) x/\Below w.heap.size w w':=kpf;clear b0 b1 hX hY hZ HS0 dA dB bl;generalize ((w.alloc (.cells #[.bool s1,.slice a1 n1 c1,.bool s2,.slice a2 n2 c2,.bool s3,.slice a3 n3 c3] 53)).alloc (.cells #[.bool false,.slice none 0 0,.bool false,.slice none 0 0,.bool false,.slice none 0 0,.bool false,.slice none 0 0] 78))=W at *;go_wp2_with fail
 go_loopw [5,6,7,8,9,10,11,12,13] (fun _ s6 _ _ _ _ _ _ _ wr=>∃ m:Nat,s6 = .int .i64 (m:Int)/\m<=mo+1/\Hid (∀ m' e',m'<m->e'<=mo->∀ n',¬ gdP x y z m' e' n')/\Hid (wr.heap[w.heap.size]? = some (.cells #[.bool s1,.slice a1 n1 c1,.bool s2,.slice a2 n2 c2,.bool s3,.slice a3 n3 c3] 53)/\wr.heap[w.heap.size+1]? = some (.cells #[.bool false,.slice none 0 0,.bool false,.slice none 0 0,.bool false,.slice none 0 0,.bool false,.slice none 0 0] 78)/\Sx wr (.agg #[.bool s1,.slice a1 n1 c1,.bool s2,.slice a2 n2 c2,.bool s3,.slice a3 n3 c3]) x y z/\It wr (.agg #[.bool s1,.slice a1 n1 c1]) x/\Below w.heap.size w wr))
  (fun _ s6 _ _ _ _ _ _ _ _=>mo+1 - (intOf s6).toNat)
 case atStart=>exact ⟨0,rfl,by omega,Qh fun m' e' h=>by omega,HF⟩
 case round=>
  clear HF;obtain ⟨m,rfl,hm,HM,HF⟩:=hrel;by_cases hlt:m<=mo
  ·have hm1:(m:Int)<=(mo:Int):=by omega
   go_wp2_with fail;clear hm1
   go_loopw [5,7,8,9,10,11,12,13] (fun _ s7 _ _ _ _ _ _ wq=>∃ k:Nat,s7 = .int .i64 (k:Int)/\k<=mo+1/\Hid (∀ e',e'<k->∀ n',¬ gdP x y z m e' n')/\Hid (wq.heap[w.heap.size]? = some (.cells #[.bool s1,.slice a1 n1 c1,.bool s2,.slice a2 n2 c2,.bool s3,.slice a3 n3 c3] 53)/\wq.heap[w.heap.size+1]? = some (.cells #[.bool false,.slice none 0 0,.bool false,.slice none 0 0,.bool false,.slice none 0 0,.bool false,.slice none 0 0] 78)/\Sx wq (.agg #[.bool s1,.slice a1 n1 c1,.bool s2,.slice a2 n2 c2,.bool s3,.slice a3 n3 c3]) x y z/\It wq (.agg #[.bool s1,.slice a1 n1 c1]) x/\Below w.heap.size w wq))
    (fun _ s7 _ _ _ _ _ _ _=>mo+1 - (intOf s7).toNat)
   case atStart=>exact ⟨0,rfl,by omega,Qh fun e' h=>by omega,HF⟩
   case round=>
    clear HF;obtain ⟨k,rfl,hk,HE,HF⟩:=hrel;by_cases hle:k<=mo
    ·have hk1:(k:Int)<=(mo:Int):=by omega
     have hsm:sz (m:Int)<=2:=QbI (by omega);have hsk:sz (k:Int)<=2:=QbI (by omega);have w1:IntKind.i64.wrap (m:Int)=(m:Int):=by rw [IntKind.wrap_i64];omega
     have w2:IntKind.i64.wrap (k:Int)=(k:Int):=by rw [IntKind.wrap_i64];omega
     go_wp2_with fail;refine (Qo (m:Int) wr (by omega) (by omega)).mono ?_;rintro e w2 ⟨v,rfl,hv,hb⟩;obtain ⟨sa,aa,na,ca,rfl⟩:=hv.shape;replace HF:=Qh (kF.up HF.out hb);have HA:=Qh hv;clear hv hb;go_wp2_with fail;refine (Qo (k:Int) w2 (by omega) (by omega)).mono ?_;rintro e w3 ⟨v,rfl,hv,hb⟩;obtain ⟨sb,ab,nb,cb,rfl⟩:=hv.shape;go_upto_region 8 with fail;have b1:=Qa w3 (.cells #[.bool sa,.slice aa na ca] 33);have b2:=Qa (w3.alloc (.cells #[.bool sa,.slice aa na ca] 33)) (.cells #[.bool sb,.slice ab nb cb] 33);have d1:=heap_alloc_new w3 (.cells #[.bool sa,.slice aa na ca] 33);have d2:=heap_alloc_new (w3.alloc (.cells #[.bool sa,.slice aa na ca] 33)) (.cells #[.bool sb,.slice ab nb cb] 33);rw [World.size_alloc] at d2;have HAB:=Qh (And.intro ((Kp.blk _ _).up d1 b2) (And.intro d2 (And.intro ((HA.out.up hb).up (Bl.up b1 b2)) (hv.up (Bl.up b1 b2)))));replace hb:=Bl.up hb (Bl.up b1 b2);replace HF:=Qh (kF.up HF.out hb);obtain ⟨B,hBB⟩:∃ B,w3.heap.size=B:=⟨_,rfl⟩;rw [hBB] at HAB |-;have kAB:Kp fun w'=>w'.heap[B]? = some (.cells #[.bool sa,.slice aa na ca] 33)/\w'.heap[B+1]? = some (.cells #[.bool sb,.slice ab nb cb] 33)/\It w' (.agg #[.bool sa,.slice aa na ca]) (m:Int)/\It w' (.agg #[.bool sb,.slice ab nb cb]) (k:Int):=kpf;clear b1 b2 d1 d2 hb hv HA hBB;generalize (w3.alloc (.cells #[.bool sa,.slice aa na ca] 33)).alloc (.cells #[.bool sb,.slice ab nb cb] 33)=w4 at *;obtain ⟨q0,q1,q2,q3,q4,q5⟩:=QR HF.out.1;obtain ⟨pa0,pa1⟩:=QH HAB.out.1;obtain ⟨pb0,pb1⟩:=QH HAB.out.2.1;go_wp2_with fail;clear q0 q1 q2 q3 q4 q5;clear pa0 pa1;clear pb0 pb1;refine (Qda _ _ _ x y z (m:Int) (k:Int) w4 HF.out.2.2.1 HAB.out.2.2.1 HAB.out.2.2.2 (by omega) (by omega) (by omega) (by omega) (by omega)).mono ?_;rintro e w5 ⟨v,rfl,hv,hb⟩;obtain ⟨sv,av,nv,cv,rfl⟩:=hv.shape;obtain ⟨V,hVV⟩:∃ V,Jt x y z (m:Int) (k:Int)=V:=⟨_,rfl⟩;have hsV:=Qkc x y z (m:Int) (k:Int);rw [hVV] at hv hsV;go_upto_region 9 with fail;have b1:=Qa w5 (.cells #[.bool sv,.slice av nv cv] 33);have d1:=heap_alloc_new w5 (.cells #[.bool sv,.slice av nv cv] 33);have HV:=Qh (And.intro d1 (hv.up b1));replace hb:=Bl.up hb b1;replace HF:=Qh (kF.up HF.out hb);replace HAB:=Qh (kAB.up HAB.out hb);obtain ⟨BV,hBV⟩:∃ B,w5.heap.size=B:=⟨_,rfl⟩;rw [hBV] at HV |-;have kV:Kp fun w'=>w'.heap[BV]? = some (.cells #[.bool sv,.slice av nv cv] 33)/\It w' (.agg #[.bool sv,.slice av nv cv]) V:=kpf;have HVV:=Qh hVV;clear b1 d1 hb hv hBV hVV;generalize w5.alloc (.cells #[.bool sv,.slice av nv cv] 33)=w6 at *;obtain ⟨pv0,pv1⟩:=QH HV.out.1;go_wp2_with fail;clear pv0 pv1;refine (JG _ V w6 HV.out.2).mono ?_;rintro e w7 ⟨rfl,hb⟩;replace HF:=Qh (kF.up HF.out hb);replace HAB:=Qh (kAB.up HAB.out hb);replace HV:=Qh (kV.up HV.out hb);clear hb;by_cases hV0:V<0
     ·have hcm:Qj V 0<0:=by unfold Qj;split <;> omega
      have j7:IntKind.i64.wrap ((k:Int)+1)=((k+1:Nat):Int):=by rw [IntKind.wrap_i64];omega
      have HNX:=Qh (show ∀ e',e'<k+1->∀ n',¬ gdP x y z m e' n' from fun e' h1=>by
       by_cases h3:e'=k
       ·subst h3;exact fun n' hg=>by have:=hg.2.1;have:=HVV.out;omega
       ·exact HE.out e' (by omega))
      obtain ⟨cc,hcc⟩:∃ cc,Qj V 0=cc:=⟨_,rfl⟩;rw [hcc] at hcm |-;clear hcc;go_wp2_with fail;go_roundw
      case rel=>exact ⟨k+1,rfl,by omega,HNX,HF⟩
      case measure=>simp only [intOf,Int.toNat_natCast];omega
     have hcm:¬ Qj V 0<0:=by unfold Qj;split <;> (try split) <;> omega
     obtain ⟨cc,hcc⟩:∃ cc,Qj V 0=cc:=⟨_,rfl⟩;rw [hcc] at hcm |-;clear hcc;have hcm2:0<=cc:=by omega
     obtain ⟨pa0,pa1⟩:=QH HAB.out.1;obtain ⟨pb0,pb1⟩:=QH HAB.out.2.1;go_wp2_with fail;clear pa0 pa1;clear pb0 pb1;refine (Qer _ _ (m:Int) (k:Int) w7 HAB.out.2.2.1 HAB.out.2.2.2 (by omega) (by omega)).mono ?_;rintro e w8 ⟨v,rfl,hv,hb⟩;obtain ⟨sg,ag,ng,cg,rfl⟩:=hv.shape;replace HF:=Qh (kF.up HF.out hb);replace HAB:=Qh (kAB.up HAB.out hb);replace HV:=Qh (kV.up HV.out hb);obtain ⟨G,hG⟩:∃ G,Int.gcd (m:Int) (k:Int)=G:=⟨_,rfl⟩;rw [hG] at hv;have HG:=Qh hv;have HGG:=Qh hG;have hsG:sz (G:Int)<=2:=QbI (by have h1:=QjM m k;rw [hG] at h1;omega);clear hv hb hG;go_wp2_with fail;refine (Qo 1 w8 (by decide) (by decide)).mono ?_;rintro e w9 ⟨v,rfl,hv,hb⟩;obtain ⟨so,ao,no,co,rfl⟩:=hv.shape;replace HF:=Qh (kF.up HF.out hb);replace HAB:=Qh (kAB.up HAB.out hb);replace HV:=Qh (kV.up HV.out hb);replace HG:=Qh (HG.out.up hb);have HO:=Qh hv;clear hv hb;go_wp2_with fail;refine (JR _ _ (G:Int) 1 w9 HG.out HO.out (by omega) (by decide)).mono ?_;rintro e w10 ⟨rfl,hb⟩;replace HF:=Qh (kF.up HF.out hb);replace HAB:=Qh (kAB.up HAB.out hb);replace HV:=Qh (kV.up HV.out hb);clear hb HG HO;by_cases hG1:G=1
     ·have hsm:Qad (G:Int) 1=true:=Qas.2 (by rw [hG1];rfl);simp only [hsm];clear hsm;have HG1:=Qh (show Nat.gcd m k=1 by rw [<- hG1,<- HGG.out];rfl);clear hG1;go_upto_region 10 with fail;obtain ⟨pv0,pv1⟩:=QH HV.out.1;go_wp2_with fail;clear pv0 pv1;refine (QfP _ V w10 HV.out.2 (by omega)).mono ?_;rintro e w11 ⟨v,u,s,r,code,rfl,hv,hu,hsq,hb⟩;obtain ⟨sn,an,nn,cn,rfl⟩:=hv.shape;obtain ⟨sr,ar,nr,cr,rfl⟩:=hu.shape;go_upto_region 11 with fail;have b1:=Qa w11 (.cells #[.bool sn,.slice an nn cn] 33);have b2:=Qa (w11.alloc (.cells #[.bool sn,.slice an nn cn] 33)) (.cells #[.bool sr,.slice ar nr cr] 33);have d1:=heap_alloc_new w11 (.cells #[.bool sn,.slice an nn cn] 33);have d2:=heap_alloc_new (w11.alloc (.cells #[.bool sn,.slice an nn cn] 33)) (.cells #[.bool sr,.slice ar nr cr] 33);rw [World.size_alloc] at d2;have HN:=Qh (And.intro ((Kp.blk _ _).up d1 b2) (And.intro d2 (And.intro (hv.up (Bl.up b1 b2)) (hu.up (Bl.up b1 b2)))));replace hb:=Bl.up hb (Bl.up b1 b2);replace HF:=Qh (kF.up HF.out hb);replace HAB:=Qh (kAB.up HAB.out hb);replace HV:=Qh (kV.up HV.out hb);obtain ⟨BN,hBN⟩:∃ B,w11.heap.size=B:=⟨_,rfl⟩;rw [hBN] at HN |-;have kN:Kp fun w'=>w'.heap[BN]? = some (.cells #[.bool sn,.slice an nn cn] 33)/\w'.heap[BN+1]? = some (.cells #[.bool sr,.slice ar nr cr] 33)/\It w' (.agg #[.bool sn,.slice an nn cn]) s/\It w' (.agg #[.bool sr,.slice ar nr cr]) r:=kpf;have HSQ:=Qh hsq;clear b1 b2 d1 d2 hb hv hu hBN hsq HV kV;generalize (w11.alloc (.cells #[.bool sn,.slice an nn cn] 33)).alloc (.cells #[.bool sr,.slice ar nr cr] 33)=w12 at *;obtain ⟨pr0,pr1⟩:=QH HN.out.2.1;go_wp2_with fail;clear pr0 pr1;refine (JG _ r w12 HN.out.2.2.2).mono ?_;rintro e w13 ⟨rfl,hb⟩;replace HF:=Qh (kF.up HF.out hb);replace HAB:=Qh (kAB.up HAB.out hb);replace HN:=Qh (kN.up HN.out hb);clear hb;by_cases hr0:r=0
      ·have hcm:(Qj r 0 == 0)=true:=by rw [hr0];rfl
       obtain ⟨n,hn,hgd⟩:=Qkm (m:=m) (k:=k) (by rw [HVV.out];omega) HG1.out (by rw [HVV.out];exact HSQ.out) hr0
       have HPT:=Qh (show PtTo x y z mo m k n true from .inl ⟨rfl,by omega,by omega,hgd,fun m' e' h1 h2=>by
        rcases h2 with h2|⟨h2,h3⟩
        ·exact HM.out m' e' h2 h1
        ·subst h2;exact HE.out e' h3⟩)
       have HNI:=Qh (show It w13 (.agg #[.bool sn,.slice an nn cn]) (n:Int) by rw [<- hn];exact HN.out.2.2.1);have HBZ:=Qh HF.out.2.1;obtain ⟨q0,q1,q2,q3,q4,q5⟩:=QR HF.out.1;obtain ⟨d0,d1,d2,d3,d4,d5,d6,d7⟩:=Yq HBZ.out;obtain ⟨f0,f1,f2,f3,f4,f5,f6,f7⟩:=Qb9 HBZ.out;obtain ⟨pa0,pa1⟩:=QH HAB.out.1;obtain ⟨pb0,pb1⟩:=QH HAB.out.2.1;obtain ⟨pn0,pn1⟩:=QH HN.out.1;clear hn hgd hr0 HE HM HSQ HGG HVV;obtain ⟨cc,hcc⟩:∃ cc,Qj r 0=cc:=⟨_,rfl⟩;rw [hcc] at hcm |-;clear hcc;go_wp2_with fail;have hh:=Qcd HBZ.out (.bool s1) (.slice a1 n1 c1) (.bool sa) (.slice aa na ca) (.bool sb) (.slice ab nb cb) (.bool sn) (.slice an nn cn);have hbt:=QhI w13 (w.heap.size+1) (.bool s1) (.slice a1 n1 c1) (.bool sa) (.slice aa na ca) (.bool sb) (.slice ab nb cb) (.bool sn) (.slice an nn cn);have hnw:=nw8 HBZ.out;have hl:=HF.out.2.2.2.2;exact QS (B:=w.heap.size+1) rfl rfl rfl (QhC _ _ _ _ _ _ _ _ _ _ _ _ hh) ⟨_,x,m,k,n,true,rfl,⟨_,_,_,_,_,_,_,_,_,_,_,_,_,_,_,_,rfl,HF.out.2.2.2.1.fr hbt hnw,HAB.out.2.2.1.fr hbt hnw,HAB.out.2.2.2.fr hbt hnw,HNI.out.fr hbt hnw⟩,rfl,HPT.out,ButS.below hl hbt hl.size (fun g e=>by omega)⟩
      ·have hcm:(Qj r 0 == 0)=false:=by rw [beq_eq_false_iff_ne];unfold Qj;split <;> (try split) <;> omega
       obtain ⟨cc,hcc⟩:∃ cc,Qj r 0=cc:=⟨_,rfl⟩;rw [hcc] at hcm |-;clear hcc;have j7:IntKind.i64.wrap ((k:Int)+1)=((k+1:Nat):Int):=by rw [IntKind.wrap_i64];omega
       have HNX:=Qh (show ∀ e',e'<k+1->∀ n',¬ gdP x y z m e' n' from fun e' h1=>by
        by_cases h3:e'=k
        ·subst h3;exact fun n' hg=>hr0 (Qlh hg (by rw [HVV.out];exact HSQ.out))
        ·exact HE.out e' (by omega))
       go_wp2_with fail;go_roundw
       case rel=>exact ⟨k+1,rfl,by omega,HNX,HF⟩
       case measure=>simp only [intOf,Int.toNat_natCast];omega
     ·have hsm:Qad (G:Int) 1=false:=by rw [Bool.eq_false_iff];exact fun h=>hG1 (by have:=Qas.1 h;omega)
      simp only [hsm];clear hsm;have j7:IntKind.i64.wrap ((k:Int)+1)=((k+1:Nat):Int):=by rw [IntKind.wrap_i64];omega
      have HNX:=Qh (show ∀ e',e'<k+1->∀ n',¬ gdP x y z m e' n' from fun e' h1=>by
       by_cases h3:e'=k
       ·subst h3;exact fun n' hg=>hG1 (by rw [<- HGG.out];exact hg.1)
       ·exact HE.out e' (by omega))
      go_wp2_with fail;go_roundw
      case rel=>exact ⟨k+1,rfl,by omega,HNX,HF⟩
      case measure=>simp only [intOf,Int.toNat_natCast];omega
    ·have hk1:¬ (k:Int)<=(mo:Int):=by omega
     have HMM:=Qh (show ∀ m' e',m'<m+1->e'<=mo->∀ n',¬ gdP x y z m' e' n' from fun m' e' h1 h2=>by
      by_cases h3:m'=m
      ·subst h3;exact HE.out e' (by omega)
      ·exact HM.out m' e' (by omega) h2)
     have j7:IntKind.i64.wrap ((m:Int)+1)=((m+1:Nat):Int):=by rw [IntKind.wrap_i64];omega
     go_wp2_with fail;go_roundw
     case rel=>exact ⟨m+1,rfl,by omega,HMM,HF⟩
     case measure=>simp only [intOf,Int.toNat_natCast];omega
  ·have hm1:¬ (m:Int)<=(mo:Int):=by omega
   have HN:=Qh (show PtTo x y z mo 0 0 0 false from .inr ⟨rfl,rfl,rfl,rfl,fun m' e' h1 h2=>HM.out m' e' (by omega) h2⟩);have HBZ:=Qh HF.out.2.1;obtain ⟨d0,d1,d2,d3,d4,d5,d6,d7⟩:=Yq HBZ.out;obtain ⟨f0,f1,f2,f3,f4,f5,f6,f7⟩:=Qb9 HBZ.out;go_wp2_with fail;have hh:=Qcd HBZ.out (.bool false) (.slice none 0 0) (.bool false) (.slice none 0 0) (.bool false) (.slice none 0 0) (.bool false) (.slice none 0 0);have hbt:=QhI wr (w.heap.size+1) (.bool false) (.slice none 0 0) (.bool false) (.slice none 0 0) (.bool false) (.slice none 0 0) (.bool false) (.slice none 0 0);have hl:=HF.out.2.2.2.2;exact QS (B:=w.heap.size+1) rfl rfl rfl (QhC _ _ _ _ _ _ _ _ _ _ _ _ hh) ⟨_,0,0,0,0,.inl ⟨rfl,⟨false,none,0,0,false,none,0,0,false,none,0,0,false,none,0,0,rfl,Qm _,Qm _,Qm _,Qm _⟩,rfl,HN.out,ButS.below hl hbt hl.size (fun g e=>by omega)⟩⟩
theorem QiU {x y z:Int} {p k:Nat} (hx:x ≠ 0) (hz:z ≠ 0) (hp:Pri p) (hk:1<=k) (hk5:k<=20):Qbu x y z p k=if 4096<p ^ k then (false,2) else (Qbf x y z p (p ^ k),0):=by
 have h2:=hp.1;unfold Qbu;rw [if_neg (by rintro (e|e);exact hx e;exact hz e),if_neg (by omega),if_neg (by omega),Int.toNat_natCast,Int.toNat_natCast,Nat.min_eq_left hk5,JU.2 hp];rfl
theorem Qhk {x y z:Int} (hx:x ≠ 0) (hz:z ≠ 0):Qbu x y z 0 0=(Qai x y z,0):=by
 unfold Qbu;rw [if_neg (by rintro (e|e);exact hx e;exact hz e),if_pos ⟨rfl,rfl⟩]
theorem Qhx {x y z:Int} {p k:Nat} (hp:Pri p) (hk:1<=k) (h:Qbf x y z p (p ^ (k+1))=true):Qbf x y z p (p ^ k)=true:=by
 have h2:=hp.1;exact QhS (Nat.pow_pos (by omega)) ⟨p ^ (k - 1),by rw [<- Nat.pow_succ'];congr 1;omega⟩ ⟨p,by rw [Nat.pow_succ]⟩ h
theorem Qky {x y z:Int} {p k:Nat} (hx:x ≠ 0) (hz:z ≠ 0) (hp:Pri p) (hk:1<=k) (m e n:Nat) (h:PtTo x y z 6 m e n true) :
  Qbf x y z p (p ^ k)=true/\Qbf x y z p (p ^ (k+1))=true/\Qai x y z=true:=by
 rcases h with ⟨-,-,-,⟨hg,-,hv⟩,-⟩|⟨h,-⟩
 ·unfold Jt at hv;have hg':Nat.Coprime (m:Int).natAbs (e:Int).natAbs:=hg;refine ⟨QaV hp hk hg' hv.symm,QaV hp (by omega) hg' hv.symm,Qax (m:=m) (e:=e) (n:=n) ?_ hx hz hv.symm⟩;rintro ⟨h1,h2⟩;obtain rfl:m=0:=by omega
  obtain rfl:e=0:=by omega
  rw [Nat.gcd_zero_left] at hg;omega
 ·cases h
def QkP (r:Nat):Nat:=[2,3,5,7,11,13].getD r 0
theorem Qiu {r:Nat} (h:r<6):Pri (QkP r)/\QkP r<=13:=by
 have:r=0\/r=1\/r=2\/r=3\/r=4\/r=5:=by omega
 rcases this with rfl|rfl|rfl|rfl|rfl|rfl <;> exact ⟨JU.1 (by decide),by decide⟩
theorem QhD {w:World} {B T r:Nat} (h:r<6) (hB:w.heap[B]? = some (.cells #[.int .i64 2,.int .i64 3,.int .i64 5,.int .i64 7,.int .i64 11,.int .i64 13] T (0,0))):w.cell? ⟨B,r,none⟩=some (.int .i64 (QkP r:Int)):=by
 have:r=0\/r=1\/r=2\/r=3\/r=4\/r=5:=by omega
 rcases this with rfl|rfl|rfl|rfl|rfl|rfl <;> simp [World.cell?,hB,QkP]
structure FlN (X:Value->World->Prop) (c v s:Nat) (W0:World) (b:Nat->Bool) (x:Nat->Value) (W:World):Prop where
 bl:Below W0.heap.size W0 W
 e0:b c=true->X (x c) W
 vr:b v=true->∃ B c0 c1 c2 c3 c4 c5,x v = .pointer (some ⟨B,0,none⟩)/\W0.heap.size<=B/\W.heap[B]? = some (.cells #[c0,c1,c2,c3,c4,c5] 53 (0,0))/\NoW W B/\(b s=true->x c = .agg #[c0,c1,c2,c3,c4,c5])
 so:b s=true->b v=true/\b c=true
section
variable {X:Value->World->Prop} {c v s:Nat} {W0 W W':World} {b:Nat->Bool} {x:Nat->Value}
theorem FlN.start (X:Value->World->Prop) (c v s:Nat) (W0:World) (x:Nat->Value):FlN X c v s W0 (fun _=>false) x W0:=
 ⟨Below.refl _ _,(fun h=>nomatch h),(fun h=>nomatch h),fun h=>nomatch h⟩
theorem FlN.put (h:FlN X c v s W0 b x W) (hbc:b c=false) (hc:c ≠ v/\c ≠ s/\v ≠ s) {y:Value} (hb:Below W.heap.size W W') (h2:X y W'):FlN X c v s W0 (QC b c true) (QC x c y) W':=by
 have hbs:b s=false:=by
  cases e:b s with
  | false=>rfl
  | true=>have:=(h.so e).2;rw [hbc] at this;cases this
 refine ⟨h.bl.trans (hb.mono h.bl.size),fun _=>?_,fun hbk=>?_,fun hbk=>?_⟩
 ·rw [Qe];exact h2
 ·rw [Qd _ _ (Ne.symm hc.1)] at hbk |-;obtain ⟨B,c0,c1,c2,c3,c4,c5,k1,k2,k3,k4,k5⟩:=h.vr hbk;refine ⟨B,c0,c1,c2,c3,c4,c5,k1,k2,(Kp.blk _ _).up k3 hb,k4.fr (ButS.of hb (fun _=>False)) (Ql k3).1 (fun h=>h),fun e=>?_⟩;rw [Qd _ _ (Ne.symm hc.2.1),hbs] at e
  cases e
 ·rw [Qd _ _ (Ne.symm hc.2.1),hbs] at hbk
  cases hbk
theorem FlN.var (h:FlN X c v s W0 b x W) (hX:∀ y,Kp (X y)) (hc:c ≠ v/\c ≠ s/\v ≠ s) (hv:b v=false) :
  FlN X c v s W0 (QC b v true) (QC x v (.pointer (some ⟨W.heap.size,0,none⟩))) (W.alloc (.cells #[.bool false,.slice none 0 0,.bool false,.slice none 0 0,.bool false,.slice none 0 0] 53)):=by
 have hb:=Qa W (.cells #[.bool false,.slice none 0 0,.bool false,.slice none 0 0,.bool false,.slice none 0 0] 53)
 have hbs:b s=false:=by
  cases e:b s with
  | false=>rfl
  | true=>have:=(h.so e).1;rw [hv] at this;cases this
 refine ⟨h.bl.trans (hb.mono h.bl.size),fun hbk=>?_,fun hbk=>?_,fun hbk=>?_⟩
 ·rw [Qd _ _ hc.1] at hbk |-;exact (hX _).up (h.e0 hbk) hb
 ·rw [Qe];refine ⟨_,_,_,_,_,_,_,rfl,h.bl.size,heap_alloc_new _ _,NoW.new _ _ _ (by decide),fun e=>?_⟩;rw [Qd _ _ (Ne.symm hc.2.2),hbs] at e
  cases e
 ·rw [Qd _ _ (Ne.symm hc.2.2),hbs] at hbk
  cases hbk
theorem FlN.sto (h:FlN X c v s W0 b x W) (hS:∀ y w,X y w->∃ s1 a1 n1 k1 s2 a2 n2 k2 s3 a3 n3 k3,y = .agg #[.bool s1,.slice a1 n1 k1,.bool s2,.slice a2 n2 k2,.bool s3,.slice a3 n3 k3]) (hv:b v=true) (hc:b c=true) :
  ∃ p:Nat × (Bool × Option Addr × Nat × Nat) × (Bool × Option Addr × Nat × Nat) × (Bool × Option Addr × Nat × Nat) × Value × Value × Value × Value × Value × Value,x v = .pointer (some ⟨p.1,0,none⟩)/\x c = .agg #[.bool p.2.1.1,.slice p.2.1.2.1 p.2.1.2.2.1 p.2.1.2.2.2,.bool p.2.2.1.1,.slice p.2.2.1.2.1 p.2.2.1.2.2.1 p.2.2.1.2.2.2,.bool p.2.2.2.1.1,.slice p.2.2.2.1.2.1 p.2.2.2.1.2.2.1 p.2.2.2.1.2.2.2] /\
   W.heap[p.1]? = some (.cells #[p.2.2.2.2.1,p.2.2.2.2.2.1,p.2.2.2.2.2.2.1,p.2.2.2.2.2.2.2.1,p.2.2.2.2.2.2.2.2.1,p.2.2.2.2.2.2.2.2.2] 53 (0,0)):=by
 obtain ⟨B,c0,c1,c2,c3,c4,c5,k1,k2,k3,k4,k5⟩:=h.vr hv;obtain ⟨s1,a1,n1,g1,s2,a2,n2,g2,s3,a3,n3,g3,e⟩:=hS _ _ (h.e0 hc);exact ⟨(B,(s1,a1,n1,g1),(s2,a2,n2,g2),(s3,a3,n3,g3),c0,c1,c2,c3,c4,c5),k1,e,k3⟩
theorem FlN.st (h:FlN X c v s W0 b x W) (hX:∀ y,Kq (fun _=>False) (X y)) (hc:c ≠ v/\c ≠ s/\v ≠ s) (hv:b v=true) (hbc:b c=true) {B:Nat} {s1 s2 s3:Bool} {a1 a2 a3:Option Addr} {n1 n2 n3 k1 k2 k3:Nat} (e4:x v = .pointer (some ⟨B,0,none⟩)) (e2:x c = .agg #[.bool s1,.slice a1 n1 k1,.bool s2,.slice a2 n2 k2,.bool s3,.slice a3 n3 k3]) {d:Value} :
  FlN X c v s W0 (QC b s true) (QC x s d) (Qkt W B (.bool s1) (.slice a1 n1 k1) (.bool s2) (.slice a2 n2 k2) (.bool s3) (.slice a3 n3 k3)):=by
 obtain ⟨B',c0,c1,c2,c3,c4,c5,g1,g2,g3,g4,g5⟩:=h.vr hv;have eB:B'=B:=by rw [e4] at g1;injection g1 with g1;injection g1 with g1;injection g1 with g1;exact g1.symm
 subst eB;have hbt:=Qj3 W B' (.bool s1) (.slice a1 n1 k1) (.bool s2) (.slice a2 n2 k2) (.bool s3) (.slice a3 n3 k3);have hn:∀ g,g=B'->NoW W g:=fun g e=>by subst e;exact g4
 refine ⟨ButS.below h.bl hbt h.bl.size (fun g e=>by omega),fun hbk=>?_,fun hbk=>?_,fun hbk=>?_⟩
 ·rw [Qd _ _ hc.2.1] at hbk |-;exact (hX _).fr (h.e0 hbk) hbt hn (fun _ h=>h.elim)
 ·rw [Qd _ _ hc.2.2,Qd _ _ hc.2.1];have hh:=Qdr g3 (.bool s1) (.slice a1 n1 k1) (.bool s2) (.slice a2 n2 k2) (.bool s3) (.slice a3 n3 k3);exact ⟨B',_,_,_,_,_,_,e4,g2,hh,nw6 hh _ rfl,fun _=>e2⟩
 ·rw [Qd _ _ hc.2.2,Qd _ _ hc.2.1];exact ⟨hv,hbc⟩
theorem FlN.out (h:FlN X c v s W0 b x W) (hbc:b c=true) (hv:b v=true) (hs:b s=true) :
  ∃ B c0 c1 c2 c3 c4 c5,x c = .agg #[c0,c1,c2,c3,c4,c5]/\X (.agg #[c0,c1,c2,c3,c4,c5]) W/\x v = .pointer (some ⟨B,0,none⟩)/\W.heap[B]? = some (.cells #[c0,c1,c2,c3,c4,c5] 53 (0,0))/\Below W0.heap.size W0 W:=by
 obtain ⟨B,c0,c1,c2,c3,c4,c5,k1,k2,k3,k4,k5⟩:=h.vr hv;have e:=k5 hs;exact ⟨B,c0,c1,c2,c3,c4,c5,e,e ▸ h.e0 hbc,k1,k3,h.bl⟩
end
theorem QgZ (x y m t z0 z1:Int) (w:World) (h1 : -128<=x) (h2:x<=127) (h3 : -32768<=y) (h4:y<=32767) (ht1:0<=t) (ht2:t<=255) (g0:0<=z0/\z0<=255) (g1:0<=z1/\z1<=255) :
  Calls Tryz.prog 6 #[.agg #[.int .i8 x,.int .i16 y,.int .u8 m],.int .u8 t,.agg #[.int .u8 z0,.int .u8 z1]] w fun e' w'=>e' = .returned (.bool true)/\Below w.heap.size w w':=by
 have b0:=Qa w (.cells #[.int .i8 x,.int .i16 y,.int .u8 m] 25);have b1:=Qa (w.alloc (.cells #[.int .i8 x,.int .i16 y,.int .u8 m] 25)) (.cells #[.int .u8 z0,.int .u8 z1] 74);have d0:=heap_alloc_new w (.cells #[.int .i8 x,.int .i16 y,.int .u8 m] 25);have d1:=heap_alloc_new (w.alloc (.cells #[.int .i8 x,.int .i16 y,.int .u8 m] 25)) (.cells #[.int .u8 z0,.int .u8 z1] 74);rw [show (w.alloc (.cells #[.int .i8 x,.int .i16 y,.int .u8 m] 25)).heap.size=w.heap.size+1 by simp only [World.size_alloc]] at d1;have HR:=Qh (And.intro ((Kp.blk _ _).up d0 b1) (And.intro d1 (Bl.up b0 b1)));have kR:Kp fun w'=>w'.heap[w.heap.size]? = some (.cells #[.int .i8 x,.int .i16 y,.int .u8 m] 25)/\w'.heap[w.heap.size+1]? = some (.cells #[.int .u8 z0,.int .u8 z1] 74)/\Below w.heap.size w w':=kpf;clear b0 b1 d0 d1;go_enter Tryz.func6,Tryz.ntmps6
 go_upto_region 1 with fail;generalize (w.alloc (.cells #[.int .i8 x,.int .i16 y,.int .u8 m] 25)).alloc (.cells #[.int .u8 z0,.int .u8 z1] 74)=W at *;go_wp2_with fail;refine (Qjs W).mono ?_;rintro e w1 ⟨rfl,hb⟩;replace HR:=Qh (kR.up HR.out hb);clear hb;obtain ⟨p0,p1,p2,-⟩:=QkB HR.out.1;go_wp2_with fail;refine (QdA x y m w1 h1 h2 h3 h4).mono ?_;rintro e w2 ⟨v,a,b,rfl,hq,hcr,hb⟩;have hq0:=hq;obtain ⟨sa,aa,na,ka,sb,ab,nb,kb,rfl,hA,hB⟩:=hq;have HCR:=Qh hcr;clear p0 p1 p2 hcr;go_upto_region 5 with fail;have bn:=Qa w2 (.cells #[.bool sa,.slice aa na ka,.bool sb,.slice ab nb kb] 35);replace HR:=Qh (kR.up (kR.up HR.out hb) bn);have HF:=Qh (And.intro (heap_alloc_new w2 (.cells #[.bool sa,.slice aa na ka,.bool sb,.slice ab nb kb] 35)) (And.intro (hq0.up bn) (hB.up bn)));obtain ⟨BP,hBP⟩:∃ B,w2.heap.size=B:=⟨_,rfl⟩;rw [hBP] at HF |-;have kF:Kp fun w'=>w'.heap[BP]? = some (.cells #[.bool sa,.slice aa na ka,.bool sb,.slice ab nb kb] 35)/\Qx w' (.agg #[.bool sa,.slice aa na ka,.bool sb,.slice ab nb kb]) a b/\It w' (.agg #[.bool sb,.slice ab nb kb]) b:=kpf;clear bn hA hB hq0 hBP hb;generalize w2.alloc (.cells #[.bool sa,.slice aa na ka,.bool sb,.slice ab nb kb] 35)=w3 at *;obtain ⟨p0,p1,p2,p3⟩:=QJ HF.out.1;obtain ⟨hr0,hsa,hsb⟩:=Qjo HCR.out;obtain ⟨hb0,-,hbl,-⟩:=Ym hr0;clear hr0 HCR;go_wp2_with fail;clear p0 p1 p2 p3;refine (Qa4 _ b w3 HF.out.2.2 hb0 (by omega)).mono ?_;rintro e w4 ⟨v,l,rfl,hl,hC,hb⟩;obtain ⟨aL,cL,rfl,hlc⟩:=id hl;replace HR:=Qh (kR.up HR.out hb);replace HF:=Qh (kF.up HF.out hb);have HC:=Qh hC;have hln:1<=l.length:=List.length_pos_of_mem ((hC.2 1).2 ⟨by decide,SqF.one,Nat.one_dvd _⟩);have hll:=YW hC (by omega) hbl;obtain ⟨j,hj⟩:∃ j,t.toNat % l.length=j:=⟨_,rfl⟩;have hjl:j<l.length:=by rw [<- hj];exact Nat.mod_lt _ hln
 have e1:t.tmod (l.length:Int)=(j:Int):=by
  rw [Int.tmod_eq_emod_of_nonneg ht1,<- hj];have:t=(t.toNat:Int):=by omega
  rw [this,Int.toNat_natCast];rfl
 have e2:IntKind.i64.wrap t=t:=by rw [IntKind.wrap_i64];omega
 have e3:IntKind.i64.wrap (j:Int)=(j:Int):=by rw [IntKind.wrap_i64];omega
 have hn0:¬ (l.length:Int)=0:=by omega
 have hn2:¬ l=[]:=fun e=>by rw [e] at hln;simp at hln
 have hn1:¬ (l.length:Int) = -1:=by omega
 have j0:(0:Int)<=(j:Int):=by omega
 have j1:(j:Int)<(l.length:Int):=by omega
 obtain ⟨bL,ofL,rfl,-,hla⟩:=hl.at hjl;obtain ⟨sx,ax,nx,kx,q0,q1,hx⟩:=hla.int hjl;have hcC:=QB hjl 0;obtain ⟨c,hc⟩:∃ c,l.getD j 0=c:=⟨_,rfl⟩;rw [hc] at hx hcC;obtain ⟨hc0,hcd,-⟩:=Qd4 hC hb0 hcC;have hbz:b / c ≠ 0:=fun e=>hb0 (by have h5:=Int.mul_ediv_cancel' hcd;rw [e,Int.mul_zero] at h5;exact h5.symm);have hsc:sz c<=2:=Yt (by omega) hbl (fun d hd=>((hC.2 d).1 hd).2.2) c hcC;have hsq:sz (b / c)<=2:=QbI (Nat.lt_of_le_of_lt (Int.natAbs_ediv_le_natAbs b c) hbl);have HE:=Qh (And.intro (And.intro q0 q1:rc2 w4 bL (ofL+j*2) (.bool sx) (.slice ax nx kx)) hx);have kE:Kp fun w'=>rc2 w' bL (ofL+j*2) (.bool sx) (.slice ax nx kx)/\It w' (.agg #[.bool sx,.slice ax nx kx]) c:=kpf;clear hb hl hlc hC hj hla q0 q1 hx hc hcC hcd HC;go_upto_region 6 with fail;have hS0:bc4 w4 BP (.bool sa) (.slice aa na ka) (.bool sb) (.slice ab nb kb)/\rc2 w4 bL (ofL+j*2) (.bool sx) (.slice ax nx kx):=⟨QJ HF.out.1,HE.out.1⟩;refine Qc (by kernel_rfl) [11] (S:=fun w'=>bc4 w' BP (.bool sa) (.slice aa na ka) (.bool sb) (.slice ab nb kb)/\rc2 w' bL (ofL+j*2) (.bool sx) (.slice ax nx kx)) hS0 (fun hHeld=>?_);have kS:Kp fun w'=>bc4 w' BP (.bool sa) (.slice aa na ka) (.bool sb) (.slice ab nb kb)/\rc2 w' bL (ofL+j*2) (.bool sx) (.slice ax nx kx):=kpf;clear hS0;replace HR:=Qh (kR.dr HR.out);replace HF:=Qh (kF.dr HF.out);replace HE:=Qh (kE.dr HE.out);generalize w4.drew=w5 at *;(refine tS 0 rfl ?_;refine tS 1 rfl ?_;refine tS 2 rfl ?_;refine tS 3 rfl ?_;refine tS 4 rfl ?_;refine tS 5 rfl ?_;refine tS 6 rfl ?_;refine tS 7 rfl ?_;refine tS 8 rfl ?_)
 clear e1 e2 e3 hn0 hn1 hn2;have HS0:=Qh hHeld;clear hHeld;have kX:∀ v,Kp fun w'=>Sx w' v c a (b / c):=fun v=>Kp.sx _ _ _ _;have qX:∀ v,Kq (fun _=>False) fun w'=>Sx w' v c a (b / c):=fun v=>Kq.sx _ _ _ _;have hcv:(9 ≠ 10/\9 ≠ 11/\10 ≠ 11):=by decide
 refine Qu [(9,some 38),(10,some 10),(11,none)] 0 (FlN (fun v w'=>Sx w' v c a (b / c)) 9 10 11 w5) rfl (by kernel_rfl) (by decide) (by kernel_rfl) (by kernel_rfl) (by kernel_rfl) (fun bb xx wz h=>kS.up HS0.out h.bl) (fun xx=>FlN.start _ _ _ _ _ _) ?_ ?_
 ·intro i hi;have hi':i=9\/i=10\/i=11:=by simpa using hi
  clear hi;rcases hi' with rfl|rfl|rfl
  ·refine ⟨_,rfl,fun bb xx wz hJ hbf hw K hK=>?_⟩;have HBF:=Qh hbf;clear hbf hw;simp only [QD] at hK |-;go_simp;refine (QeE _ _ a b c wz (HF.out.2.1.up hJ.bl) (HE.out.2.up hJ.bl) hc0 (by omega) (by omega)).mono ?_;rintro e w8 ⟨v,rfl,hv,hb⟩;exact hK.out _ _ (hJ.put HBF.out hcv hb hv)
  ·refine ⟨_,rfl,fun bb xx wz hJ hbf hw K hK=>?_⟩;have HBF:=Qh hbf;clear hbf hw;simp only [QD] at hK |-;go_simp;exact hK.out _ _ (hJ.var kX hcv HBF.out)
  ·refine ⟨_,rfl,fun bb xx wz hJ hbf hw K hK=>?_⟩;have h4:=hw 10 (by kernel_rfl);have h2:=hw 9 (by kernel_rfl);have hd:=hJ.sto (fun v w h=>by obtain ⟨s1,a1,n1,k1,s2,a2,n2,k2,s3,a3,n3,k3,e,-⟩:=h;exact ⟨s1,a1,n1,k1,s2,a2,n2,k2,s3,a3,n3,k3,e⟩) h4 h2;have hh:=Classical.choose_spec hd;generalize Classical.choose hd=p at hh;have e4:=hh.1;have e2:=hh.2.1;have hc:=hh.2.2;have HE4:=Qh e4;have HE2:=Qh e2;have HH4:=Qh h4;have HH2:=Qh h2;have HJ:=Qh hJ;have d0:=(QR hc).1;have d1:=(QR hc).2.1;have d2:=(QR hc).2.2.1;have d3:=(QR hc).2.2.2.1;have d4:=(QR hc).2.2.2.2.1;have d5:=(QR hc).2.2.2.2.2;have f0:=(Qac hc).1;have f1:=(Qac hc).2.1;have f2:=(Qac hc).2.2.1;have f3:=(Qac hc).2.2.2.1;have f4:=(Qac hc).2.2.2.2.1;have f5:=(Qac hc).2.2.2.2.2;clear hbf hw hJ hd h4 h2 hc hh;simp only [QD,show xx 10=_ from e4,show xx 9=_ from e2] at hK |-;clear e4 e2;go_simp;go_wp2_with fail;exact hK.out _ _ (HJ.out.st qX hcv HH4.out HH2.out HE4.out HE2.out (d:=undef))
 intro bb xx wz hbb hJ;obtain ⟨B9,c0,c1,c2,c3,c4,c5,e2,hX9,e4,hB9,hbz9⟩:=hJ.out (hbb 9 (by decide)) (hbb 10 (by decide)) (hbb 11 (by decide));clear hbb hJ;simp only [Qdg,show xx 10=_ from e4,show xx 9=_ from e2];clear e2 e4;have h9:=hX9;obtain ⟨s1,a1,n1,k1,s2,a2,n2,k2,s3,a3,n3,k3,e9,i1,i2,i3⟩:=id h9;clear h9;injection e9 with e9;injection e9 with e9;simp only [List.cons.injEq,and_true] at e9;obtain ⟨rfl,rfl,rfl,rfl,rfl,rfl⟩:=e9;replace HR:=Qh (kR.up HR.out hbz9);have HS:=Qh (And.intro hB9 hX9);have kH:Kp fun w'=>w'.heap[B9]? = some (.cells #[.bool s1,.slice a1 n1 k1,.bool s2,.slice a2 n2 k2,.bool s3,.slice a3 n3 k3] 53)/\Sx w' (.agg #[.bool s1,.slice a1 n1 k1,.bool s2,.slice a2 n2 k2,.bool s3,.slice a3 n3 k3]) c a (b / c):=kpf;have hHeld:=kS.up HS0.out hbz9;clear hX9 hB9 kX qX hcv i1 i2 i3 hbz9 HS0;refine dT ?_;clear hHeld kS HF HE kF kE;obtain ⟨r,hr⟩:∃ r,z0.toNat % 6=r:=⟨_,rfl⟩;obtain ⟨u,hu⟩:∃ u,z1.toNat % 4=u:=⟨_,rfl⟩;have hr6:r<6:=by rw [<- hr];exact Nat.mod_lt _ (by decide)
 have hu4:u<4:=by rw [<- hu];exact Nat.mod_lt _ (by decide)
 have e1:z0.tmod 6=(r:Int):=by rw [Int.tmod_eq_emod_of_nonneg g0.1];omega
 have e2:z1.tmod 4=(u:Int):=by rw [Int.tmod_eq_emod_of_nonneg g1.1];omega
 have e3:IntKind.u8.wrap (r:Int)=(r:Int):=by simp [IntKind.wrap,IntKind.bits,IntKind.signed];omega
 have e4:IntKind.u8.wrap (u:Int)=(u:Int):=by simp [IntKind.wrap,IntKind.bits,IntKind.signed];omega
 have e5:IntKind.i64.wrap (u:Int)=(u:Int):=by rw [IntKind.wrap_i64];omega
 have e6:IntKind.i64.wrap (1+(u:Int))=((u+1:Nat):Int):=by rw [IntKind.wrap_i64];omega
 have r0:(0:Int)<=(r:Int):=by omega
 have r1:(r:Int)<6:=by omega
 have hU:=QH HR.out.2.1;go_upto_region 7 with fail;refine Qc (by kernel_rfl) [] (S:=fun w'=>bc2 w' (w.heap.size+1) (.int .u8 z0) (.int .u8 z1)) hU (fun hHeld=>?_);have kS:Kp fun w'=>bc2 w' (w.heap.size+1) (.int .u8 z0) (.int .u8 z1):=kpf;clear hU;replace HR:=Qh (kR.dr HR.out);replace HS:=Qh (kH.dr HS.out);generalize wz.drew=wd at *;(refine tS 1 rfl ?_;refine tS 2 rfl ?_;refine tS 3 rfl ?_;refine tS 6 rfl ?_;refine tS 7 rfl ?_;refine tS 8 rfl ?_;refine tS 9 rfl ?_;refine tS 10 rfl ?_)
 (refine oL 0 rfl fun K hK=>tL ?_;go_simp);have hD:=heap_alloc_new wd (.cells #[.int .i64 2,.int .i64 3,.int .i64 5,.int .i64 7,.int .i64 11,.int .i64 13] 3);have hb:=Qa wd (.cells #[.int .i64 2,.int .i64 3,.int .i64 5,.int .i64 7,.int .i64 11,.int .i64 13] 3);have hS2:=kS.up hHeld hb;replace HR:=Qh (kR.up HR.out hb);replace HS:=Qh (kH.up HS.out hb);have hcell:=QhD hr6 hD;clear hb hD;(go_wp2_with fail;clear hHeld;refine nxL hK hS2 fun hHeld=>tL ?_;clear hK);(refine tS 4 rfl ?_)
 (refine oL 5 rfl fun K hK=>tL ?_;go_simp);(go_wp2_with fail;clear hHeld;refine nxL hK hS2 fun hHeld=>tL ?_;clear hK);(refine pL 11 rfl ?_;refine pL 12 rfl ?_)
 refine dT ?_;clear hcell hHeld hS2 kS;generalize wd.alloc (.cells #[.int .i64 2,.int .i64 3,.int .i64 5,.int .i64 7,.int .i64 11,.int .i64 13] 3)=wf at *;obtain ⟨hpp,hpl⟩:=Qiu hr6;obtain ⟨P,hP⟩:∃ P,QkP r=P:=⟨_,rfl⟩;rw [hP] at hpp hpl |-;obtain ⟨k,hk⟩:∃ k,u+1=k:=⟨_,rfl⟩;rw [show (u:Int)+1=(k:Int) by omega];have hk1:1<=k:=by omega
 have hk4:k<=4:=by omega
 have e7:IntKind.i64.wrap ((k:Int)+1)=(k:Int)+1:=by rw [IntKind.wrap_i64];omega
 clear hk hP hr hu e1 e2 e3 e4 e5 e6 r0 r1 hr6 hu4 g0 g1;have hs1:=QiU (y:=a) hc0 hbz hpp hk1 (by omega);have hs2:Qbu c a (b / c) (P:Int) ((k:Int)+1)=_:=QiU (y:=a) (k:=k+1) hc0 hbz hpp (by omega) (by omega);have hs3:=Qhk (y:=a) hc0 hbz;have HLS:=Qh (Qhx (x:=c) (y:=a) (z:=b / c) hpp hk1);have HPT:=Qh (Qky (y:=a) hc0 hbz hpp hk1);generalize Qbf c a (b / c) P (P ^ k)=sA at *;generalize Qbf c a (b / c) P (P ^ (k+1))=sB at *;generalize Qai c a (b / c)=sO at *;obtain ⟨p0,p1,p2,p3,p4,p5⟩:=QR HS.out.1;go_wp2_with fail;clear p0 p1 p2 p3 p4 p5;refine (Q5 _ c a (b / c) (P:Int) (k:Int) wf HS.out.2 (by omega) (by omega) (by omega) (by omega) (by omega) (by omega) (by omega)).mono ?_;rintro e wg ⟨rfl,hb⟩;replace HR:=Qh (kR.up HR.out hb);replace HS:=Qh (kH.up HS.out hb);clear hb;rw [hs1];clear hs1
 obtain ⟨A,cA,hA⟩:∃ A cA,(if 4096<P ^ k then (false,(2:Int)) else (sA,0))=(A,cA)/\(cA=2\/cA=0/\A=sA):=by
  split
  ·exact ⟨_,_,rfl,.inl rfl⟩
  ·exact ⟨_,_,rfl,.inr ⟨rfl,rfl⟩⟩
 obtain ⟨hA,HA⟩:=hA;rw [hA];clear hA;obtain ⟨p0,p1,p2,p3,p4,p5⟩:=QR HS.out.1;go_wp2_with fail;clear p0 p1 p2 p3 p4 p5;refine (Q5 _ c a (b / c) (P:Int) ((k:Int)+1) wg HS.out.2 (by omega) (by omega) (by omega) (by omega) (by omega) (by omega) (by omega)).mono ?_;rintro e wh ⟨rfl,hb⟩;replace HR:=Qh (kR.up HR.out hb);replace HS:=Qh (kH.up HS.out hb);clear hb;rw [hs2];clear hs2
 obtain ⟨B',cB,hB⟩:∃ A cA,(if 4096<P ^ (k+1) then (false,(2:Int)) else (sB,0))=(A,cA)/\(cA=2\/cA=0/\A=sB):=by
  split
  ·exact ⟨_,_,rfl,.inl rfl⟩
  ·exact ⟨_,_,rfl,.inr ⟨rfl,rfl⟩⟩
 obtain ⟨hB,HBB⟩:=hB;rw [hB];clear hB;obtain ⟨p0,p1,p2,p3,p4,p5⟩:=QR HS.out.1;go_wp2_with fail;clear p0 p1 p2 p3 p4 p5;refine (Q5 _ c a (b / c) 0 0 wh HS.out.2 (by omega) (by omega) (by omega) (by omega) (by omega) (by omega) (by omega)).mono ?_;rintro e wi ⟨rfl,hb⟩;replace HR:=Qh (kR.up HR.out hb);replace HS:=Qh (kH.up HS.out hb);clear hb;rw [hs3];clear hs3 e7;rcases HA with rfl|⟨rfl,rfl⟩
 ·go_wp2_with fail;go_ret
  exact ⟨rfl,HR.out.2.2⟩
 rcases HBB with rfl|⟨rfl,rfl⟩
 ·go_wp2_with fail;go_ret
  exact ⟨rfl,HR.out.2.2⟩
 rcases hBv:B' with _|_
 ·subst hBv;obtain ⟨p0,p1,p2,p3,p4,p5⟩:=QR HS.out.1;go_wp2_with fail;clear p0 p1 p2 p3 p4 p5;refine (QaL _ c a (b / c) 6 wi HS.out.2 (by omega) (by omega) (by omega) (by decide)).mono ?_;rintro e wj ⟨v,pb,pm,pe,pn,ok,rfl,hfd,-,hpt,hb⟩;obtain ⟨i1,i2,i3,i4,i5,i6,i7,i8,i9,i10,i11,i12,i13,i14,i15,i16,rfl,-,-,-,-⟩:=hfd;replace HR:=Qh (kR.up HR.out hb);clear hb;rcases ok with _|_
  ·clear hpt;go_upto_region 16 with fail;replace HR:=Qh (kR.up HR.out (Qa wj (.cells #[.bool i1,.slice i2 i3 i4,.bool i5,.slice i6 i7 i8,.bool i9,.slice i10 i11 i12,.bool i13,.slice i14 i15 i16] 78)));go_wp2_with fail;go_ret
   exact ⟨rfl,HR.out.2.2⟩
  ·exact absurd (HPT.out _ _ _ hpt).2.1 (by decide)
 ·subst hBv;obtain rfl:=HLS.out rfl;obtain ⟨p0,p1,p2,p3,p4,p5⟩:=QR HS.out.1;go_wp2_with fail;clear p0 p1 p2 p3 p4 p5;refine (QaL _ c a (b / c) 6 wi HS.out.2 (by omega) (by omega) (by omega) (by decide)).mono ?_;rintro e wj ⟨v,pb,pm,pe,pn,ok,rfl,hfd,-,hpt,hb⟩;obtain ⟨i1,i2,i3,i4,i5,i6,i7,i8,i9,i10,i11,i12,i13,i14,i15,i16,rfl,-,-,-,-⟩:=hfd;replace HR:=Qh (kR.up HR.out hb);clear hb;rcases ok with _|_
  ·clear hpt;go_upto_region 16 with fail;replace HR:=Qh (kR.up HR.out (Qa wj (.cells #[.bool i1,.slice i2 i3 i4,.bool i5,.slice i6 i7 i8,.bool i9,.slice i10 i11 i12,.bool i13,.slice i14 i15 i16] 78)));go_wp2_with fail;go_ret
   exact ⟨rfl,HR.out.2.2⟩
  ·obtain rfl:=(HPT.out _ _ _ hpt).2.2;clear hpt;go_upto_region 16 with fail;replace HR:=Qh (kR.up HR.out (Qa wj (.cells #[.bool i1,.slice i2 i3 i4,.bool i5,.slice i6 i7 i8,.bool i9,.slice i10 i11 i12,.bool i13,.slice i14 i15 i16] 78)));go_wp2_with fail;go_ret
   exact ⟨rfl,HR.out.2.2⟩
end Go.Proofs.YteidokhjmbihlaaGreat
