/-
  Slices of found points (eight cells each) and of insoluble spaces (four cells each), as elements of a kind.
-/
import Derived.Test.YteidokhjmbihlaaGreatDA
import Derived.Test.YteidokhjmbihlaaGreatDI
set_option linter.all false
set_option maxRecDepth 100000
set_option maxHeartbeats 2000000
namespace Go.Proofs.YteidokhjmbihlaaGreat
open Go.RowKit
attribute [local go_sem ↓] Go.wp_at_zero Go.wp_at_succ
def Ins (w:World) (v:Value) (b:Int) (p k:Nat):Prop:=∃ s1 a1 n1 c1,v=.agg #[.bool s1,.slice a1 n1 c1,.int .i64 p,.int .i64 k]/\It w (Qlv s1 a1 n1 c1) b
def Qkc (w:World) (B:Nat) (y0 y1 y2 y3:Value):World:=(((w.setCell ⟨B,0,none⟩ y0).setCell ⟨B,1,none⟩ y1).setCell ⟨B,2,none⟩ y2).setCell ⟨B,3,none⟩ y3
theorem QhJ {w:World} {B T:Nat} {fr:Nat×Nat} {x0 x1 x2 x3:Value} (h:w.heap[B]? = some (.cells #[x0,x1,x2,x3] T fr)) (y0 y1 y2 y3:Value) :
  (Qkc w B y0 y1 y2 y3).heap[B]? = some (.cells #[y0,y1,y2,y3] T fr):=by
 simp[Qkc,World.setCell,Array.getElem?_modify,h]
theorem Qke (w:World) (B:Nat) (y0 y1 y2 y3:Value):ButS (fun k=>k=B) w (Qkc w B y0 y1 y2 y3):=
 (((ButS.set w B 0 _).trans (ButS.set _ B 1 _)).trans (ButS.set _ B 2 _)).trans (ButS.set _ B 3 _)
theorem Qhx (w:World) (B T:Nat) (fr:Nat×Nat) (x0 x1 x2 x3:Value) (h:w.heap[B]? = some (.cells #[x0,x1,x2,x3] T fr)):(loadVar 93 ⟨B,0,none⟩).run Tryz.prog w=.ok (.agg #[x0,x1,x2,x3]) w:=by
 simp[go_sem,World.cell?,h]
theorem Qle {w:World} {B T:Nat} {fr:Nat×Nat} {s1:Bool} {a1:Option Addr} {n1 c1:Nat} {p k:Int} (h:w.heap[B]? = some (.cells #[.bool s1,.slice a1 n1 c1,.int .i64 p,.int .i64 k] T fr)):∀ g,g=B->NoW w g:=by
 rintro g rfl o y hy;simp only[World.cell?,h] at hy;rcases o with _|_|_|_|o <;> simp at hy
theorem QhC (va vl:Value) (x y z:Int) (ps:List Nat) (w:World) (h:Sx w va x y z) (hl:Sr J1 w vl (zI ps)) (hsx:sz x<=1000000) (hsy:sz y<=1000000) (hsz:sz z<=1000000) (hps:∀ p∈ps,2<=p/\p<=1000000) (hN:ps.length<=1000000) :
  Calls Tryz.prog 92 #[va,vl] w fun e' w'=>∃ v b p k ok,e'=.returned (.tuple #[v,.bool ok])/\Ins w' v b p k/\ObTo x y z ps b p k ok/\Below w.heap.size w w':=by
 have aD:=Qh h;have aC:=Qh hl;obtain⟨s1,a1,n1,c1,s2,a2,n2,c2,s3,a3,n3,c3,rfl,hX,hY,hZ⟩:=h;obtain⟨aL,cL,rfl,-,-⟩:=id hl;have aJ:=QdF ps;obtain⟨nL,aM⟩:∃ n,(zI ps).length=n:=⟨_,rfl⟩;rw[aM] at aC aJ |-;have aT:=Qh (show ps.length=nL from aJ.symm);have bF:=Qh aM;have bM:nL<=1000000:=by omega
 clear hl aJ aM;go_enter Tryz.func92,Tryz.ntmps92
 go_upto_region 1 with fail;have b0:=Qc w (Qlt 53 s1 a1 n1 c1 s2 a2 n2 c2 s3 a3 n3 c3);have dA:=Zk1 w (Qlt 53 s1 a1 n1 c1 s2 a2 n2 c2 s3 a3 n3 c3);have b1:=Qc (w.alloc (Qlt 53 s1 a1 n1 c1 s2 a2 n2 c2 s3 a3 n3 c3)) (.cells #[.bool false,.slice none 0 0,.int .i64 0,.int .i64 0] 93);have dB:=Zk1 (w.alloc (Qlt 53 s1 a1 n1 c1 s2 a2 n2 c2 s3 a3 n3 c3)) (.cells #[.bool false,.slice none 0 0,.int .i64 0,.int .i64 0] 93);replace dA:=(b1.block _ (Ql dA).1).trans dA;rw[Zk2] at dB;have bl:=Bl.up b0 b1;have bA:((w.alloc (Qlt 53 s1 a1 n1 c1 s2 a2 n2 c2 s3 a3 n3 c3)).alloc (.cells #[.bool false,.slice none 0 0,.int .i64 0,.int .i64 0] 93)).heap.size=w.heap.size+1+1:=by simp only[Zk2]
 replace aD:=Qh (aD.out.up bl);replace aC:=Qh (aC.out.up bl);replace hX:=hX.up bl;clear b0 b1 hY hZ;generalize (w.alloc (Qlt 53 s1 a1 n1 c1 s2 a2 n2 c2 s3 a3 n3 c3)).alloc (.cells #[.bool false,.slice none 0 0,.int .i64 0,.int .i64 0] 93)=W at *;have HL:=Qh bl;have HX:=Qh hX;have HA:=Qh dA;have HB:=Qh dB;obtain⟨p0,p1,p2,p3,p4,p5⟩:=QbG dA;clear bl hX dA dB bA;go_wp2_with fail;refine(QfC _ x y z W aD.out hsx hsy hsz).mono ?_;rintro e' w1 ⟨rfl,hb⟩;replace aD:=Qh (aD.out.up hb);replace aC:=Qh (aC.out.up hb);replace HL:=Qh (Bl.up HL.out hb);have a0:=Qh (HX.out.up hb);have bO:=Qh hb;have hB:=(hb.block _ (Ql HB.out).1).trans HB.out;have hA:=(hb.block _ (Ql HA.out).1).trans HA.out;clear p0 p1 p2 p3 p4 p5 hb;obtain⟨p0,p1,p2,p3,p4,p5⟩:=QbG hA;obtain⟨d0,d1,d2,d3⟩:=Qa3 hB;obtain⟨f0,f1,f2,f3⟩:=Qcf hB;have aE:=Qh hB;have a8:=Qh hA;clear hA hB;by_cases hps0:Qau x y z=false
 ·rw[hps0];have HP:=Qh (show ObTo x y z ps x 0 0 true from .inl ⟨hps0,rfl,rfl,rfl,rfl⟩);clear hps0;go_wp2_with fail;have hh:=QhJ aE.out (.bool s1) (.slice a1 n1 c1) (.int .i64 0) (.int .i64 0);have aA:=Qke w1 (w.heap.size+1) (.bool s1) (.slice a1 n1 c1) (.int .i64 0) (.int .i64 0);have aK:=Qle aE.out;exact Qbo (B:=w.heap.size+1) rfl rfl rfl (Qhx _ _ _ _ _ _ _ _ hh) ⟨_,x,0,0,true,rfl,⟨_,_,_,_,rfl,a0.out.fr aA aK⟩,HP.out,ButS.below HL.out aA HL.out.size (fun g e=>by omega)⟩
 rw[Bool.not_eq_false] at hps0;rw[hps0];have a5:=Qh hps0;clear hps0;go_wp2_with fail;clear p0 p1 p2 p3 p4 p5 d0 d1 d2 d3 f0 f1 f2 f3
 go_loopw [7,19] (fun _ s19 wr=>∃ i:Nat,s19=.int .i64 (i:Int)/\i<=nL/\Hid (∀ j,j<i->∀ k',¬ Qat x y z (ps.getD j 0) k')/\Hid (Below w1.heap.size w1 wr))
  (fun _ s19 _=>nL-(intOf s19).toNat)
 case atStart=>exact⟨0,rfl,Nat.zero_le _,Qh fun j h=>by omega,Below.refl _ _⟩
 case round=>
  obtain⟨i,rfl,hi,HO,HW⟩:=hrel;have hB:=(HW.out.block _ (Ql aE.out).1).trans aE.out;have bJ:=Qh hB;obtain⟨d0,d1,d2,d3⟩:=Qa3 hB;obtain⟨f0,f1,f2,f3⟩:=Qcf hB;clear hB;by_cases hlt:i<nL
  ·have q0:(0:Int)<=(i:Int):=by omega
   have q1:(i:Int)<(nL:Int):=by omega
   have aP:i<ps.length:=by rw[aT.out];exact hlt
   have aH:i<(zI ps).length:=by rw[bF.out];exact hlt
   obtain⟨bL,a9,bD,bC,aU⟩:=(aC.out.up HW.out).at aH;obtain⟨bE,aR,aY⟩:=aU i aH;have aX:(zI ps)[i]'aH=(ps[i]:Int):=by simp[zI]
   rw[aX] at aR;have aZ:bE=[.int .i64 (ps[i]:Int)]:=aR
   have cd:wr.cell? ⟨bL,a9+i,none⟩=some (.int .i64 (ps[i]:Int)):=by
    have:=aY 0 (.int .i64 (ps[i]:Int)) (by rw[aZ];rfl);have aO:(J1:Elt Int).k=1:=rfl;rwa [aO,Nat.mul_one,Nat.add_zero] at this
   have aG:=hps ps[i] (List.getElem_mem aP);have aQ:ps.getD i 0=ps[i]:=by rw[Zk3,Zk4 aP];rfl
   obtain⟨p,hp⟩:∃ p,ps[i]=p:=⟨_,rfl⟩;rw[hp] at cd aG aQ;have a6:=Qh aQ;have aW:=aG.1;have bK:=aG.2;clear aU aR aY aZ aX bC aG aQ hp aP aH;subst bD;go_wp2_with fail;clear cd d0 d1 d2 d3 f0 f1 f2 f3
   go_loopw [8] (fun s8 wq=>∃ k:Nat,s8=.int .i64 (k:Int)/\1<=k/\k<=13/\Hid (∀ k',k'<k->¬ Qat x y z p k')/\Hid (Below w1.heap.size w1 wq))
    (fun s8 _=>14-(intOf s8).toNat)
   case atStart=>exact⟨1,rfl,by omega,by omega,Qh fun k' h ho=>by have:=ho.1;omega,HW⟩
   case round=>
    obtain⟨k,rfl,aO,bN,HK,HV⟩:=hrel;go_wp2_with fail;refine(Qdp p k _ aW (by omega) (by omega)).mono ?_;rintro e' w3 ⟨rfl,rfl⟩;by_cases hbig:4096<p ^ k
    ·rw[decide_eq_false (show ¬ p ^ k<=4096 by omega)]
     have bH:=Qh (show ∀ j,j<i+1->∀ k',¬ Qat x y z (ps.getD j 0) k' from fun j h k'=>by
      by_cases e:j=i
      ·subst e;rw[a6.out];intro ho;by_cases hkk:k'<k
       ·exact HK.out k' hkk ho
       ·have h1:p ^ k<=p ^ k':=Nat.pow_le_pow_right (by omega) (by omega);have:=ho.2.1;omega
      ·exact HO.out j (by omega) k')
     clear hbig;go_wp2_with fail;go_roundw
     case rel=>exact⟨i+1,by go_num,by omega,bH,HV⟩
     case measure=>simp[intOf];omega
    ·have aB:p ^ k<=4096:=by omega
     have bB:=Ju aW aB;rw[decide_eq_true aB,show pw4 p k=p ^ k from if_pos aB];have HQ:=Qh (show Qat x y z p k↔QaI x y z p (p ^ k)=false from ⟨fun h=>h.2.2,fun h=>⟨aO,aB,h⟩⟩);have aV:1<=p ^ k:=Nat.one_le_pow _ _ (by omega);obtain⟨q,hq⟩:∃ q,p ^ k=q:=⟨_,rfl⟩;rw[hq] at HQ aB aV |-;have hA:=(HV.out.block _ (Ql a8.out).1).trans a8.out;obtain⟨p0,p1,p2,p3,p4,p5⟩:=QbG hA;have a4:=Qh (aD.out.up HV.out);clear hbig hq hA;go_wp2_with fail;refine(QcG _ x y z p q w3 a4.out aV aB (by omega) (by omega) hsx hsy hsz).mono ?_;rintro e' w4 ⟨rfl,hb⟩;replace p0:=QaD hb p0;replace p1:=QaD hb p1;have aI:=Qh (HV.out.trans (hb.mono HV.out.size));clear hb a4 p2 p3 p4 p5;by_cases hso:QaI x y z p q=false
     ·have aS:=Qh (show ObTo x y z ps x p k true from .inr (.inl ⟨a5.out,rfl,rfl,HQ.out.2 hso,HK.out,i,by rw[aT.out];exact hlt,a6.out,HO.out⟩));rw[hso];have hB:=(aI.out.block _ (Ql aE.out).1).trans aE.out;obtain⟨d0,d1,d2,d3⟩:=Qa3 hB;obtain⟨f0,f1,f2,f3⟩:=Qcf hB;have a7:=Qh hB;have bG:=Qh (a0.out.up aI.out);have aF:=Qh (Bl.up HL.out aI.out);clear hB hso;go_wp2_with fail;have hh:=QhJ a7.out (.bool s1) (.slice a1 n1 c1) (.int .i64 p) (.int .i64 k);have aA:=Qke w4 (w.heap.size+1) (.bool s1) (.slice a1 n1 c1) (.int .i64 p) (.int .i64 k);have aK:=Qle a7.out;exact Qbo (B:=w.heap.size+1) rfl rfl rfl (Qhx _ _ _ _ _ _ _ _ hh) ⟨_,x,p,k,true,rfl,⟨_,_,_,_,rfl,bG.out.fr aA aK⟩,aS.out,ButS.below aF.out aA aF.out.size (fun g e=>by omega)⟩
     ·have bI:=Qh (show ∀ k',k'<k+1->¬ Qat x y z p k' from fun k' h=>by
       by_cases e:k'=k
       ·subst e;exact fun ho=>hso (HQ.out.1 ho)
       ·exact HK.out k' (by omega))
      rw[Bool.not_eq_false] at hso;rw[hso];clear hso p0 p1;go_wp2_with fail;go_roundw
      case rel=>exact⟨k+1,by go_num,by omega,by omega,bI,aI⟩
      case measure=>simp[intOf];omega
  ·have aS:=Qh (show ObTo x y z ps 0 0 0 false from .inr (.inr ⟨a5.out,rfl,rfl,rfl,rfl,fun j h=>HO.out j (by have:=aT.out;omega)⟩));have aF:=Qh (Bl.up HL.out HW.out);go_wp2_with fail;have hh:=QhJ bJ.out (.bool false) (.slice none 0 0) (.int .i64 0) (.int .i64 0);have aA:=Qke wr (w.heap.size+1) (.bool false) (.slice none 0 0) (.int .i64 0) (.int .i64 0);exact Qbo (B:=w.heap.size+1) rfl rfl rfl (Qhx _ _ _ _ _ _ _ _ hh) ⟨_,0,0,0,false,rfl,⟨_,_,_,_,rfl,QaY _⟩,aS.out,ButS.below aF.out aA aF.out.size (fun g e=>by omega)⟩
def QaM (w:World) (cs:List Value) (f:Int×Int×Int×Int):Prop:=∃ s1 a1 n1 c1 s2 a2 n2 c2 s3 a3 n3 c3 s4 a4 n4 c4,cs=[.bool s1,.slice a1 n1 c1,.bool s2,.slice a2 n2 c2,.bool s3,.slice a3 n3 c3,.bool s4,.slice a4 n4 c4]/\It w (Qlv s1 a1 n1 c1) f.1/\It w (Qlv s2 a2 n2 c2) f.2.1/\It w (Qlv s3 a3 n3 c3) f.2.2.1/\It w (Qlv s4 a4 n4 c4) f.2.2.2
def QaL (w:World) (cs:List Value) (f:Int×Int×Int):Prop:=∃ s a n c,cs=[.bool s,.slice a n c,.int .i64 f.2.1,.int .i64 f.2.2]/\It w (Qlv s a n c) f.1
theorem Qar:(Tryz.prog.info? 78).map (fun i=>(i.zero,i.size,i.bytes))=some (some (Qly false none 0 0 false none 0 0 false none 0 0 false none 0 0),8,128):=by kernel_rfl
theorem Qah:(Tryz.prog.info? 93).map (fun i=>(i.zero,i.size,i.bytes))=some (some (.agg #[.bool false,.slice none 0 0,.int .i64 0,.int .i64 0]),4,48):=by kernel_rfl
def eFd:Elt (Int×Int×Int×Int) where
 T:=78
 k:=8
 b:=128
 z:=.agg #[.bool false,.slice none 0 0,.bool false,.slice none 0 0,.bool false,.slice none 0 0,.bool false,.slice none 0 0]
 ok:=QaM
 hk:=by decide
 hb:=by decide
 info:=Qar
 zc:=rfl
 zn:=by decide
 zo:=by decide
 len:=by rintro w cs x ⟨s1,a1,n1,c1,s2,a2,n2,c2,s3,a3,n3,c3,s4,a4,n4,c4,rfl,-⟩;rfl
 one:=by
  rintro w cs x ⟨s1,a1,n1,c1,s2,a2,n2,c2,s3,a3,n3,c3,s4,a4,n4,c4,rfl,-⟩ u hu;simp only[List.mem_cons,List.not_mem_nil,or_false] at hu;rcases hu with rfl|rfl|rfl|rfl|rfl|rfl|rfl|rfl <;> exact⟨rfl,rfl⟩
 fr:=by
  rintro w w' S hb hS cs x ⟨s1,a1,n1,c1,s2,a2,n2,c2,s3,a3,n3,c3,s4,a4,n4,c4,h,h1,h2,h3,h4⟩;exact⟨s1,a1,n1,c1,s2,a2,n2,c2,s3,a3,n3,c3,s4,a4,n4,c4,h,h1.fr hb hS,h2.fr hb hS,h3.fr hb hS,h4.fr hb hS⟩
def eIs:Elt (Int×Int×Int) where
 T:=93
 k:=4
 b:=48
 z:=.agg #[.bool false,.slice none 0 0,.int .i64 0,.int .i64 0]
 ok:=QaL
 hk:=by decide
 hb:=by decide
 info:=Qah
 zc:=rfl
 zn:=by decide
 zo:=by decide
 len:=by rintro w cs x ⟨s,a,n,c,rfl,-⟩;rfl
 one:=by
  rintro w cs x ⟨s,a,n,c,rfl,-⟩ u hu;simp only[List.mem_cons,List.not_mem_nil,or_false] at hu;rcases hu with rfl|rfl|rfl|rfl <;> exact⟨rfl,rfl⟩
 fr:=by
  rintro w w' S hb hS cs x ⟨s,a,n,c,h,hi⟩;exact⟨s,a,n,c,h,hi.fr hb hS⟩
