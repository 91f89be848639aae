/-
  factor.Search.
-/
import Derived.Test.YteidokhjmbihlaaGreatFSA
import Derived.Test.YteidokhjmbihlaaGreatFP1
import Derived.Test.YteidokhjmbihlaaGreatFSB
import Derived.Test.YteidokhjmbihlaaGreatFQ1
import Derived.Test.YteidokhjmbihlaaGreatFI1
import Derived.Test.YteidokhjmbihlaaGreatFZC
import Derived.Test.YteidokhjmbihlaaGreatFZA
set_option linter.all false
set_option maxRecDepth 100000
set_option maxHeartbeats 8000000
namespace Go.Proofs.YteidokhjmbihlaaGreat
open Go.RowKit
attribute [local go_sem ↓] Go.wp_at_zero Go.wp_at_succ
def knQ (d k c:Nat):Kn where
 R:=fun i v _ w=>(i=3->It w v d)/\((i=4\/i=5)->∃ u,v=.tuple #[.int .i64 (k:Int),u]/\It w u c)/\((i=6\/i=9)->v=.int .i64 (k:Int))/\(i=7->It w v c)
 V:=fun w B=>Vx w B 0
 up:=fun h hb=>⟨fun e=>(h.1 e).up hb,fun e=>by obtain⟨u,h1,h2⟩:=h.2.1 e;exact⟨u,h1,h2.up hb⟩,h.2.2.1,fun e=>(h.2.2.2 e).up hb⟩
 vup:=fun h hb=>h.up hb
 vlt:=fun h=>h.lt
section
variable {d k c:Nat} {v u:Value} {Z:Nat->Prop} {w:World}
theorem Qli (h:It w v d):(knQ d k c).R 3 v Z w:=⟨fun _=>h,nzz,nzz,nzz⟩
theorem Qlq (h:It w u c):(knQ d k c).R 4 (.tuple #[.int .i64 (k:Int),u]) Z w:=⟨nzz,fun _=>⟨u,rfl,h⟩,nzz,nzz⟩
theorem Qlj (h:It w u c):(knQ d k c).R 5 (.tuple #[.int .i64 (k:Int),u]) Z w:=⟨nzz,fun _=>⟨u,rfl,h⟩,nzz,nzz⟩
theorem Qlm:(knQ d k c).R 6 (.int .i64 (k:Int)) Z w:=⟨nzz,nzz,fun _=>rfl,nzz⟩
theorem Qlf:(knQ d k c).R 9 (.int .i64 (k:Int)) Z w:=⟨nzz,nzz,fun _=>rfl,nzz⟩
theorem Qll (h:It w v c):(knQ d k c).R 7 v Z w:=⟨nzz,nzz,nzz,fun _=>h⟩
end
theorem Qk4 {f:Fn} (hf:RightN f) (hm:Md f.N) {Pi:List (Nat×Nat)} {i:Nat} (h:Pi.Perm (srP f i)):∀ x∈zP Pi,qP x:=fun x hx=>by
 unfold zP at hx;obtain⟨p,hp,rfl⟩:=List.mem_map.1 hx;replace hp:=h.mem_iff.1 hp;unfold srP at hp;rcases List.mem_append.1 hp with hp|hp
 ·exact Qt (hf.szk hm (by rw[Qd];exact List.mem_append_left _ (Qw hp))) (by decide)
 ·obtain⟨r,hr,hx'⟩:=List.mem_flatMap.1 hp;obtain⟨y,hy,rfl⟩:=List.mem_map.1 hx';have hr':=List.mem_of_mem_take (List.mem_filter.1 hr).1;unfold pds at hy;have hy':=List.mem_range.1 (List.mem_filter.1 hy).1;exact Qt (Y2 (by omega)) (Qt (hf.szk hm (x:=r) (by rw[Qd];exact List.mem_append_right _ hr')) (by decide))
theorem QkL {p q i:Nat} (h:p<=q+i*1048577):p<=q+(i+1)*1048577:=Qt h (Nat.add_le_add_left (Nat.mul_le_mul_right _ (Nat.le_succ i)) q)
theorem Qk9 {f:Fn} (hf:RightN f) (hm:Md f.N) {i:Nat}:∀ x∈zP (srR f i),qP x:=fun x hx=>by
 unfold zP at hx;obtain⟨p,hp,rfl⟩:=List.mem_map.1 hx;unfold srR at hp;have hp':=List.mem_of_mem_take (List.mem_filter.1 hp).1;exact Qt (hf.szk hm (by rw[Qd];exact List.mem_append_right _ (Qw hp'))) (by decide)
structure ScI (W wr:World) (f:Fn) (B:Nat) (vP vR:Value) (P R:List (Nat×Nat)):Prop where
 hB:Bu wr B vP vR (f.N:Int) (zP P) (zP R) (f.B:Int)
 hk:∀ k,YB B vP vR k->W.heap.size<=k
 hW:Below W.heap.size W wr
section
variable {W wr w':World} {f:Fn} {B:Nat} {vP vR:Value} {P R:List (Nat×Nat)}
theorem ScI.up (h:ScI W wr f B vP vR P R) (hb:Below wr.heap.size wr w'):ScI W w' f B vP vR P R:=⟨h.hB.up hb,h.hk,Bl.up h.hW hb⟩
theorem ScI.put {vP' vR':Value} {P' R':List (Nat×Nat)} (h:ScI W wr f B vP vR P R) (h1:Bu w' B vP' vR' (f.N:Int) (zP P') (zP R') (f.B:Int)) (hb:ButS (YB B vP vR) wr w')
  (hk:∀ k,YB B vP' vR' k->YB B vP vR k\/wr.heap.size<=k):ScI W w' f B vP' vR' P' R':=by
 have h2:=h.hW.size;exact⟨h1,fun k hk'=>(hk k hk').elim (h.hk k) (fun e=>by omega),ButS.below h.hW hb h2 (fun k e=>h.hk k e)⟩
end
theorem Qgl (va : Value) (f : Fn) (k : Int) (w : World) (ha : Fx w va (zF f)) (hf : RightN f) (hm : Md f.N) (hk : ¬ k < 2097152) :
  Calls Tryz.prog 134 #[va,.int .i64 k] w fun e w'=>∃ v g,e=.returned v/\Fx w' v (zF g)/\SearchTo f pds g/\Below w.heap.size w w':=by
 obtain⟨W,s,a,n,c,aP,cP,aR,cR,rfl,hW,bl,hs,hF⟩:=Qln w ha;clear ha;have e0:=hf.len hm;have aY:sz (f.N:Int)<=1099511627776:=Qt (hm.sz (Nat.le_refl _)) (by decide);have bU:=Qh hf;have cT:=Qh hm;have fC:=Qh aY;have eO:=hf.n1;clear hf hm aY;go_enter Tryz.func134,Tryz.ntmps134
 go_upto_region 1 with fail;rw[<- hW];clear hW;have hD:=Zk1 W (.cells #[.bool false,.slice none 0 0,.slice none 0 0,.slice none 0 0,.int .i64 0] 191);rw[hs] at hD;have aJ:=hF.alloc (.cells #[.bool false,.slice none 0 0,.slice none 0 0,.slice none 0 0,.int .i64 0] 191);have dR:=Bl.alloc bl (.cells #[.bool false,.slice none 0 0,.slice none 0 0,.slice none 0 0,.int .i64 0] 191);have bJ:(W.alloc (.cells #[.bool false,.slice none 0 0,.slice none 0 0,.slice none 0 0,.int .i64 0] 191)).heap.size=w.heap.size+2:=by simp[hs]
 clear hF hs bl;generalize W.alloc (.cells #[.bool false,.slice none 0 0,.slice none 0 0,.slice none 0 0,.int .i64 0] 191)=W1 at *;obtain⟨p0,p1,p2,p3,p4,hN,hP,hR⟩:=aJ.cellsN;have HN:=Qh hN;have HP:=Qh hP;have HR:=Qh hR;have HD:=Qh hD;have HB:=Qh dR;have fW:=Qh aJ;have fA:=Qh bJ;have a1:(zP f.P).length<=1099511627776:=by rw[Qbe];omega
 clear hN hP hR hD dR aJ bJ;go_wp2_with fail;refine(Qev _ _ (f.N:Int) (f.B:Int) (zP f.P) HN.out HP.out a1).mono ?_;rintro e w1 ⟨B,vP,rfl,d6,aT,bO⟩
 have hI:ScI W1 w1 f B vP (.slice none 0 0) (srP f 0) (srR f 0):=by
  refine⟨?_,bO,aT⟩;have e1:srP f 0=f.P:=by simp[srP]
  have e2:srR f 0=[]:=by simp[srR]
  rw[e1,e2];exact d6
 have HI:=Qh hI;have fU:=QaD aT p3;have fI:=Qh p0;have fH:=Qh p1;clear hI d6 aT bO p0 p1 p2 p3 p4;go_wp2_with fail
 go_loopw [7,8,9,11,12,13,27] (fun s7 s8 s9 s11 s12 s13 s27 wr=>∃ (i:Nat) (vQ vR:Value) (Pi:List (Nat×Nat)),s27=.int .i64 (i:Int)/\i<=f.R.length/\ScI W1 wr f B vQ vR Pi (srR f i)/\Pi.Perm (srP f i)/\Pi.length<=f.P.length+i*1048577)
  (fun _ _ _ _ _ _ s27 _=>f.R.length-(intOf s27).toNat)
 case atStart=>exact⟨0,_,_,_,rfl,Nat.zero_le _,HI.out,List.Perm.refl _,by simp[srP]⟩
 case round=>
  clear HI;obtain⟨i,vQ,vR,Pi,rfl,hi,hI,dZ,bP⟩:=hrel;have HI:=Qh hI;have bH:=Qh dZ;have bT:=Qh bP;clear hI dZ bP;by_cases aE:i<f.R.length
  ·have i0:(0:Int)<=(i:Int):=by omega
   have i1:(i:Int)<(f.R.length:Int):=by omega
   have b9:i<(zP f.R).length:=by rw[Qbe];exact aE
   obtain⟨ba,eG,rfl,eU,dG⟩:=HR.out.at b9;obtain⟨s2,a2,n2,c2,x0,x1,x2,hx⟩:=dG.pow b9;rw[Qd7] at x2 hx;have dK:f.R.getD i (0,0)=f.R[i]:=by rw[Zk3,Zk4 aE];rfl
   rw[dK] at x2 hx;have aQ:f.R[i]∈f.R:=List.getElem_mem aE;have bK:sz ((f.R[i].1:Nat):Int)<=1099511627776:=Qt (bU.out.szk cT.out (by rw[Qd];exact List.mem_append_right _ (Qw aQ))) (by decide);have bS:2<=f.R[i].1:=bU.out.incR.big (Qw aQ);have aG:=QkH aE;have aB:=Qkj aE;obtain⟨q,hq⟩:∃ q,f.R[i]=q:=⟨_,rfl⟩;rw[hq] at x2 hx bK bS aG aB;obtain⟨x,kx⟩:=q;dsimp only at x2 hx bK bS aG aB;replace x0:=QaD HI.out.hW x0;replace x1:=QaD HI.out.hW x1;replace x2:=QaD HI.out.hW x2;have HX:=Qh (hx.up HI.out.hW);have fL:=Qh aG;have fQ:=Qh aB;have cU:=Qh aE;have fB:=Qh bK;have cX:=Qh bS;clear dG b9 dK aQ hq hx aG aB aE hi eU bK bS;go_upto_region 7 with fail;have aC:=Qc wr (.cells #[.bool s2,.slice a2 n2 c2,.int .i64 (kx:Int)] 147);have b8:∀ g,YB B vQ vR g->g≠wr.heap.size:=fun g hg e=>by have:=HI.out.hB.slt g hg;omega
   have bF:=Zk1 wr (.cells #[.bool s2,.slice a2 n2 c2,.int .i64 (kx:Int)] 147);replace HI:=Qh (HI.out.up aC);replace HX:=Qh (HX.out.up aC);have cC:=(Ql bF).1;clear aC x0 x1 x2;generalize wr.alloc (.cells #[.bool s2,.slice a2 n2 c2,.int .i64 (kx:Int)] 147)=w7 at *;generalize wr.heap.size=B7 at *;have b0:w7.cell? ⟨B7,0,none⟩=some (.bool s2):=by simp[World.cell?,bF]
   have b1:w7.cell? ⟨B7,1,none⟩=some (.slice a2 n2 c2):=by simp[World.cell?,bF]
   have b2:w7.cell? ⟨B7,2,none⟩=some (.int .i64 (kx:Int)):=by simp[World.cell?,bF]
   clear bF;go_wp2_with fail;refine(QeE _ (x:Int) w7 HX.out fB.out).mono ?_;rintro e w8 ⟨bt,rfl,aT,dV,aS⟩;have bN:=QjY (x:=x) (by simpa using aT) (by simpa using dV);replace HI:=Qh (HI.out.up aS);replace HX:=Qh (HX.out.up aS);replace b0:=QaD aS b0;replace b1:=QaD aS b1;replace b2:=QaD aS b2;clear aT dV aS;by_cases hl:Ye x=true
   ·have j1:¬ (bt:Int)>40:=by have:=bN.2 hl;omega
    have HL:=Qh (fL.out hl);have cO:=Qh (show x<1099511627776 by simpa [Ye] using hl);clear bN hl;go_upto_region 9 with fail;go_wp2_with fail;refine(Qd9 _ x w8 HX.out cO.out).mono ?_;rintro e w9 ⟨rfl,aI⟩;replace HI:=Qh (HI.out.up aI);clear b0 b1 b2 aI HX j1 b8;go_upto_region 10 with fail;go_wp2_with fail;refine(QdV x w9 (by have:=cX.out;omega) cO.out).mono ?_;rintro e fR ⟨vL,l,rfl,hL,a0,a4,bC⟩;have dF:∀ g,vL.ownBlock=some g->¬ YB B vQ vR g:=fun g hg e=>by have:=(hL.lt g hg).1;have:=HI.out.hB.slt g e;omega
    replace HI:=Qh (HI.out.up bC);obtain⟨aL,cL,rfl,-⟩:=hL.slice;have cW:=Qh hL.sr;have d7:=Qh a0;have cQ:=Qh dF;obtain⟨nL,bM⟩:∃ nL,(zI l).length=nL:=⟨_,rfl⟩;have aO:l.length=nL:=by rw[<- QdF];exact bM
    rw[bM] at cW cQ |-;rw[aO] at a4;have fJ:=Qh bM;have cS:=Qh aO;clear hL a0 dF bC bM aO;go_wp2_with fail
    go_loopw [11,12,13,56] (fun s11 s12 s13 s56 wr=>∃ (j:Nat) (vU:Value),s56=.int .i64 (j:Int)/\j<=nL/\ScI W1 wr f B vU vR (Pi++Qk f.N (l.take j)) (srR f i)/\Sr e64 wr (.slice aL nL cL) (zI l)/\∀ g,(Value.slice aL nL cL).ownBlock=some g->¬ YB B vU vR g)
     (fun _ _ _ s56 _=>nL-(intOf s56).toNat)
    case atStart=>exact⟨0,vQ,rfl,Nat.zero_le _,by rw[List.take_zero,show Qk f.N []=[] from rfl,List.append_nil];exact HI.out,cW.out,cQ.out⟩
    case round=>
     clear HI cW cQ;obtain⟨j,vU,rfl,hj,hI,bQ,b6⟩:=hrel;by_cases hjl:j<nL
     ·have q0:(0:Int)<=(j:Int):=by omega
      have q1:(j:Int)<(nL:Int):=by omega
      have cD:j<l.length:=by rw[cS.out];exact hjl
      have a9:j<(zI l).length:=by rw[fJ.out];exact hjl
      obtain⟨bL,cZ,eW,eV,aZ⟩:=bQ.at a9;obtain⟨e4,cE,dP⟩:=aZ j a9;have dO:(zI l)[j]'a9=(l[j]:Int):=by simp[zI]
      rw[dO] at cE;have dQ:e4=[.int .i64 (l[j]:Int)]:=cE
      have cd:wr.cell? ⟨bL,cZ+j,none⟩=some (.int .i64 (l[j]:Int)):=by
       have:=dP 0 (.int .i64 (l[j]:Int)) (by rw[dQ];rfl);have bO:(e64:Elt Int).k=1:=rfl;rwa [bO,Nat.mul_one,Nat.add_zero] at this
      have b3:=(d7.out.2 l[j]).1 (List.getElem_mem cD);have a1:l[j]<=x:=Nat.le_of_dvd (by have:=cX.out;omega) b3.2;have b4:=b3.1.1;have bI:Qk f.N (l.take (j+1))=Qk f.N (l.take j)++[(l[j],mlt l[j] f.N)]:=by rw[List.take_succ_eq_append_getElem cD,Qc2]
      obtain⟨d,hd⟩:∃ d,d=l[j]:=⟨_,rfl⟩;rw[<- hd] at cd a1 b4 bI;have c5:=cO.out;have aX:sz (d:Int)<=4:=Qt (show sz (d:Int)<=2 from Qf (Nat.lt_of_le_of_lt (show (d:Int).natAbs<=x by omega) (Nat.lt_of_lt_of_le c5 (by decide)))) (by decide);obtain⟨k,hk⟩:∃ k,k=mlt d f.N:=⟨_,rfl⟩;obtain⟨cc,hc⟩:∃ cc,cc=cof d f.N:=⟨_,rfl⟩;rw[<- hk] at bI
      have aM:∀ va vb W,It W va (f.N:Int)->It W vb d->Calls Tryz.prog 174 #[va,vb] W fun e w'=>∃ v,e=.returned (.tuple #[.int .i64 (k:Int),v])/\It w' v cc/\Below W.heap.size W w':=fun va vb W hx hy=>by
       rw[hk,hc];exact QeA va vb f.N d W hx hy eO b4 fC.out (Qt aX (by decide))
      have eT:d<1099511627776:=by omega
      have e9:=Qh bI;have aK:=Qh a4;have eE:=Qh hjl;have fN:=Qh a9;have eB:=Qh (HN.out.up hI.hW);have x0:=QaD hI.hW fI.out;have x1:=QaD hI.hW fH.out;have HI:=Qh hI;have eC:=Qh bQ;have eA:=Qh b6;clear bI hd hk hc hI bQ b6 cD a9 aZ dP dO dQ b3 cE eV c5 a1 hj hjl a4;subst eW;go_upto_region 13 with fail;clear cd;refine QaT (by kernel_rfl) [10] (S:=fun w'=>w'.cell? ⟨w.heap.size,0,none⟩=some (.bool s)/\w'.cell? ⟨w.heap.size,1,none⟩=some (.slice a n c)) ⟨x0,x1⟩ (fun aA=>?_);refine pL 0 rfl ?_;refine kL 1 rfl ?_;refine pL 2 rfl ?_;clear aA
      refine Qa5 [(3,some 64),(4,some 65),(5,some 60),(6,some 66),(7,some 67),(8,some 13),(9,some 12)] 1 (Fl (knQ d k cc) 8 wr) rfl (by kernel_rfl) (by decide) (by kernel_rfl) (by kernel_rfl) (by kernel_rfl)
       (fun bb x wz h=>⟨QaD h.bl x0,QaD h.bl x1⟩) (fun x=>Fl.start _ _ _ _) ?_ ?_
      ·intro i hi;have eR:i=3\/i=4\/i=5\/i=6\/i=7\/i=8\/i=9:=by simpa using hi
       clear hi;rcases eR with rfl|rfl|rfl|rfl|rfl|rfl|rfl
       ·refine⟨_,rfl,fun bb x wz hJ hbb hw K hK=>?_⟩;clear hbb hw;simp only[Qba] at hK |-;go_simp;refine(Qbf (d:Int) _ (by omega) (by omega)).mono ?_;rintro e w2 ⟨v,rfl,hv,hb⟩;exact hK.out _ _ (hJ.call (i:=3) (by decide) (Z:=fun _=>False) (Qli hv) (fun k hk=>hk.elim) hb)
       ·refine⟨_,rfl,fun bb x wz hJ hbb hw K hK=>?_⟩;obtain⟨Z,hR,-,-⟩:=hJ.pr 3 (by decide) (hw 3 (by kernel_rfl));have eJ:=hR.1 rfl;clear hbb hw hR;simp only[Qba] at hK |-;go_simp;refine(aM _ _ wz (eB.out.up hJ.bl) eJ).mono ?_;rintro e w2 ⟨v,rfl,hv,hb⟩;exact hK.out _ _ (hJ.call (i:=4) (by decide) (Z:=fun _=>False) (Qlq hv) (fun k hk=>hk.elim) hb)
       ·refine⟨_,rfl,fun bb x wz hJ hbb hw K hK=>?_⟩
        have hp:∃ u,x 4=.tuple #[.int .i64 (k:Int),u]/\It wz u cc:=by
         obtain⟨Z,hR,-,-⟩:=hJ.pr 4 (by decide) (hw 4 (by kernel_rfl));exact hR.2.1 (.inl rfl)
        have hh:=Classical.choose_spec hp;generalize Classical.choose hp=u at hh;have aU:=hh.1;have hu:=hh.2;clear hbb hw hp hh;simp only[Qba,aU] at hK |-;go_simp;exact hK.out _ _ (hJ.call (i:=5) (by decide) (Z:=fun _=>False) (Qlj hu) (fun k hk=>hk.elim) (Below.refl _ _))
       ·refine⟨_,rfl,fun bb x wz hJ hbb hw K hK=>?_⟩
        have hp:∃ u,x 5=.tuple #[.int .i64 (k:Int),u]/\It wz u cc:=by
         obtain⟨Z,hR,-,-⟩:=hJ.pr 5 (by decide) (hw 5 (by kernel_rfl));exact hR.2.1 (.inr rfl)
        have hh:=Classical.choose_spec hp;generalize Classical.choose hp=u at hh;have aU:=hh.1;have hu:=hh.2;clear hbb hw hp hh;simp only[Qba,aU] at hK |-;go_simp;exact hK.out _ _ (hJ.call (i:=6) (by decide) (Z:=fun _=>False) (Qlm) (fun k hk=>hk.elim) (Below.refl _ _))
       ·refine⟨_,rfl,fun bb x wz hJ hbb hw K hK=>?_⟩
        have hp:∃ u,x 5=.tuple #[.int .i64 (k:Int),u]/\It wz u cc:=by
         obtain⟨Z,hR,-,-⟩:=hJ.pr 5 (by decide) (hw 5 (by kernel_rfl));exact hR.2.1 (.inr rfl)
        have hh:=Classical.choose_spec hp;generalize Classical.choose hp=u at hh;have aU:=hh.1;have hu:=hh.2;clear hbb hw hp hh;simp only[Qba,aU] at hK |-;go_simp;exact hK.out _ _ (hJ.call (i:=7) (by decide) (Z:=fun _=>False) (Qll hu) (fun k hk=>hk.elim) (Below.refl _ _))
       ·refine⟨_,rfl,fun bb x wz hJ hbb hw K hK=>?_⟩;clear hbb hw;simp only[Qba] at hK |-;go_simp;exact hK.out _ _ (hJ.var (W':=wz.alloc (Qlr 33 false none 0 0)) (Vx.new0 (w:=wz) rfl) (Qc _ _))
       ·refine⟨_,rfl,fun bb x wz hJ hbb hw K hK=>?_⟩
        have eH:x 6=.int .i64 (k:Int):=by
         obtain⟨Z,hR,-,-⟩:=hJ.pr 6 (by decide) (hw 6 (by kernel_rfl));exact hR.2.2.1 (.inl rfl)
        clear hbb hw;simp only[Qba,eH] at hK |-;go_simp;exact hK.out _ _ (hJ.call (i:=9) (by decide) (Z:=fun _=>False) (Qlf) (fun k hk=>hk.elim) (Below.refl _ _))
      ·intro bb x wz hbb hJ;obtain⟨Z,hR,-,-⟩:=hJ.pr 7 (by decide) (hbb 7 (by decide));have hu:=hR.2.2.2 rfl;obtain⟨Z',dX,-,-⟩:=hJ.pr 9 (by decide) (hbb 9 (by decide));have h5:=dX.2.2.1 (.inr rfl);obtain⟨bW,aW,cN,bD⟩:=hJ.pj (hbb 8 (by decide));have bB:=hJ.bl;clear hbb hJ hR dX;obtain⟨u2,dA⟩:∃ u2,u2=x 3:=⟨_,rfl⟩;obtain⟨u3,c9⟩:∃ u3,u3=x 4:=⟨_,rfl⟩;obtain⟨u4,c8⟩:∃ u4,u4=x 5:=⟨_,rfl⟩;obtain⟨u5,c7⟩:∃ u5,u5=x 6:=⟨_,rfl⟩;obtain⟨s3,a3,n3,c3,bY⟩:=hu.shape;rw[bY] at hu;simp only[QfQ,aW,bY,h5,<- dA,<- c9,<- c8,<- c7];clear aW bY h5 dA c9 c8 c7;have e3:(fun w':World=>w'.cell? ⟨w.heap.size,0,none⟩=some (.bool s)/\w'.cell? ⟨w.heap.size,1,none⟩=some (.slice a n c)) wz:=⟨QaD bB x0,QaD bB x1⟩;obtain⟨y1,y2,y3,y4,z0,z1,z2,z3,-⟩:=bD.cells;(refine oL 10 rfl fun K hK=>tL ?_;go_simp);(go_wp2_with fail;refine xL hK (tL ?_);clear hK);refine dT ?_;clear z0 z1 z2 z3 e3 x0 x1 eB;have dS:=(ButS.set wz bW 0 (.bool s3)).trans (ButS.set _ bW 1 (.slice a3 n3 c3));have cH:=ButS.below bB dS bB.size (fun k e=>by subst e;exact cN);have eF:=Qh (HI.out.up cH);have eD:=Qh (eC.out.up cH);clear dS cH HI eC bB hu bD;generalize (wz.setCell ⟨bW,0,none⟩ (.bool s3)).setCell ⟨bW,1,none⟩ (.slice a3 n3 c3)=w5 at *;go_wp2_with fail;refine(Qbf (d:Int) _ (by omega) (by omega)).mono ?_;rintro e w6 ⟨v6,rfl,bZ,cG⟩;obtain⟨s6,a6,n6,c6,rfl⟩:=bZ.shape;have bR:=eF.out.up cG;have cJ:=eD.out.up cG;clear eF eD cG;go_wp2_with fail
       have a5:(zP (Pi++Qk f.N (l.take j))).length<1099511627776:=by
        have h1:=bT.out;have h2:i<=65536:=by have:=cU.out;omega
        have h3:(Qk f.N (l.take j)).length<=1048577:=by
         unfold Qk;rw[List.length_map,List.length_take];have:=aK.out;have:=eE.out;omega
        rw[Qbe,List.length_append];omega
       refine(QcP bR.hB s6 a6 n6 c6 (d:Int) (k:Int) bZ a5).mono ?_;rintro e w7 ⟨rfl,bX,q1,q2,q3⟩;have aD:ScI W1 w7 f B bX vR (Pi++Qk f.N (l.take (j+1))) (srR f i):=bR.put (by rw[e9.out,<- List.append_assoc,QbB];exact q1) q2 q3;have dE:zI l≠[]:=fun e=>by have:=fN.out;rw[e] at this;simp at this
       have fP:=Qh aD;have fM:=Qh (cJ.fr q2 bR.hB.nw (fun _=>eA.out));have fK:=Qh (show ∀ g,(Value.slice (some ⟨bL,cZ,none⟩) nL cL).ownBlock=some g->¬ YB B bX vR g from fun g hg hs=>(q3 g hs).elim (eA.out g hg) (fun e=>by have:=cJ.lt dE g hg;omega));clear bR cJ aD q1 q2 q3 bZ a5 dE aM aX b4 eT;have q9:(nL:Int)<=1048577:=by have:=aK.out;omega
       go_wp2_with fail;have:=eE.out;clear hk a1 cC;refine⟨⟨j+1,bX,?_,by omega,fP.out,fM.out,fK.out⟩,?_⟩
       ·go_num
       ·simp[intOf];omega
     ·have q1:¬ (j:Int)<(nL:Int):=by omega
      have dJ:l.take j=l:=List.take_of_length_le (by rw[cS.out];omega);rw[dJ] at hI;have HI:=Qh hI;have aK:=Qh a4;clear hI bQ b6 dJ hj hjl a4;go_wp2_with fail;have aE:=cU.out;have fV:(Qk f.N l).length<=1048577:=by unfold Qk;rw[List.length_map,cS.out];exact aK.out
      have eM:=bT.out
      have eL:(Pi++Qk f.N l).Perm (srP f (i+1)):=by
       rw[HL.out.1];exact bH.out.append ((Prm.perm d7.out (QhL (by have:=cX.out;omega))).map _)
      refine⟨⟨i+1,_,_,_,by go_num,by omega,by rw[HL.out.2];exact HI.out,eL,by rw[List.length_append];omega⟩,by simp[intOf];omega⟩
   ·have j1:(bt:Int)>40:=by have:=mt bN.1 hl;omega
    have HH:=Qh (fQ.out hl);clear bN hl;go_upto_region 8 with fail;obtain⟨aV,cV,rfl,-⟩:=HI.out.hB.hR.slice;obtain⟨_,_,_,_,-,-,-,m3,-⟩:=HI.out.hB.cellsA
    have eK:(zP (srR f i)).length<=65536:=by
     rw[Qbe];exact Qt (List.length_filter_le _ _) (by rw[List.length_take];omega)
    obtain⟨nV,b7⟩:∃ nV,(zP (srR f i)).length=nV:=⟨_,rfl⟩;rw[b7] at HI m3 b8 eK;have d9:=Qh b7;clear b7 j1;refine QaT (by kernel_rfl) [8] (S:=fun w'=>w'.cell? ⟨B,3,none⟩=some (.slice aV nV cV)/\w'.cell? ⟨B7,0,none⟩=some (.bool s2)/\w'.cell? ⟨B7,1,none⟩=some (.slice a2 n2 c2)/\w'.cell? ⟨B7,2,none⟩=some (.int .i64 (kx:Int))) ⟨m3,b0,b1,b2⟩ (fun aA=>?_);(refine pL 0 rfl ?_;refine pL 1 rfl ?_;refine pL 2 rfl ?_;refine pL 3 rfl ?_;refine pL 4 rfl ?_)
    (refine kL 5 rfl ?_;refine kL 6 rfl ?_)
    (refine oL 7 rfl fun K hK=>tL ?_;go_simp);have aC:=(Qc w8 (.cells #[.bool s2,.slice a2 n2 c2,.int .i64 (kx:Int)] 147)).drew;have aZ:Sc eP (w8.alloc (.cells #[.bool s2,.slice a2 n2 c2,.int .i64 (kx:Int)] 147)).drew w8.heap.size 0 [((x:Int),(kx:Int))]:=Sc.one (Zk1 w8 _) ⟨s2,a2,n2,c2,rfl,HX.out.up aC⟩;have aD:=HI.out.up aC;have m7:=QaD aC m3;have eQ:=aC.size;(go_wp2_with fail;clear aA;refine nxL hK ⟨m7,QaD aC b0,QaD aC b1,QaD aC b2⟩ fun aA=>tL ?_;clear hK);refine Qbh (i:=8) (by as_aux_lemma=>kernel_rfl) rfl (fun K hK=>?_);refine QbX (E:=eP) (by rfl) (.tmp 40) (.tmp 42) _ (by rfl) Tryz.underlying144 0 _ (zP (srR f i)) [((x:Int),(kx:Int))] (by rfl) aD.hB.hR (Nat.zero_le _) w8.heap.size 0 1 1 (by rfl) rfl aZ (by decide) (by rw[d9.out];omega) ?_;intro g8 bG w9 h8 aI dL;rw[d9.out] at h8 |-
    have bA:∀ g,(Value.slice (some ⟨g8,0,none⟩) (nV+1) bG).ownBlock=some g->(Value.slice aV nV cV).ownBlock=some g\/g=(w8.alloc (.cells #[.bool s2,.slice a2 n2 c2,.int .i64 (kx:Int)] 147)).drew.heap.size:=fun g hg=>by
     have:g8=g:=by simpa [Value.ownBlock] using hg
     rw[<- this];exact dL
    obtain⟨c4,c1,c0⟩:=aD.hB.setR aI h8 bA;obtain⟨_,_,_,_,-,-,-,-,-,-,-,-,cY,-,-⟩:=aD.hB.cellsA;have d8:=Yc aI (Qe9 m7) aD.hB.d3 m7;have f8:=Yl aI (Qe9 m7) aD.hB.d3 cY;have d5:ScI W1 _ f B vQ (.slice (some ⟨g8,0,none⟩) (nV+1) bG) Pi (srR f (i+1)):=aD.put (by rw[HH.out.2,QbB];exact c4) c1 c0;have fO:=Qh d5;have fF:=Qh (show Pi.Perm (srP f (i+1)) by rw[HH.out.1];exact bH.out);clear aZ aD aC m7 m3 b0 b1 b2 eQ h8 aI dL bA c4 c1 c0 cY d5 HI HX b8 bH HH;refine hK.out _ _ nzz ?_;clear hK aA;refine tL ?_;(refine pL 9 rfl ?_;refine pL 10 rfl ?_;refine pL 11 rfl ?_)
    (refine oL 12 rfl fun K hK=>tL ?_;go_simp);(go_wp2_with fail;refine xL hK (tL ?_);clear hK);refine dT ?_;clear d8 f8;go_wp2_with fail;have aE:=cU.out;have aI:=QkL bT.out;refine⟨⟨i+1,vQ,_,Pi,by go_num,by omega,fO.out,fF.out,aI⟩,by simp[intOf];omega⟩
  ·have il:¬ (i:Int)<(f.R.length:Int):=by omega
   obtain rfl:i=f.R.length:=by omega
   have bP:=bT.out;have hq:=Qk4 bU.out cT.out bH.out;have dD:=Qk9 bU.out cT.out (i:=f.R.length)
   have dI : (zP Pi).length < 4611686018427387904 := by rw [Qbe]; have : f.R.length ≤ 65536 := by omega
                                                        omega
   have dH:(zP (srR f f.R.length)).length<4611686018427387904:=by
    rw[Qbe];have:(srR f f.R.length).length<=(f.R.take f.R.length).length:=List.length_filter_le _ _;rw[List.length_take] at this;omega
   have HQ:=Qh hq;have fE:=Qh dD;clear bP hq dD;go_wp2_with fail;refine(QfD HI.out.hB HQ.out fE.out dI dH).mono ?_;rintro e w8 ⟨v6,P',R',rfl,hF,dC,dB,dU⟩;have cI:=ButS.below HI.out.hW dU HI.out.hW.size (fun g hs=>HI.out.hk g hs);have bJ:=fA.out;have cM:=(cI.block (w.heap.size+1) (by omega)).trans HD.out;have dW:=ButS.below HB.out (ButS.of cI (fun _=>False)) HB.out.size (fun g e=>e.elim);obtain⟨sF,aF,nF,cF,fT,fS,rfl,cK,aJ,bE⟩:=hF;obtain⟨e8,e6,rfl,-⟩:=id aJ;obtain⟨e7,e5,rfl,-⟩:=id bE;dsimp only at cK aJ bE |-;obtain⟨lP,a8⟩:∃ lP,P'.length=lP:=⟨_,rfl⟩;obtain⟨lR,a7⟩:∃ lR,R'.length=lR:=⟨_,rfl⟩;rw[a8] at aJ |-;rw[a7] at bE |-;have H1:=Qh cK;have H2:=Qh aJ;have H3:=Qh bE;have H6:=Qh dW;have fG:=Qh dC;have fD:=Qh dB;have bV:=Qh cM;obtain⟨d0,d1,d2,d3,d4,f0,f1,f2,f3,f4⟩:=QgS cM;clear cK aJ bE dW dC dB cM dU dI dH a8 a7 cI bJ HI;go_wp2_with fail;have aH:=Qir w8 (w.heap.size+1) (.bool sF) (.slice aF nF cF) (.slice e8 lP e6) (.slice e7 lR e5) (.int .i64 (f.B:Int));have b5:=QjO bV.out;refine QfG (B:=w.heap.size+1) rfl rfl rfl (Qhm bV.out _ _ _ _ _) ?_;obtain⟨Pn,eZ,dY⟩:=fG.out.nat;obtain⟨Rn,eY,eX⟩:=fD.out.nat;have eS:=H1.out.fr aH b5;have dN:=H2.out.fr aH b5 (fun hl=>H2.out.not_fact bV.out hl);have dM:=H3.out.fr aH b5 (fun hl=>H3.out.not_fact bV.out hl);refine⟨_,⟨f.N,Pn,Rn,f.B⟩,rfl,⟨sF,aF,nF,cF,_,_,rfl,eS,by rw[eZ] at dN;exact dN,by rw[eY] at dM;exact dM⟩,?_,ButS.below H6.out aH H6.out.size (fun g e=>by omega)⟩;exact QkD rfl rfl ⟨dY.1.trans bH.out,dY.2⟩ eX
