/-
  factor.Search.
-/
import Derived.Test.YteidokhjmbihlaaGreatFSA
import Derived.Test.YteidokhjmbihlaaGreatFP1
import Derived.Test.YteidokhjmbihlaaGreatFSB
import Derived.Test.YteidokhjmbihlaaGreatFQ1
import Derived.Test.YteidokhjmbihlaaGreatFI1
import Derived.Test.YteidokhjmbihlaaGreatFZC
import Derived.Test.YteidokhjmbihlaaGreatFZA
set_option linter.all false
set_option maxRecDepth 100000
set_option maxHeartbeats 8000000
namespace Go.Proofs.YteidokhjmbihlaaGreat
open Go.RowKit
attribute [local go_sem ↓] Go.wp_at_zero Go.wp_at_succ
def knQ (d k c:Nat):Kn where
 R:=fun i v _ w=>(i=3->It w v d)/\((i=4\/i=5)->∃ u,v=.tuple #[.int .i64 (k:Int),u]/\It w u c)/\((i=6\/i=9)->v=.int .i64 (k:Int))/\(i=7->It w v c)
 V:=fun w B=>Vx w B 0
 up:=fun h hb=>⟨fun e=>(h.1 e).up hb,fun e=>by obtain⟨u,h1,h2⟩:=h.2.1 e;exact⟨u,h1,h2.up hb⟩,h.2.2.1,fun e=>(h.2.2.2 e).up hb⟩
 vup:=fun h hb=>h.up hb
 vlt:=fun h=>h.lt
section
variable {d k c:Nat} {v u:Value} {Z:Nat->Prop} {w:World}
theorem QlX (h:It w v d):(knQ d k c).R 3 v Z w:=⟨fun _=>h,nzz,nzz,nzz⟩
theorem QlT (h:It w u c):(knQ d k c).R 4 (.tuple #[.int .i64 (k:Int),u]) Z w:=⟨nzz,fun _=>⟨u,rfl,h⟩,nzz,nzz⟩
theorem QlW (h:It w u c):(knQ d k c).R 5 (.tuple #[.int .i64 (k:Int),u]) Z w:=⟨nzz,fun _=>⟨u,rfl,h⟩,nzz,nzz⟩
theorem QlN:(knQ d k c).R 6 (.int .i64 (k:Int)) Z w:=⟨nzz,nzz,fun _=>rfl,nzz⟩
theorem QlS:(knQ d k c).R 9 (.int .i64 (k:Int)) Z w:=⟨nzz,nzz,fun _=>rfl,nzz⟩
theorem QlR (h:It w v c):(knQ d k c).R 7 v Z w:=⟨nzz,nzz,nzz,fun _=>h⟩
end
theorem QlA {f:Fn} (hf:RightN f) (hm:Md f.N) {Pi:List (Nat×Nat)} {i:Nat} (h:Pi.Perm (srP f i)):∀ x∈zP Pi,qP x:=fun x hx=>by
 unfold zP at hx;obtain⟨p,hp,rfl⟩:=List.mem_map.1 hx;replace hp:=h.mem_iff.1 hp;unfold srP at hp;rcases List.mem_append.1 hp with hp|hp
 ·exact Qt (hf.szk hm (by rw[Qm];exact List.mem_append_left _ (QU hp))) (by decide)
 ·obtain⟨r,hr,hx'⟩:=List.mem_flatMap.1 hp;obtain⟨y,hy,rfl⟩:=List.mem_map.1 hx';have hr':=List.mem_of_mem_take (List.mem_filter.1 hr).1;unfold pds at hy;have hy':=List.mem_range.1 (List.mem_filter.1 hy).1;exact Qt (QB (by omega)) (Qt (hf.szk hm (x:=r) (by rw[Qm];exact List.mem_append_right _ hr')) (by decide))
theorem Qle {p q i:Nat} (h:p<=q+i*1048577):p<=q+(i+1)*1048577:=Qt h (Nat.add_le_add_left (Nat.mul_le_mul_right _ (Nat.le_succ i)) q)
theorem Qlw {f:Fn} (hf:RightN f) (hm:Md f.N) {i:Nat}:∀ x∈zP (srR f i),qP x:=fun x hx=>by
 unfold zP at hx;obtain⟨p,hp,rfl⟩:=List.mem_map.1 hx;unfold srR at hp;have hp':=List.mem_of_mem_take (List.mem_filter.1 hp).1;exact Qt (hf.szk hm (by rw[Qm];exact List.mem_append_right _ (QU hp'))) (by decide)
structure ScI (W wr:World) (f:Fn) (B:Nat) (vP vR:Value) (P R:List (Nat×Nat)):Prop where
 hB:Bu wr B vP vR (f.N:Int) (zP P) (zP R) (f.B:Int)
 hk:∀ k,YU B vP vR k->W.heap.size<=k
 hW:Below W.heap.size W wr
section
variable {W wr w':World} {f:Fn} {B:Nat} {vP vR:Value} {P R:List (Nat×Nat)}
theorem ScI.up (h:ScI W wr f B vP vR P R) (hb:Below wr.heap.size wr w'):ScI W w' f B vP vR P R:=⟨h.hB.up hb,h.hk,Bl.up h.hW hb⟩
theorem ScI.put {vP' vR':Value} {P' R':List (Nat×Nat)} (h:ScI W wr f B vP vR P R) (h1:Bu w' B vP' vR' (f.N:Int) (zP P') (zP R') (f.B:Int)) (hb:ButS (YU B vP vR) wr w')
  (hk:∀ k,YU B vP' vR' k->YU B vP vR k\/wr.heap.size<=k):ScI W w' f B vP' vR' P' R':=by
 have h2:=h.hW.size;exact⟨h1,fun k hk'=>(hk k hk').elim (h.hk k) (fun e=>by omega),ButS.below h.hW hb h2 (fun k e=>h.hk k e)⟩
end
theorem QeV (va : Value) (f : Fn) (k : Int) (w : World) (ha : Fx w va (zF f)) (hf : RightN f) (hm : Md f.N) (hk : ¬ k < 2097152) :
  Calls Tryz.prog 134 #[va,.int .i64 k] w fun e w'=>∃ v g,e=.returned v/\Fx w' v (zF g)/\SearchTo f pds g/\Below w.heap.size w w':=by
 obtain⟨W,s,a,n,c,aP,cP,aR,cR,rfl,hW,bl,hs,hF⟩:=QlP w ha;clear ha;have hLen:=hf.len hm;have hszN:sz (f.N:Int)<=1099511627776:=Qt (hm.sz (Nat.le_refl _)) (by decide);have HF0:=Qh hf;have HM0:=Qh hm;have HSN:=Qh hszN;have hn1:=hf.n1;clear hf hm hszN;go_enter Tryz.func134,Tryz.ntmps134
 go_upto_region 1 with fail;rw[<- hW];clear hW;have hD:=heap_alloc_new W (.cells #[.bool false,.slice none 0 0,.slice none 0 0,.slice none 0 0,.int .i64 0] 191);rw[hs] at hD;have hF2:=hF.alloc (.cells #[.bool false,.slice none 0 0,.slice none 0 0,.slice none 0 0,.int .i64 0] 191);have hbl:=Bl.alloc bl (.cells #[.bool false,.slice none 0 0,.slice none 0 0,.slice none 0 0,.int .i64 0] 191);have hsz:(W.alloc (.cells #[.bool false,.slice none 0 0,.slice none 0 0,.slice none 0 0,.int .i64 0] 191)).heap.size=w.heap.size+2:=by simp[hs]
 clear hF hs bl;generalize W.alloc (.cells #[.bool false,.slice none 0 0,.slice none 0 0,.slice none 0 0,.int .i64 0] 191)=W1 at *;obtain⟨p0,p1,p2,p3,p4,hN,hP,hR⟩:=hF2.cellsN;have HN:=Qh hN;have HP:=Qh hP;have HR:=Qh hR;have HD:=Qh hD;have HB:=Qh hbl;have HFB:=Qh hF2;have HSZ:=Qh hsz;have hpl:(zP f.P).length<=1099511627776:=by rw[QO];omega
 clear hN hP hR hD hbl hF2 hsz;go_wp2_with fail;refine(Qcn _ _ (f.N:Int) (f.B:Int) (zP f.P) HN.out HP.out hpl).mono ?_;rintro e w1 ⟨B,vP,rfl,hBu,hb1,hk1⟩
 have hI:ScI W1 w1 f B vP (.slice none 0 0) (srP f 0) (srR f 0):=by
  refine⟨?_,hk1,hb1⟩;have e1:srP f 0=f.P:=by simp[srP]
  have e2:srR f 0=[]:=by simp[srR]
  rw[e1,e2];exact hBu
 have HI:=Qh hI;have p3':=Qb hb1 p3;have HP0:=Qh p0;have HP1:=Qh p1;clear hI hBu hb1 hk1 p0 p1 p2 p3 p4;go_wp2_with fail
 go_loopw [7,8,9,11,12,13,27] (fun s7 s8 s9 s11 s12 s13 s27 wr=>∃ (i:Nat) (vQ vR:Value) (Pi:List (Nat×Nat)),s27=.int .i64 (i:Int)/\i<=f.R.length/\ScI W1 wr f B vQ vR Pi (srR f i)/\Pi.Perm (srP f i)/\Pi.length<=f.P.length+i*1048577)
  (fun _ _ _ _ _ _ s27 _=>f.R.length-(intOf s27).toNat)
 case atStart=>exact⟨0,_,_,_,rfl,Nat.zero_le _,HI.out,List.Perm.refl _,by simp[srP]⟩
 case round=>
  clear HI;obtain⟨i,vQ,vR,Pi,rfl,hi,hI,hPp,hPl⟩:=hrel;have HI:=Qh hI;have HPP:=Qh hPp;have HPL:=Qh hPl;clear hI hPp hPl;by_cases hlt:i<f.R.length
  ·have i0:(0:Int)<=(i:Int):=by omega
   have i1:(i:Int)<(f.R.length:Int):=by omega
   have hlz:i<(zP f.R).length:=by rw[QO];exact hlt
   obtain⟨ba,offa,rfl,hba,hla⟩:=HR.out.at hlz;obtain⟨s2,a2,n2,c2,x0,x1,x2,hx⟩:=hla.pow hlz;rw[QbS] at x2 hx;have hge:f.R.getD i (0,0)=f.R[i]:=by rw[List.getD_eq_getElem?_getD,List.getElem?_eq_getElem hlt];rfl
   rw[hge] at x2 hx;have hmem:f.R[i]∈f.R:=List.getElem_mem hlt;have hsx:sz ((f.R[i].1:Nat):Int)<=1099511627776:=Qt (HF0.out.szk HM0.out (by rw[Qm];exact List.mem_append_right _ (QU hmem))) (by decide);have h2x:2<=f.R[i].1:=HF0.out.incR.big (QU hmem);have hlow:=QkZ hlt;have hhigh:=Qkp hlt;obtain⟨q,hq⟩:∃ q,f.R[i]=q:=⟨_,rfl⟩;rw[hq] at x2 hx hsx h2x hlow hhigh;obtain⟨x,kx⟩:=q;dsimp only at x2 hx hsx h2x hlow hhigh;replace x0:=Qb HI.out.hW x0;replace x1:=Qb HI.out.hW x1;replace x2:=Qb HI.out.hW x2;have HX:=Qh (hx.up HI.out.hW);have HLO:=Qh hlow;have HHI:=Qh hhigh;have HLT:=Qh hlt;have HSX:=Qh hsx;have H2X:=Qh h2x;clear hla hlz hge hmem hq hx hlow hhigh hlt hi hba hsx h2x;go_upto_region 7 with fail;have hbP:=Qa wr (.cells #[.bool s2,.slice a2 n2 c2,.int .i64 (kx:Int)] 147);have hn7:∀ g,YU B vQ vR g->g≠wr.heap.size:=fun g hg e=>by have:=HI.out.hB.slt g hg;omega
   have hD7:=heap_alloc_new wr (.cells #[.bool s2,.slice a2 n2 c2,.int .i64 (kx:Int)] 147);replace HI:=Qh (HI.out.up hbP);replace HX:=Qh (HX.out.up hbP);have hlt7:=(Ql hD7).1;clear hbP x0 x1 x2;generalize wr.alloc (.cells #[.bool s2,.slice a2 n2 c2,.int .i64 (kx:Int)] 147)=w7 at *;generalize wr.heap.size=B7 at *;have b0:w7.cell? ⟨B7,0,none⟩=some (.bool s2):=by simp[World.cell?,hD7]
   have b1:w7.cell? ⟨B7,1,none⟩=some (.slice a2 n2 c2):=by simp[World.cell?,hD7]
   have b2:w7.cell? ⟨B7,2,none⟩=some (.int .i64 (kx:Int)):=by simp[World.cell?,hD7]
   clear hD7;go_wp2_with fail;refine(Qcp _ (x:Int) w7 HX.out HSX.out).mono ?_;rintro e w8 ⟨bt,rfl,hb1,hb2,hb8⟩;have hli:=Qj2 (x:=x) (by simpa using hb1) (by simpa using hb2);replace HI:=Qh (HI.out.up hb8);replace HX:=Qh (HX.out.up hb8);replace b0:=Qb hb8 b0;replace b1:=Qb hb8 b1;replace b2:=Qb hb8 b2;clear hb1 hb2 hb8;by_cases hl:Jf x=true
   ·have j1:¬ (bt:Int)>40:=by have:=hli.2 hl;omega
    have HL:=Qh (HLO.out hl);have HXL:=Qh (show x<1099511627776 by simpa [Jf] using hl);clear hli hl;go_upto_region 9 with fail;go_wp2_with fail;refine(Qb7 _ x w8 HX.out HXL.out).mono ?_;rintro e w9 ⟨rfl,hb9⟩;replace HI:=Qh (HI.out.up hb9);clear b0 b1 b2 hb9 HX j1 hn7;go_upto_region 10 with fail;go_wp2_with fail;refine(Qb0 x w9 (by have:=H2X.out;omega) HXL.out).mono ?_;rintro e w10 ⟨vL,l,rfl,hL,hprm,hll,hb10⟩;have hnL:∀ g,vL.ownBlock=some g->¬ YU B vQ vR g:=fun g hg e=>by have:=(hL.lt g hg).1;have:=HI.out.hB.slt g e;omega
    replace HI:=Qh (HI.out.up hb10);obtain⟨aL,cL,rfl,-⟩:=hL.slice;have HLL:=Qh hL.sr;have HPM:=Qh hprm;have HNL:=Qh hnL;obtain⟨nL,hnl⟩:∃ nL,(zI l).length=nL:=⟨_,rfl⟩;have hnl2:l.length=nL:=by rw[<- Jh];exact hnl
    rw[hnl] at HLL HNL |-;rw[hnl2] at hll;have HNZ:=Qh hnl;have HN2:=Qh hnl2;clear hL hprm hnL hb10 hnl hnl2;go_wp2_with fail
    go_loopw [11,12,13,56] (fun s11 s12 s13 s56 wr=>∃ (j:Nat) (vU:Value),s56=.int .i64 (j:Int)/\j<=nL/\ScI W1 wr f B vU vR (Pi++QW f.N (l.take j)) (srR f i)/\Sr e64 wr (.slice aL nL cL) (zI l)/\∀ g,(Value.slice aL nL cL).ownBlock=some g->¬ YU B vU vR g)
     (fun _ _ _ s56 _=>nL-(intOf s56).toNat)
    case atStart=>exact⟨0,vQ,rfl,Nat.zero_le _,by rw[List.take_zero,show QW f.N []=[] from rfl,List.append_nil];exact HI.out,HLL.out,HNL.out⟩
    case round=>
     clear HI HLL HNL;obtain⟨j,vU,rfl,hj,hI,hLr,hnr⟩:=hrel;by_cases hjl:j<nL
     ·have q0:(0:Int)<=(j:Int):=by omega
      have q1:(j:Int)<(nL:Int):=by omega
      have hjn:j<l.length:=by rw[HN2.out];exact hjl
      have hjz:j<(zI l).length:=by rw[HNZ.out];exact hjl
      obtain⟨bL,oLs,haL,hbL,hsc⟩:=hLr.at hjz;obtain⟨dcs,hdc,hdl⟩:=hsc j hjz;have hdz:(zI l)[j]'hjz=(l[j]:Int):=by simp[zI]
      rw[hdz] at hdc;have hde:dcs=[.int .i64 (l[j]:Int)]:=hdc
      have cd:wr.cell? ⟨bL,oLs+j,none⟩=some (.int .i64 (l[j]:Int)):=by
       have:=hdl 0 (.int .i64 (l[j]:Int)) (by rw[hde];rfl);have hk1:(e64:Elt Int).k=1:=rfl;rwa [hk1,Nat.mul_one,Nat.add_zero] at this
      have hpp:=(HPM.out.2 l[j]).1 (List.getElem_mem hjn);have hpl:l[j]<=x:=Nat.le_of_dvd (by have:=H2X.out;omega) hpp.2;have hp2:=hpp.1.1;have htk:QW f.N (l.take (j+1))=QW f.N (l.take j)++[(l[j],mlt l[j] f.N)]:=by rw[List.take_succ_eq_append_getElem hjn,QaV]
      obtain⟨d,hd⟩:∃ d,d=l[j]:=⟨_,rfl⟩;rw[<- hd] at cd hpl hp2 htk;have hxl:=HXL.out;have hszd:sz (d:Int)<=4:=Qt (show sz (d:Int)<=2 from Qf (Nat.lt_of_le_of_lt (show (d:Int).natAbs<=x by omega) (Nat.lt_of_lt_of_le hxl (by decide)))) (by decide);obtain⟨k,hk⟩:∃ k,k=mlt d f.N:=⟨_,rfl⟩;obtain⟨cc,hc⟩:∃ cc,cc=cof d f.N:=⟨_,rfl⟩;rw[<- hk] at htk
      have htake:∀ va vb W,It W va (f.N:Int)->It W vb d->Calls Tryz.prog 174 #[va,vb] W fun e w'=>∃ v,e=.returned (.tuple #[.int .i64 (k:Int),v])/\It w' v cc/\Below W.heap.size W w':=fun va vb W hx hy=>by
       rw[hk,hc];exact Qcs va vb f.N d W hx hy hn1 hp2 HSN.out (Qt hszd (by decide))
      have hdx:d<1099511627776:=by omega
      have HTK:=Qh htk;have HPL2:=Qh hll;have HJL:=Qh hjl;have HJZ:=Qh hjz;have HNN:=Qh (HN.out.up hI.hW);have x0:=Qb hI.hW HP0.out;have x1:=Qb hI.hW HP1.out;have HI:=Qh hI;have HLR:=Qh hLr;have HNR:=Qh hnr;clear htk hd hk hc hI hLr hnr hjn hjz hsc hdl hdz hde hpp hdc hbL hxl hpl hj hjl hll;subst haL;go_upto_region 13 with fail;clear cd;refine Qc (by kernel_rfl) [10] (S:=fun w'=>w'.cell? ⟨w.heap.size,0,none⟩=some (.bool s)/\w'.cell? ⟨w.heap.size,1,none⟩=some (.slice a n c)) ⟨x0,x1⟩ (fun hHeld=>?_);refine pL 0 rfl ?_;refine kL 1 rfl ?_;refine pL 2 rfl ?_;clear hHeld
      refine Qz [(3,some 64),(4,some 65),(5,some 60),(6,some 66),(7,some 67),(8,some 13),(9,some 12)] 1 (Fl (knQ d k cc) 8 wr) rfl (by kernel_rfl) (by decide) (by kernel_rfl) (by kernel_rfl) (by kernel_rfl)
       (fun bb x wz h=>⟨Qb h.bl x0,Qb h.bl x1⟩) (fun x=>Fl.start _ _ _ _) ?_ ?_
      ·intro i hi;have hi':i=3\/i=4\/i=5\/i=6\/i=7\/i=8\/i=9:=by simpa using hi
       clear hi;rcases hi' with rfl|rfl|rfl|rfl|rfl|rfl|rfl
       ·refine⟨_,rfl,fun bb x wz hJ hbb hw K hK=>?_⟩;clear hbb hw;simp only[QE] at hK |-;go_simp;refine(QY (d:Int) _ (by omega) (by omega)).mono ?_;rintro e w2 ⟨v,rfl,hv,hb⟩;exact hK.out _ _ (hJ.call (i:=3) (by decide) (Z:=fun _=>False) (QlX hv) (fun k hk=>hk.elim) hb)
       ·refine⟨_,rfl,fun bb x wz hJ hbb hw K hK=>?_⟩;obtain⟨Z,hR,-,-⟩:=hJ.pr 3 (by decide) (hw 3 (by kernel_rfl));have hv2:=hR.1 rfl;clear hbb hw hR;simp only[QE] at hK |-;go_simp;refine(htake _ _ wz (HNN.out.up hJ.bl) hv2).mono ?_;rintro e w2 ⟨v,rfl,hv,hb⟩;exact hK.out _ _ (hJ.call (i:=4) (by decide) (Z:=fun _=>False) (QlT hv) (fun k hk=>hk.elim) hb)
       ·refine⟨_,rfl,fun bb x wz hJ hbb hw K hK=>?_⟩
        have hp:∃ u,x 4=.tuple #[.int .i64 (k:Int),u]/\It wz u cc:=by
         obtain⟨Z,hR,-,-⟩:=hJ.pr 4 (by decide) (hw 4 (by kernel_rfl));exact hR.2.1 (.inl rfl)
        have hh:=Classical.choose_spec hp;generalize Classical.choose hp=u at hh;have hxu:=hh.1;have hu:=hh.2;clear hbb hw hp hh;simp only[QE,hxu] at hK |-;go_simp;exact hK.out _ _ (hJ.call (i:=5) (by decide) (Z:=fun _=>False) (QlW hu) (fun k hk=>hk.elim) (Below.refl _ _))
       ·refine⟨_,rfl,fun bb x wz hJ hbb hw K hK=>?_⟩
        have hp:∃ u,x 5=.tuple #[.int .i64 (k:Int),u]/\It wz u cc:=by
         obtain⟨Z,hR,-,-⟩:=hJ.pr 5 (by decide) (hw 5 (by kernel_rfl));exact hR.2.1 (.inr rfl)
        have hh:=Classical.choose_spec hp;generalize Classical.choose hp=u at hh;have hxu:=hh.1;have hu:=hh.2;clear hbb hw hp hh;simp only[QE,hxu] at hK |-;go_simp;exact hK.out _ _ (hJ.call (i:=6) (by decide) (Z:=fun _=>False) (QlN) (fun k hk=>hk.elim) (Below.refl _ _))
       ·refine⟨_,rfl,fun bb x wz hJ hbb hw K hK=>?_⟩
        have hp:∃ u,x 5=.tuple #[.int .i64 (k:Int),u]/\It wz u cc:=by
         obtain⟨Z,hR,-,-⟩:=hJ.pr 5 (by decide) (hw 5 (by kernel_rfl));exact hR.2.1 (.inr rfl)
        have hh:=Classical.choose_spec hp;generalize Classical.choose hp=u at hh;have hxu:=hh.1;have hu:=hh.2;clear hbb hw hp hh;simp only[QE,hxu] at hK |-;go_simp;exact hK.out _ _ (hJ.call (i:=7) (by decide) (Z:=fun _=>False) (QlR hu) (fun k hk=>hk.elim) (Below.refl _ _))
       ·refine⟨_,rfl,fun bb x wz hJ hbb hw K hK=>?_⟩;clear hbb hw;simp only[QE] at hK |-;go_simp;exact hK.out _ _ (hJ.var (W':=wz.alloc (.cells #[.bool false,.slice none 0 0] 33)) (Vx.new0 (w:=wz) rfl) (Qa _ _))
       ·refine⟨_,rfl,fun bb x wz hJ hbb hw K hK=>?_⟩
        have hx5:x 6=.int .i64 (k:Int):=by
         obtain⟨Z,hR,-,-⟩:=hJ.pr 6 (by decide) (hw 6 (by kernel_rfl));exact hR.2.2.1 (.inl rfl)
        clear hbb hw;simp only[QE,hx5] at hK |-;go_simp;exact hK.out _ _ (hJ.call (i:=9) (by decide) (Z:=fun _=>False) (QlS) (fun k hk=>hk.elim) (Below.refl _ _))
      ·intro bb x wz hbb hJ;obtain⟨Z,hR,-,-⟩:=hJ.pr 7 (by decide) (hbb 7 (by decide));have hu:=hR.2.2.2 rfl;obtain⟨Z',hR',-,-⟩:=hJ.pr 9 (by decide) (hbb 9 (by decide));have h5:=hR'.2.2.1 (.inr rfl);obtain⟨B13,hx13,hB13,hV13⟩:=hJ.pj (hbb 8 (by decide));have hbz:=hJ.bl;clear hbb hJ hR hR';obtain⟨u2,hu2⟩:∃ u2,u2=x 3:=⟨_,rfl⟩;obtain⟨u3,hu3⟩:∃ u3,u3=x 4:=⟨_,rfl⟩;obtain⟨u4,hu4⟩:∃ u4,u4=x 5:=⟨_,rfl⟩;obtain⟨u5,hu5⟩:∃ u5,u5=x 6:=⟨_,rfl⟩;obtain⟨s3,a3,n3,c3,hx6⟩:=hu.shape;rw[hx6] at hu;simp only[Qdn,hx13,hx6,h5,<- hu2,<- hu3,<- hu4,<- hu5];clear hx13 hx6 h5 hu2 hu3 hu4 hu5;have hHd:(fun w':World=>w'.cell? ⟨w.heap.size,0,none⟩=some (.bool s)/\w'.cell? ⟨w.heap.size,1,none⟩=some (.slice a n c)) wz:=⟨Qb hbz x0,Qb hbz x1⟩;obtain⟨y1,y2,y3,y4,z0,z1,z2,z3,-⟩:=hV13.cells;(refine oL 10 rfl fun K hK=>tL ?_;go_simp);(go_wp2_with fail;refine xL hK (tL ?_);clear hK);refine dT ?_;clear z0 z1 z2 z3 hHd x0 x1 HNN;have hbf:=(ButS.set wz B13 0 (.bool s3)).trans (ButS.set _ B13 1 (.slice a3 n3 c3));have hb5:=ButS.below hbz hbf hbz.size (fun k e=>by subst e;exact hB13);have HI2:=Qh (HI.out.up hb5);have HL2:=Qh (HLR.out.up hb5);clear hbf hb5 HI HLR hbz hu hV13;generalize (wz.setCell ⟨B13,0,none⟩ (.bool s3)).setCell ⟨B13,1,none⟩ (.slice a3 n3 c3)=w5 at *;go_wp2_with fail;refine(QY (d:Int) _ (by omega) (by omega)).mono ?_;rintro e w6 ⟨v6,rfl,hv6,hb6⟩;obtain⟨s6,a6,n6,c6,rfl⟩:=hv6.shape;have hI6:=HI2.out.up hb6;have hL6:=HL2.out.up hb6;clear HI2 HL2 hb6;go_wp2_with fail
       have hlen:(zP (Pi++QW f.N (l.take j))).length<1099511627776:=by
        have h1:=HPL.out;have h2:i<=65536:=by have:=HLT.out;omega
        have h3:(QW f.N (l.take j)).length<=1048577:=by
         unfold QW;rw[List.length_map,List.length_take];have:=HPL2.out;have:=HJL.out;omega
        rw[QO,List.length_append];omega
       refine(QaF hI6.hB s6 a6 n6 c6 (d:Int) (k:Int) hv6 hlen).mono ?_;rintro e w7 ⟨rfl,vP',q1,q2,q3⟩;have hI7:ScI W1 w7 f B vP' vR (Pi++QW f.N (l.take (j+1))) (srR f i):=hI6.put (by rw[HTK.out,<- List.append_assoc,Yo];exact q1) q2 q3;have hne:zI l≠[]:=fun e=>by have:=HJZ.out;rw[e] at this;simp at this
       have HI7:=Qh hI7;have HL7:=Qh (hL6.fr q2 hI6.hB.nw (fun _=>HNR.out));have HN7:=Qh (show ∀ g,(Value.slice (some ⟨bL,oLs,none⟩) nL cL).ownBlock=some g->¬ YU B vP' vR g from fun g hg hs=>(q3 g hs).elim (HNR.out g hg) (fun e=>by have:=hL6.lt hne g hg;omega));clear hI6 hL6 hI7 q1 q2 q3 hv6 hlen hne htake hszd hp2 hdx;have q9:(nL:Int)<=1048577:=by have:=HPL2.out;omega
       go_wp2_with fail;have:=HJL.out;clear hk hpl hlt7;refine⟨⟨j+1,vP',?_,by omega,HI7.out,HL7.out,HN7.out⟩,?_⟩
       ·go_num
       ·simp[intOf];omega
     ·have q1:¬ (j:Int)<(nL:Int):=by omega
      have hje:l.take j=l:=List.take_of_length_le (by rw[HN2.out];omega);rw[hje] at hI;have HI:=Qh hI;have HPL2:=Qh hll;clear hI hLr hnr hje hj hjl hll;go_wp2_with fail;have hlt:=HLT.out;have hpw:(QW f.N l).length<=1048577:=by unfold QW;rw[List.length_map,HN2.out];exact HPL2.out
      have hpl3:=HPL.out
      have hpm:(Pi++QW f.N l).Perm (srP f (i+1)):=by
       rw[HL.out.1];exact HPP.out.append ((Prm.perm HPM.out (QgP (by have:=H2X.out;omega))).map _)
      refine⟨⟨i+1,_,_,_,by go_num,by omega,by rw[HL.out.2];exact HI.out,hpm,by rw[List.length_append];omega⟩,by simp[intOf];omega⟩
   ·have j1:(bt:Int)>40:=by have:=mt hli.1 hl;omega
    have HH:=Qh (HHI.out hl);clear hli hl;go_upto_region 8 with fail;obtain⟨aV,cV,rfl,-⟩:=HI.out.hB.hR.slice;obtain⟨_,_,_,_,-,-,-,m3,-⟩:=HI.out.hB.cellsA
    have hrl:(zP (srR f i)).length<=65536:=by
     rw[QO];exact Qt (List.length_filter_le _ _) (by rw[List.length_take];omega)
    obtain⟨nV,hnV⟩:∃ nV,(zP (srR f i)).length=nV:=⟨_,rfl⟩;rw[hnV] at HI m3 hn7 hrl;have HNV:=Qh hnV;clear hnV j1;refine Qc (by kernel_rfl) [8] (S:=fun w'=>w'.cell? ⟨B,3,none⟩=some (.slice aV nV cV)/\w'.cell? ⟨B7,0,none⟩=some (.bool s2)/\w'.cell? ⟨B7,1,none⟩=some (.slice a2 n2 c2)/\w'.cell? ⟨B7,2,none⟩=some (.int .i64 (kx:Int))) ⟨m3,b0,b1,b2⟩ (fun hHeld=>?_);(refine pL 0 rfl ?_;refine pL 1 rfl ?_;refine pL 2 rfl ?_;refine pL 3 rfl ?_;refine pL 4 rfl ?_)
    (refine kL 5 rfl ?_;refine kL 6 rfl ?_)
    (refine oL 7 rfl fun K hK=>tL ?_;go_simp);have hbP:=(Qa w8 (.cells #[.bool s2,.slice a2 n2 c2,.int .i64 (kx:Int)] 147)).drew;have hsc:Sc eP (w8.alloc (.cells #[.bool s2,.slice a2 n2 c2,.int .i64 (kx:Int)] 147)).drew w8.heap.size 0 [((x:Int),(kx:Int))]:=Sc.one (heap_alloc_new w8 _) ⟨s2,a2,n2,c2,rfl,HX.out.up hbP⟩;have hI7:=HI.out.up hbP;have m7:=Qb hbP m3;have hl8:=hbP.size;(go_wp2_with fail;clear hHeld;refine nxL hK ⟨m7,Qb hbP b0,Qb hbP b1,Qb hbP b2⟩ fun hHeld=>tL ?_;clear hK);refine QS (i:=8) (by as_aux_lemma=>kernel_rfl) rfl (fun K hK=>?_);refine YI (E:=eP) (by rfl) (.tmp 40) (.tmp 42) _ (by rfl) Tryz.underlying144 0 _ (zP (srR f i)) [((x:Int),(kx:Int))] (by rfl) hI7.hB.hR (Nat.zero_le _) w8.heap.size 0 1 1 (by rfl) rfl hsc (by decide) (by rw[HNV.out];omega) ?_;intro g8 cap8 w9 h8 hb9 hg8;rw[HNV.out] at h8 |-
    have hg8':∀ g,(Value.slice (some ⟨g8,0,none⟩) (nV+1) cap8).ownBlock=some g->(Value.slice aV nV cV).ownBlock=some g\/g=(w8.alloc (.cells #[.bool s2,.slice a2 n2 c2,.int .i64 (kx:Int)] 147)).drew.heap.size:=fun g hg=>by
     have:g8=g:=by simpa [Value.ownBlock] using hg
     rw[<- this];exact hg8
    obtain⟨k1',k2',k3'⟩:=hI7.hB.setR hb9 h8 hg8';obtain⟨_,_,_,_,-,-,-,-,-,-,-,-,zf3,-,-⟩:=hI7.hB.cellsA;have d8:=YV hb9 (QdP m7) hI7.hB.d3 m7;have f8:=Ji hb9 (QdP m7) hI7.hB.d3 zf3;have hI9:ScI W1 _ f B vQ (.slice (some ⟨g8,0,none⟩) (nV+1) cap8) Pi (srR f (i+1)):=hI7.put (by rw[HH.out.2,Yo];exact k1') k2' k3';have HI9:=Qh hI9;have HP9:=Qh (show Pi.Perm (srP f (i+1)) by rw[HH.out.1];exact HPP.out);clear hsc hI7 hbP m7 m3 b0 b1 b2 hl8 h8 hb9 hg8 hg8' k1' k2' k3' zf3 hI9 HI HX hn7 HPP HH;refine hK.out _ _ nzz ?_;clear hK hHeld;refine tL ?_;(refine pL 9 rfl ?_;refine pL 10 rfl ?_;refine pL 11 rfl ?_)
    (refine oL 12 rfl fun K hK=>tL ?_;go_simp);(go_wp2_with fail;refine xL hK (tL ?_);clear hK);refine dT ?_;clear d8 f8;go_wp2_with fail;have hlt:=HLT.out;have hb9:=Qle HPL.out;refine⟨⟨i+1,vQ,_,Pi,by go_num,by omega,HI9.out,HP9.out,hb9⟩,by simp[intOf];omega⟩
  ·have il:¬ (i:Int)<(f.R.length:Int):=by omega
   obtain rfl:i=f.R.length:=by omega
   have hPl:=HPL.out;have hq:=QlA HF0.out HM0.out HPP.out;have hq':=Qlw HF0.out HM0.out (i:=f.R.length)
   have hlP : (zP Pi).length < 4611686018427387904 := by rw [QO]; have : f.R.length ≤ 65536 := by omega
                                                         omega
   have hlR:(zP (srR f f.R.length)).length<4611686018427387904:=by
    rw[QO];have:(srR f f.R.length).length<=(f.R.take f.R.length).length:=List.length_filter_le _ _;rw[List.length_take] at this;omega
   have HQ:=Qh hq;have HQ':=Qh hq';clear hPl hq hq';go_wp2_with fail;refine(Qer HI.out.hB HQ.out HQ'.out hlP hlR).mono ?_;rintro e w8 ⟨v6,P',R',rfl,hF,hsP,hsR,hbd⟩;have hW8:=ButS.below HI.out.hW hbd HI.out.hW.size (fun g hs=>HI.out.hk g hs);have hsz:=HSZ.out;have hD8:=(hW8.block (w.heap.size+1) (by omega)).trans HD.out;have hWw:=ButS.below HB.out (ButS.of hW8 (fun _=>False)) HB.out.size (fun g e=>e.elim);obtain⟨sF,aF,nF,cF,vP6,vR6,rfl,hF1,hF2,hF3⟩:=hF;obtain⟨aP6,cP6,rfl,-⟩:=id hF2;obtain⟨aR6,cR6,rfl,-⟩:=id hF3;dsimp only at hF1 hF2 hF3 |-;obtain⟨lP,hlP'⟩:∃ lP,P'.length=lP:=⟨_,rfl⟩;obtain⟨lR,hlR'⟩:∃ lR,R'.length=lR:=⟨_,rfl⟩;rw[hlP'] at hF2 |-;rw[hlR'] at hF3 |-;have H1:=Qh hF1;have H2:=Qh hF2;have H3:=Qh hF3;have H6:=Qh hWw;have HP6:=Qh hsP;have HR6:=Qh hsR;have HD8:=Qh hD8;obtain⟨d0,d1,d2,d3,d4,f0,f1,f2,f3,f4⟩:=QfK hD8;clear hF1 hF2 hF3 hWw hsP hsR hD8 hbd hlP hlR hlP' hlR' hW8 hsz HI;go_wp2_with fail;have hfin:=Qiz w8 (w.heap.size+1) (.bool sF) (.slice aF nF cF) (.slice aP6 lP cP6) (.slice aR6 lR cR6) (.int .i64 (f.B:Int));have hnw:=Qj0 HD8.out;refine QeQ (B:=w.heap.size+1) rfl rfl rfl (QgB HD8.out _ _ _ _ _) ?_;obtain⟨Pn,hPn,hPs⟩:=HP6.out.nat;obtain⟨Rn,hRn,hRs⟩:=HR6.out.nat;have hf1:=H1.out.fr hfin hnw;have hf2:=H2.out.fr hfin hnw (fun hl=>H2.out.not_fact HD8.out hl);have hf3:=H3.out.fr hfin hnw (fun hl=>H3.out.not_fact HD8.out hl);refine⟨_,⟨f.N,Pn,Rn,f.B⟩,rfl,⟨sF,aF,nF,cF,_,_,rfl,hf1,by rw[hPn] at hf2;exact hf2,by rw[hRn] at hf3;exact hf3⟩,?_,ButS.below H6.out hfin H6.out.size (fun g e=>by omega)⟩;exact QkR rfl rfl ⟨hPs.1.trans HPP.out,hPs.2⟩ hRs
