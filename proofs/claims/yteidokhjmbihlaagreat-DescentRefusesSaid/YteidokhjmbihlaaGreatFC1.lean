/-
  nat.div: the long division.
-/
import Derived.Deep.CutBlock
import Derived.StillTailTactics
import Derived.Deep.DeepCutAuto
import Derived.Test.YteidokhjmbihlaaGreatFA
import Derived.Test.YteidokhjmbihlaaGreatFB
set_option linter.all false
set_option maxRecDepth 100000
set_option maxHeartbeats 4000000
namespace Go.Proofs.YteidokhjmbihlaaGreat
open Go.RowKit
theorem Qfk (a b:Option Addr) (n m ca cb:Nat) (f h:Nat->Nat) (w:World) (hca:n<=ca) (hcb:m<=cb) (hn:n<=1099511627776) (hm:m<=1099511627776)
  (hwf:Wd w a n f) (hwh:Wd w b m h) (Hf:Wf f n) (Hh:Wf h m) (Cf:Can f n) (Ch:Can h m) (hlt:nv f n<nv h m) :
  Calls Tryz.prog 212 #[.slice a n ca,.slice b m cb] w fun e w'=>∃ vq vr,e=.returned (.tuple #[vq,vr])/\Nt w' vq (nv f n/nv h m)/\Nt w' vr (nv f n%nv h m)/\Below w.heap.size w w':=by
 have aA:=Qh hlt;have hc:QaW (nv f n:Int) (nv h m:Int) = -1:=Qbb (by omega);clear hlt;go_enter Tryz.func212,Tryz.ntmps212
 go_wp2_with fail;refine(Qbw a b n m ca cb f h w (by omega) (by omega) hwf hwh Hf Hh Cf Ch).mono ?_;rintro e w' ⟨rfl,k,rfl⟩;go_wp2_with fail;go_ret2
 refine⟨_,_,rfl,?_,?_,Below.drewN (Below.refl _ _) k⟩
 ·rw[Nat.div_eq_of_lt aA.out];exact⟨none,0,0,f,rfl,Nat.le_refl _,Wd.nil _ _ _,fun i hi=>absurd hi (Nat.not_lt_zero i),.inl rfl,rfl⟩
 ·rw[Nat.mod_eq_of_lt aA.out];exact⟨a,n,ca,f,rfl,hca,hwf,Hf,Cf,rfl⟩
theorem QgD (a b:Option Addr) (n ca cb:Nat) (f h:Nat->Nat) (w:World) (hca:n<=ca) (hcb:1<=cb) (hn:n<=1099511627776)
  (hwf:Wd w a n f) (hwh:Wd w b 1 h) (Hf:Wf f n) (Hh:Wf h 1) (Cf:Can f n) (Ch:Can h 1) (hge:nv h 1<=nv f n) :
  Calls Tryz.prog 212 #[.slice a n ca,.slice b 1 cb] w fun e w'=>∃ vq vr,e=.returned (.tuple #[vq,vr])/\Nt w' vq (nv f n/nv h 1)/\Nt w' vr (nv f n%nv h 1)/\Below w.heap.size w w':=by
 have e1:nv h 1=h 0:=by simp[nv]
 have h0:0<h 0:=by rcases Ch with c|c <;> simp at c;omega
 have h1:=Hh 0 (by omega)
 have hc:(decide (QaW (nv f n:Int) (nv h 1:Int)<0))=false:=by
  have:¬ (nv f n:Int)<(nv h 1:Int):=by omega
  unfold QaW;rw[if_neg this];split <;> simp
 have E1:=Qh e1;have aH:=Qh hge;clear e1 hge;obtain⟨bb,ob,rfl,aG,aB⟩:=hwh.at (i:=0) (by omega);have aA:=aB 0 (by omega);rw[Nat.add_zero] at aA;clear aB;go_enter Tryz.func212,Tryz.ntmps212
 go_wp2_with fail;refine(Qbw a _ n 1 ca cb f h w (by omega) (by omega) hwf hwh Hf Hh Cf Ch).mono ?_;rintro e w' ⟨rfl,k,rfl⟩;go_wp2_with fail;refine(Qfe a n ca (h 0) f _ hca (by omega) h0 h1 (by exact hwf) Hf).mono ?_;rintro e w1 ⟨vq,rfl,hq,aD⟩;go_wp2_with fail;have aE:nv f n%h 0<h 0:=Nat.mod_lt _ h0;have aC:(nv f n:Int)%(h 0:Int)=((nv f n%h 0:Nat):Int):=(Int.natCast_emod _ _).symm
 have hO:Own (w1.alloc (.cells #[.int .u32 ((nv f n:Int)%(h 0:Int))] 139)) w1.heap.size 139 1 (wv (fun _=>nv f n%h 0)):=by
  rw[aC];refine Own.lit _ _ _ _ _ rfl (fun i hi=>?_);obtain rfl:i=0:=by omega
  rfl
 clear aC;refine(Qb5 _ _ _ (fun _=>nv f n%h 0) _ (Nat.le_refl _) (by omega) hO.wd (fun _ _=>Nat.lt_trans aE h1)).mono ?_;rintro e w' ⟨v,rfl,hv,rfl⟩;go_wp2_with fail;go_ret2
 have aF:Below w.heap.size w (w1.alloc (.cells #[.int .u32 ((nv f n:Int)%(h 0:Int))] 139)):=
  ((Below.drewN (Below.refl _ _) k).trans aD).alloc aD.size _
 refine⟨vq,v,rfl,?_,?_,aF⟩
 ·rw[E1.out];exact hq.up ((Below.refl _ _).alloc (Nat.le_refl _) _)
 ·rw[E1.out];simpa [nv] using hv
theorem QjJ {x s:Nat} (hs:s<32) (h:x*2 ^ s<4294967296):(x+1)*2 ^ s<=4294967296:=by
 have e:4294967296=2 ^ (32-s)*2 ^ s:=by rw[<- Nat.pow_add,show 32-s+s=32 by omega]
 rw[e] at h |-;exact Nat.mul_le_mul_right _ (Nat.lt_of_mul_lt_mul_right h)
theorem QhF (f:Nat->Nat) (n m j:Nat):(if j<Nat.min n m*1 then wv f j else wv (fun _=>0) j)=wv (pad f (Nat.min n m)) j:=by
 unfold wv pad;rw[Nat.mul_one];split <;> rfl
theorem Qfo (a b:Option Addr) (n m ca cb:Nat) (f h:Nat->Nat) (w:World) (hca:n<=ca) (hcb:m<=cb) (hn:n<=1099511627776) (hm:m<=1099511627776) (hm2:2<=m)
  (hwf:Wd w a n f) (hwh:Wd w b m h) (Hf:Wf f n) (Hh:Wf h m) (Cf:Can f n) (Ch:Can h m) (hge:nv h m<=nv f n) :
  Calls Tryz.prog 212 #[.slice a n ca,.slice b m cb] w fun e w'=>∃ vq vr,e=.returned (.tuple #[vq,vr])/\Nt w' vq (nv f n/nv h m)/\Nt w' vr (nv f n%nv h m)/\Below w.heap.size w w':=by
 have f9:m<=n:=by
  rcases Nat.lt_or_ge n m with c|c
  ·have:=QbC Hf Hh Ch c;omega
  ·exact c
 have h0:0<h (m-1):=by rcases Ch with c|c <;> omega
 have h1:=Hh (m-1) (by omega)
 have hc:(decide (QaW (nv f n:Int) (nv h m:Int)<0))=false:=by
  have:¬ (nv f n:Int)<(nv h m:Int):=by omega
  unfold QaW;rw[if_neg this];split <;> simp
 have gX:((m:Int) == 1)=false:=by rw[beq_eq_false_iff_ne];omega
 have hD:=Qh hge;clear hge;obtain⟨bb,ob,rfl,hA,a8⟩:=hwh.at (i:=m-1) (by omega);have a7:=a8 (m-1) (by omega);clear a8;go_enter Tryz.func212,Tryz.ntmps212
 go_wp2_with fail;refine(Qbw a _ n m ca cb f h w (by omega) (by omega) hwf hwh Hf Hh Cf Ch).mono ?_;rintro e w' ⟨rfl,k,rfl⟩;go_wp2_with fail;refine(QkJ _ (h (m-1)) _ rfl h0 h1).mono ?_;rintro e w' ⟨s,rfl,hs,f1,fZ,rfl⟩;go_wp2_with fail;refine(Qcz _ m cb s h _ hcb (by omega) (by omega) (by exact hwh) Hh).mono ?_;rintro e w1 ⟨vv,rfl,hv,gI⟩;obtain⟨av,nV,cv,v,rfl,g6,fT,Hv,Cv,aA⟩:=hv;have bG:=Qh aA
 have f8:nV=m:=by
  have h2:nv v nV<4294967296 ^ m:=by
   rw[aA];have hl:=Qbk (Hh.mono (m:=m-1) (by omega));have gB:m=m-1+1:=by omega
   rw[gB,nv,Nat.pow_succ]
   have e1:(h (m-1)+1)*4294967296 ^ (m-1)<=4294967296 ^ (m-1)*4294967296/2 ^ s:=by
    rw[Nat.le_div_iff_mul_le (Nat.pow_pos (by decide))];have:(h (m-1)+1)*2 ^ s<=4294967296:=QjJ hs fZ
    calc (h (m-1)+1)*4294967296 ^ (m-1)*2 ^ s=4294967296 ^ (m-1)*((h (m-1)+1)*2 ^ s):=by simp only[Nat.mul_assoc,Nat.mul_comm,Nat.mul_left_comm]
     _<=4294967296 ^ (m-1)*4294967296:=Nat.mul_le_mul_left _ this
   have e2:(nv h (m-1)+h (m-1)*4294967296 ^ (m-1))+1<=(h (m-1)+1)*4294967296 ^ (m-1):=by rw[Nat.add_mul,Nat.one_mul];omega
   have e3:=Qt e2 e1;rw[Nat.le_div_iff_mul_le (Nat.pow_pos (by decide)),Nat.add_mul,Nat.one_mul] at e3;have:0<2 ^ s:=Nat.pow_pos (by decide);omega
  have h3:4294967296 ^ (m-1)<=nv v nV:=by
   rw[aA];have:=QbS (f:=h) (n:=m) (i:=m-1) (by omega);have h4:1*4294967296 ^ (m-1)<=h (m-1)*4294967296 ^ (m-1):=Nat.mul_le_mul_right _ h0;have h5:nv h m*1<=nv h m*2 ^ s:=Nat.mul_le_mul_left _ (Nat.pow_pos (by decide));omega
  have h4:=QaV Hv Cv;have h5:=Qf h2;have h6:¬ Qq (nv v nV)<=m-1:=by rw[QcD];omega
  omega
 have bD:2147483648*4294967296 ^ (m-1)<=nv v nV:=by
  rw[aA];have:=QbS (f:=h) (n:=m) (i:=m-1) (by omega)
  calc 2147483648*4294967296 ^ (m-1)<=h (m-1)*2 ^ s*4294967296 ^ (m-1):=Nat.mul_le_mul_right _ f1
   _=h (m-1)*4294967296 ^ (m-1)*2 ^ s:=by simp only[Nat.mul_assoc,Nat.mul_comm,Nat.mul_left_comm]
   _<=nv h m*2 ^ s:=Nat.mul_le_mul_right _ this
 clear aA;obtain rfl:=f8;have aK:Below w.heap.size w w1:=(Below.drewN (Below.refl _ _) k).trans gI;have gA:=Qcl ((n:Int)+1) (n+1) (by omega) (by omega);go_wp2_with fail;have bN:Wd (w1.alloc (.cells (madeCells #[.int .u32 0] (n+1)) 139)) a n f:=hwf.up (aK.alloc aK.size _);refine(Qcz _ n ca s f _ hca (by omega) (by omega) bN Hf).mono ?_;rintro e w2 ⟨va,rfl,fY,cP⟩;obtain⟨aa,nA,cA,fa,rfl,g7,fV,Ha,Ca,aD⟩:=fY;have aQ:=Qh aD
 have bV:nA<=n+1:=by
  rw[<- QaV Ha Ca];apply Qf
  rw[aD,Nat.pow_succ];have:=Qbk Hf;have bE:2 ^ s<=2 ^ 32:=Nat.pow_le_pow_right (by decide) (by omega)
  calc nv f n*2 ^ s<=nv f n*2 ^ 32:=Nat.mul_le_mul_left _ bE
   _<4294967296 ^ n*4294967296:=Nat.mul_lt_mul_of_pos_right this (by decide)
 clear aD;have aI:Own w2 w1.heap.size 139 (n+1) (wv (fun _=>0)):=(Own.zeros w1 _ _).up cP
 obtain⟨w3,cL,aB,_,bP,bB⟩:=QbH (P:=Tryz.prog) w2 176 176 3 139 1 w1.heap.size (n+1) (n+1) aa nA cA 139 (n+1) _ (wv fa) Tryz.underlying176 Qib aI
  (by rw[Nat.mul_one];exact Nat.min_le_right _ _) (by rw[Nat.mul_one];exact Cl.mono fV (Nat.min_le_left _ _)) (fun _ _=>rfl)
 replace aB:=aB.congr (fun j _=>QhF fa nA (n+1) j);have cO:Below w1.heap.size w1 w3:=bB _ _ (((Below.refl _ _).alloc (Nat.le_refl _) _).trans (cP.mono (by simp))) (Nat.le_refl _);clear bB bP;have bW:=Qcl ((n:Int)+1-nV) (n+1-nV) (by omega) (by omega);have bX:Nat.min nA (n+1)=nA:=Nat.min_eq_left bV;rw[bX] at aB cL
 have cQ:0<nv v nV:=by
  have:1*4294967296 ^ (nV-1)<=2147483648*4294967296 ^ (nV-1):=Nat.mul_le_mul_right _ (by decide);have:=QdE (nV-1);omega
 have aO:nv (sh (pad fa nA) (n+1-nV)) nV<nv v nV:=by
  have t1:=QbA (pad fa nA) (n+1-nV) nV;rw[show n+1-nV+nV=n+1 by omega,QbL _ _ _ bV,aQ.out] at t1;have t2:nv f n*2 ^ s<4294967296 ^ n*2 ^ s:=Nat.mul_lt_mul_of_pos_right (Qbk Hf) (Nat.pow_pos (by decide));have t3:4294967296 ^ n=4294967296 ^ (n+1-nV)*4294967296 ^ (nV-1):=by rw[<- Nat.pow_add,show n+1-nV+(nV-1)=n by omega]
  have t4:4294967296 ^ (n+1-nV)*nv (sh (pad fa nA) (n+1-nV)) nV<4294967296 ^ (n+1-nV)*(4294967296 ^ (nV-1)*2 ^ s):=by rw[<- Nat.mul_assoc,<- t3];omega
  have t5:=Nat.lt_of_mul_lt_mul_left t4;have t6:2 ^ s<=2147483648:=Nat.pow_le_pow_right (n:=2) (by decide) (show s<=31 by omega);have t7:4294967296 ^ (nV-1)*2 ^ s<=4294967296 ^ (nV-1)*2147483648:=Nat.mul_le_mul_left _ t6;rw[Nat.mul_comm _ 2147483648] at t7;omega
 have cR:nv f n*2 ^ s=nv (pad fa nA) (n+1):=by
  rw[QbL _ _ _ bV,aQ.out]
 have f6:Own (w3.alloc (.cells (madeCells #[.int .u32 0] (n+1-nV)) 139)) w3.heap.size 139 (n+1-nV) (wv fun _=>0):=Own.zeros w3 _ _;have g3:w1.heap.size<w3.heap.size:=aB.lt;have bM:=Qh cQ;have b0:=Qh bD;have hC:=Qh f9;have gM:=Qh aO;have gN:=Qh cR;have bC:=aK.size;obtain⟨bv,ov,rfl,a9,a6⟩:=fT.at (i:=nV-1) (by omega);have bF:=Qh a6;clear cQ bD aO cR a7 gA hc a6;go_wp2_with fail;clear cL bW
 go_loopw [13] (fun j wr=>∃ (k:Nat) (u q:Nat->Nat),k<=n+1-nV/\j=.int .i64 ((k:Int)-1)/\Own wr w1.heap.size 139 (n+1) (wv u)/\Own wr w3.heap.size 139 (n+1-nV) (wv q)/\Wf u (n+1)/\Wf q (n+1-nV) /\
   nv (sh u k) nV<nv v nV/\(∀ i,k+nV<=i->i<n+1->u i=0)/\nv f n*2 ^ s=hv q k (n+1-nV)*nv v nV*4294967296 ^ k+nv u (n+1)/\Below w1.heap.size w1 wr)
  (fun j _=>(intOf j+1).toNat)
 case atStart=>
  refine⟨n+1-nV,pad fa nA,fun _=>0,Nat.le_refl _,?_,aB.alloc _,f6,?_,fun _ _=>Nat.zero_lt_succ _,gM.out,fun i h1 h2=>by omega,?_,cO.alloc cO.size _⟩
  ·rfl
  ·exact Qbr Ha _
  ·rw[Qfd,Nat.zero_mul,Nat.zero_mul,Nat.zero_add];exact gN.out
 case round=>
  obtain⟨k,u,q,hk,rfl,aI,bL,aH,bI,aY,aX,aA,aU⟩:=hrel;have aL:=Qh aY;have aW:=Qh aX;have aG:=Qh aA;clear aY aX aA;rcases k with _|k
  ·have gY:Own wr w3.heap.size 139 (n+1-nV) (wv q):=bL;have t1:=(QcK (some ⟨w3.heap.size,0,none⟩) (n+1-nV) (n+1-nV) q wr.drew (Nat.le_refl _) (by omega) (Own.wd (Own.block bL rfl)) bI).mono (R':=fun e w'=>e=.returned (.slice (some ⟨w3.heap.size,0,none⟩) (tr q (n+1-nV)) (n+1-nV))/\w'=wr.drew) (fun e w' h=>⟨h.1,h.2.symm⟩);have t2:=(QcK (some ⟨w1.heap.size,0,none⟩) nV (n+1) u wr.drew (by omega) (by omega) ((Own.wd (Own.block aI rfl)).mono (by omega)) (aH.mono (by omega))).mono (R':=fun e w'=>e=.returned (.slice (some ⟨w1.heap.size,0,none⟩) (tr u nV) (n+1))/\w'=wr.drew) (fun e w' h=>⟨h.1,h.2.symm⟩);have p0:(0:Int)<=(nV:Int):=by omega
   have p1:(nV:Int)<=(n:Int)+1:=by omega
   go_wp2_with fail;refine wp_region_still_tail 7 (by kernel_rfl) (by kernel_rfl) ?_;simp only[List.take_succ_cons,List.take_zero,List.drop_succ_cons,List.drop_zero];still_step
   still_call t1
   still_step
   still_step
   still_step
   still_call t2
   still_step
   refine wpStill_nil ?_;go_wp2_with fail;have gZ:=Qhj u nV;refine(Qge (some ⟨w1.heap.size,0,none⟩) (tr u nV) (n+1) s u wr.drew (by omega) (by omega) hs ((Own.wd (Own.block aI rfl)).mono (by omega)) (aH.mono (by omega))).mono ?_;rintro e w8 ⟨vr,rfl,fX,cM⟩;go_wp2_with fail;go_ret2
   have gF:Below w.heap.size w w8:=(aK.trans (aU.mono bC)).drew.trans (cM.mono (Qt bC (Qt aU.size (Nat.le_refl _))));have f4:Own w8 w3.heap.size 139 (n+1-nV) (wv q):=(Own.block bL rfl:Own wr.drew w3.heap.size 139 (n+1-nV) (wv q)).up cM;have e1:=aG.out;have e2:=aL.out;rw[Qff,Nat.pow_zero,Nat.mul_one] at e1
   have e3:nv u (n+1)=nv u nV:=by
    have:=QbA u nV (n+1-nV);rw[show nV+(n+1-nV)=n+1 by omega,QbR (f:=sh u nV) (fun i hi=>aW.out (nV+i) (by omega) (by omega)),Nat.mul_zero,Nat.add_zero] at this;exact this
   have e4:nv (sh u 0) nV=nv u nV:=Qbg (fun i _=>by rw[QbO,Nat.zero_add]);rw[e4,bG.out] at e2;rw[e3,bG.out] at e1;have bE:0<2 ^ s:=Nat.pow_pos (by decide)
   have gK:0<nv h nV:=by
    rcases Nat.eq_zero_or_pos (nv h nV) with c|c
    ·rw[c,Nat.zero_mul] at e2;omega
    ·exact c
   have q1:nv q (n+1-nV)=nv f n/nv h nV:=by
    rw[<- Nat.mul_div_mul_right _ _ bE,e1,Nat.mul_comm (nv q (n+1-nV)),Nat.mul_add_div (Nat.mul_pos gK bE),Nat.div_eq_of_lt e2];rfl
   have q2:nv u nV/2 ^ s=nv f n%nv h nV:=by
    have:nv u nV=nv f n*2 ^ s%(nv h nV*2 ^ s):=by
     rw[e1,Nat.mul_comm (nv q (n+1-nV)),Nat.mul_add_mod,Nat.mod_eq_of_lt e2]
    rw[this,Nat.mul_mod_mul_right,Nat.mul_div_cancel _ bE]
   refine⟨_,vr,rfl,?_,?_,gF⟩
   ·rw[<- q1];exact QcM (Nat.le_refl _) f4.wd bI
   ·rw[<- q2,<- Qe5 u nV];exact fX
  ·rw[show ((k+1:Nat):Int)-1=(k:Int) by omega];have cC:=aI.cell (i:=k+nV) (by omega);have b9:=aI.cell (i:=k+nV-1) (by omega);have b8:=aI.cell (i:=k+nV-2) (by omega);have fR:wr.cell? ⟨bv,ov+(nV-1),none⟩=some (.int .u32 (v (nV-1):Int)):=(aU.cell (p:=⟨bv,ov+(nV-1),none⟩) a9).trans (bF.out _ (by omega));have fQ:wr.cell? ⟨bv,ov+(nV-2),none⟩=some (.int .u32 (v (nV-2):Int)):=(aU.cell (p:=⟨bv,ov+(nV-2),none⟩) a9).trans (bF.out _ (by omega));have p0:(0:Int)<=(k:Int)+nV:=by omega
   have p1:(k:Int)+nV<(n:Int)+1:=by omega
   have p2:(0:Int)<=(k:Int)+nV-1:=by omega
   have p3:(k:Int)+nV-1<(n:Int)+1:=by omega
   have p4:(0:Int)<=(nV:Int)-1:=by omega
   have p5:(nV:Int)-1<(nV:Int):=by omega
   have fP:=aH (k+nV) (by omega);have fO:=aH (k+nV-1) (by omega);have fN:=aH (k+nV-2) (by omega);have b6:=Hv (nV-1) (by omega);have fM:=Hv (nV-2) (by omega);have fW:=QhR v nV hm2 Hv b0.out;obtain⟨F,hF⟩:∃ F:Nat,F=u (k+nV)*4294967296+u (k+nV-1):=⟨_,rfl⟩;have aV:=QiF u v k nV hm2 (aH k (by omega)) Hv aL.out;rw[<- hF] at aV
   have f7:bits BinOp.or IntKind.u64 ((u (k+nV):Int)*4294967296) (u (k+nV-1):Int)=(F:Int):=by
    rw[Qeb _ _ (by omega) (by omega) (by omega) (by omega),hF];omega
   have bZ:F<18446744073709551616:=by omega
   have aP:=Qgg F (v (nV-1)) _ _ u v k nV hm2 hF rfl rfl rfl (by omega) (Qg0 aH (by omega));have HF:=Qh hF;have bH:=Qh aP;have b5:=Qh aV;clear hF aP aV;unfold wv at cC b9 b8;go_wp2_with fail;go_quiet (fail)
   have p6:(1:Int)<=(v (nV-1):Int):=by omega
   have p7:(0:Int)<=(F:Int)/(v (nV-1):Int):=Int.ediv_nonneg (by omega) (by omega);have p8:(F:Int)/(v (nV-1):Int)<=(F:Int):=Int.ediv_le_self _ (by omega);go_upto_region 16 with fail;go_quiet (fail)
   go_upto_block 2 with fail
   obtain⟨g0,a5⟩:∃ g0:Nat,g0=F/v (nV-1):=⟨_,rfl⟩;obtain⟨r0,bK⟩:∃ r0:Nat,r0=F%v (nV-1):=⟨_,rfl⟩;have q1:(F:Int)/(v (nV-1):Int)=(g0:Int):=by rw[a5];exact(Int.natCast_ediv _ _).symm
   have q2:(F:Int)%(v (nV-1):Int)=(r0:Int):=by rw[bK];exact(Int.natCast_emod _ _).symm
   rw[q1,q2];have a3:g0*v (nV-1)+r0=F:=by rw[a5,bK,Nat.mul_comm];exact Nat.div_add_mod _ _
   have gJ:nv (sh u k) (nV+1)/nv v nV<4294967296:=by
    apply Nat.div_lt_of_lt_mul
    rw[QdC];have:=aL.out;have:=aH k (by omega);have h9:(nv (sh u (k+1)) nV+1)*4294967296<=nv v nV*4294967296:=Nat.mul_le_mul_right _ aL.out;omega
   refine Qhf (u:=u) (v:=v) (X:=nv (sh u k) (nV+1)) (V:=nv v nV) hm2 (by omega) (by omega) (Own.block aI rfl) (fun i hi=>(aU.cell (p:=⟨bv,ov+i,none⟩) a9).trans (bF.out i hi)) aH Hv rfl rfl HF.out b5.out fW a3
    (by rw[a5];exact Nat.lt_of_le_of_lt (Nat.div_le_self _ _) bZ) (by rw[bK];exact Nat.lt_trans (Nat.mod_lt _ (by omega)) b6) (by rw[a5];exact bH.out) gJ ?_
   intro gT fL fK fJ fI fH fG fF fE fD fC fB fA e9 e8 e7 e6 e5 eZ eY eX eW eV eU eT eS eR eQ eO eM eL eK eJ eH eG eF eE gn gU cK a4 a2;clear q1 q2 a3 a5 bK p6 p7 p8 f7 cC b9 b8 fR fQ fP fO fN b6 fM;have b2:=Qh a2;have b4:=Qh a4;clear a2 a4;go_upto_block 4 with fail
   refine Qki (u:=u) (v:=v) (gn:=gn) hm2 (by omega) (by omega) (by omega) (Own.block aI rfl) (fun i hi=>(aU.cell (p:=⟨bv,ov+i,none⟩) a9).trans (bF.out i hi)) aH Hv cK ?_;intro gS gR gQ eD eC eB eA d9 d8 d7 d6 d5 d4 d3 d2 d1 d0 dZ dY dX dW dV dU dS dR dQ dP dO dN dM dL dK dJ dI dH w5 cn bn o gD g9 aF bJ cI cJ cF a0;have bA:Below w1.heap.size w1 w5:=a0.2.1 _ _ (Below.drewN aU _) (Nat.le_refl _);have aJ:Own w5 w3.heap.size 139 (n+1-nV) (wv q):=a0.own (Own.block bL rfl) (by omega);have cS:=Qh cI;have b3:=Qh cJ;have gL:=Qh cF;clear cI cJ cF;have b7:=aF.cell (i:=k+nV) (by omega);have g5:=aF.free (k+nV);have fU:=bJ (k+nV) (by omega);unfold wv at b7;have bQ:sh u k nV=u (k+nV):=rfl;go_wp2_with fail;refine(Qct _ _ _ _ (by omega) (by omega) (by omega) (by omega) (by omega) (by omega)).mono ?_;rintro e w6 ⟨r,bq,rfl,hr,g8,bR,rfl⟩;have hB:=Qh bR;have cH:=b3.out (k+nV) (Nat.le_refl _);have aE:=Qec (sh o k) (sh u k) v gn nV cn bn r bq (nv v nV) gD rfl (by rw[QbO,<- cH];exact bR) gL.out;rw[<- QfZ] at aE;have b1:=Qh aE;have cG:=aJ.cell (i:=k) (by omega);have gW:=aJ.free k;have f3:=aF.free k;have aC:w3.heap.size≠w1.heap.size:=by omega
   unfold wv at cG;clear bR cH aE bQ;rcases Nat.eq_zero_or_pos bq with hb0|hb0
   ·-- the guess is the digit
    subst hb0;obtain⟨g1,g2⟩:=QeU (nv (sh u k) (nV+1)) (nv v nV) gn (nv (sh (upd o (k+nV) r) k) (nV+1)) bM.out (by have:=b1.out;rw[Nat.zero_mul,Nat.add_zero] at this;exact this) b4.out
    obtain⟨e1,e2,e3⟩:=Qez (nv f n*2 ^ s) (nv v nV) q u (upd o (k+nV) r) k nV (n+1) (n+1-nV) gn (by omega) (by omega) (fun j hj=>by rw[QaU _ _ _ _ (by omega)];exact cS.out j hj)
     (fun j hj=>by rw[QaU _ _ _ _ (by omega)];exact b3.out j (by omega)) (fun i h1 h2=>aW.out i (by omega) h2) (Qbk Hv) bM.out g2 g1 aG.out
    have G1:=Qh e1;have G2:=Qh e2;have G3:=Qh e3;clear e1 e2 e3 g1 g2;go_wp2_with fail;go_roundw
    case rel=>
     exact⟨k,upd o (k+nV) r,upd q k gn,by omega,rfl,(aF.setw (by omega) r).other (by exact aC) _,(aJ.other (by exact aC.symm) _).setw (by omega) gn,bJ.upd _ _ hr,bI.upd _ _ cK,G1.out,G2.out,G3.out,(bA.setCell (Nat.le_refl _) _).setCell (by show _<=w3.heap.size;omega) _⟩
    case measure=>simp[intOf]
   ·-- it is one too great
    obtain rfl:bq=1:=by omega
    have gC:1<=gn:=by
     rcases Nat.eq_zero_or_pos gn with c|c
     ·subst c;have:=b1.out;have h8:=Qbk (Qg0 (k:=k) (n:=nV+1) (bJ.upd (k+nV) r hr) (by omega));rw[Nat.zero_mul,Nat.one_mul] at this;omega
     ·exact c
    have e0:(gn:Int)-1=((gn-1:Nat):Int):=by omega
    have E0:=Qh e0;clear e0;have bU:Own (w5.setCell ⟨w1.heap.size,k+nV,none⟩ (.int .u32 (r:Int))) w1.heap.size 139 (n+1) (wv (upd o (k+nV) r)):=aF.setw (by omega) r;have cN:Below w1.heap.size w1 (w5.setCell ⟨w1.heap.size,k+nV,none⟩ (.int .u32 (r:Int))):=bA.setCell (Nat.le_refl _) _;have f5:Own (w5.setCell ⟨w1.heap.size,k+nV,none⟩ (.int .u32 (r:Int))) w3.heap.size 139 (n+1-nV) (wv q):=aJ.other (by exact aC.symm) _;have bO:=bJ.upd (k+nV) r hr;go_upto_block 6 with fail
    refine Qjb (u:=upd o (k+nV) r) (v:=v) hm2 (by omega) (by omega) (by omega) bU (fun i hi=>(cN.cell (p:=⟨bv,ov+i,none⟩) a9).trans (bF.out i hi)) bO Hv ?_;intro gP gO dG dF dE dD dC dB dA c9 c8 c7 c6 c5 c4 c3 c1 c0 cZ cY cX cW cV cU cT w7 c2 o2 gE aS aR a1 aT cE aZ;have gH:Below w1.heap.size w1 w7:=aZ.2.1 _ _ cN (Nat.le_refl _);have bT:Own w7 w3.heap.size 139 (n+1-nV) (wv q):=aZ.own f5 aC;have fS:=aS.cell (i:=k+nV) (by omega);have g4:=aS.free (k+nV);have gV:=aR (k+nV) (by omega);have bS:=bT.cell (i:=k) (by omega);have f2:=bT.free k;have aM:o2 (k+nV)=sh (upd o (k+nV) r) k nV:=by rw[aT _ (Nat.le_refl _),QbO]
    obtain⟨kk,bY⟩:=QdS (sh o2 k) (sh (upd o (k+nV) r) k) nV c2 (nv v nV) gE (by rw[QbO];exact bO _ (by omega)) cE;rw[<- aM,<- QfZ] at bY;have hM:nv v nV<=4294967296 ^ (nV+1):=Qt (Nat.le_of_lt (Qbk Hv)) (Nat.pow_le_pow_right (by decide) (Nat.le_succ _));have cD:(o2 (k+nV)+c2)%4294967296<4294967296:=Nat.mod_lt _ (by decide)
    obtain⟨g1,g2⟩:=Qgb (nv (sh u k) (nV+1)) (nv v nV) gn (nv (sh (upd o (k+nV) r) k) (nV+1)) (nv (sh (upd o2 (k+nV) ((o2 (k+nV)+c2)%4294967296)) k) (nV+1)) (4294967296 ^ (nV+1)) kk bM.out hM
     (Qbk (Qg0 bO (by omega))) (Qbk (Qg0 (aR.upd _ _ cD) (by omega))) (by have:=b1.out;rw[Nat.one_mul] at this;exact this) b2.out bY
    obtain⟨e1,e2,e3⟩:=Qez (nv f n*2 ^ s) (nv v nV) q u (upd o2 (k+nV) ((o2 (k+nV)+c2)%4294967296)) k nV (n+1) (n+1-nV) (gn-1) (by omega) (by omega)
     (fun j hj=>by rw[QaU _ _ _ _ (by omega),a1 j hj,QaU _ _ _ _ (by omega)];exact cS.out j hj)
     (fun j hj=>by rw[QaU _ _ _ _ (by omega),aT j (by omega),QaU _ _ _ _ (by omega)];exact b3.out j (by omega)) (fun i h1 h2=>aW.out i (by omega) h2) (Qbk Hv) bM.out g2 (by omega) aG.out
    have G1:=Qh e1;have G2:=Qh e2;have G3:=Qh e3;have e4:((o2 (k+nV):Int)+(c2:Int))%4294967296=(((o2 (k+nV)+c2)%4294967296:Nat):Int):=by omega
    have E4:=Qh e4;unfold wv at fS bS;clear e1 e2 e3 e4 g1 g2 bY aM a1 aT cE b7 cG;go_wp2_with fail;go_roundw
    case rel=>
     rw[E4.out];refine⟨k,upd o2 (k+nV) ((o2 (k+nV)+c2)%4294967296),upd q k (gn-1),by omega,rfl,(aS.setw (by omega) _).other (by exact aC) _,?_,aR.upd _ _ cD,bI.upd _ _ (by omega),G1.out,G2.out,G3.out,(gH.setCell (Nat.le_refl _) _).setCell (by show _<=w3.heap.size;omega) _⟩;rw[E0.out];exact(bT.other (by exact aC.symm) _).setw (by omega) (gn-1)
    case measure=>simp[intOf]
theorem Qgm (va vb:Value) (x y:Nat) (w:World) (hx:Nt w va x) (hy:Nt w vb y) (h0:0<y) (hsx:Qq x<=1099511627776) (hsy:Qq y<=1099511627776) :
  Calls Tryz.prog 212 #[va,vb] w fun e w'=>∃ vq vr,e=.returned (.tuple #[vq,vr])/\Nt w' vq (x/y)/\Nt w' vr (x%y)/\Below w.heap.size w w':=by
 obtain⟨a,n,ca,f,rfl,aD,aB,Hf,Cf,rfl⟩:=hx;obtain⟨b,m,cb,h,rfl,aC,aA,Hh,Ch,rfl⟩:=hy;rw[QaV Hf Cf] at hsx;rw[QaV Hh Ch] at hsy;rcases Nat.lt_or_ge (nv f n) (nv h m) with c|c
 ·exact Qfk a b n m ca cb f h w aD aC hsx hsy aB aA Hf Hh Cf Ch c
 ·rcases Nat.lt_trichotomy m 1 with d|d|d
  ·obtain rfl:m=0:=by omega
   simp[nv] at h0
  ·subst d;exact QgD a b n ca cb f h w aD aC hsx aB aA Hf Hh Cf Ch c
  ·exact Qfo a b n m ca cb f h w aD aC hsx hsy (by omega) aB aA Hf Hh Cf Ch c
