/-
  nat.div: the long division.
-/
import Derived.Deep.CutBlock
import Derived.StillTailTactics
import Derived.Deep.DeepCutAuto
import Derived.Test.YteidokhjmbihlaaGreatFA
import Derived.Test.YteidokhjmbihlaaGreatFB
set_option linter.all false
set_option maxRecDepth 100000
set_option maxHeartbeats 4000000
namespace Go.Proofs.YteidokhjmbihlaaGreat
open Go.RowKit
theorem Qd4 (a b:Option Addr) (n m ca cb:Nat) (f h:Nat->Nat) (w:World) (hca:n<=ca) (hcb:m<=cb) (hn:n<=1099511627776) (hm:m<=1099511627776)
  (hwf:Wd w a n f) (hwh:Wd w b m h) (Hf:Wf f n) (Hh:Wf h m) (Cf:Can f n) (Ch:Can h m) (hlt:nv f n<nv h m) :
  Calls Tryz.prog 212 #[.slice a n ca,.slice b m cb] w fun e w'=>∃ vq vr,e=.returned (.tuple #[vq,vr])/\Nt w' vq (nv f n/nv h m)/\Nt w' vr (nv f n%nv h m)/\Below w.heap.size w w':=by
 have HLT:=Qh hlt;have hc:Qg (nv f n:Int) (nv h m:Int) = -1:=QH (by omega);clear hlt;go_enter Tryz.func212,Tryz.ntmps212
 go_wp2_with fail;refine(Yh a b n m ca cb f h w (by omega) (by omega) hwf hwh Hf Hh Cf Ch).mono ?_;rintro e w' ⟨rfl,k,rfl⟩;go_wp2_with fail;go_ret2
 refine⟨_,_,rfl,?_,?_,Below.drewN (Below.refl _ _) k⟩
 ·rw[Nat.div_eq_of_lt HLT.out];exact⟨none,0,0,f,rfl,Nat.le_refl _,Wd.nil _ _ _,fun i hi=>absurd hi (Nat.not_lt_zero i),.inl rfl,rfl⟩
 ·rw[Nat.mod_eq_of_lt HLT.out];exact⟨a,n,ca,f,rfl,hca,hwf,Hf,Cf,rfl⟩
theorem Qfz (a b:Option Addr) (n ca cb:Nat) (f h:Nat->Nat) (w:World) (hca:n<=ca) (hcb:1<=cb) (hn:n<=1099511627776)
  (hwf:Wd w a n f) (hwh:Wd w b 1 h) (Hf:Wf f n) (Hh:Wf h 1) (Cf:Can f n) (Ch:Can h 1) (hge:nv h 1<=nv f n) :
  Calls Tryz.prog 212 #[.slice a n ca,.slice b 1 cb] w fun e w'=>∃ vq vr,e=.returned (.tuple #[vq,vr])/\Nt w' vq (nv f n/nv h 1)/\Nt w' vr (nv f n%nv h 1)/\Below w.heap.size w w':=by
 have e1:nv h 1=h 0:=by simp[nv]
 have h0:0<h 0:=by rcases Ch with c|c <;> simp at c;omega
 have h1:=Hh 0 (by omega)
 have hc:(decide (Qg (nv f n:Int) (nv h 1:Int)<0))=false:=by
  have:¬ (nv f n:Int)<(nv h 1:Int):=by omega
  unfold Qg;rw[if_neg this];split <;> simp
 have E1:=Qh e1;have HGE:=Qh hge;clear e1 hge;obtain⟨bb,ob,rfl,hbb,hcb'⟩:=hwh.at (i:=0) (by omega);have hcell:=hcb' 0 (by omega);rw[Nat.add_zero] at hcell;clear hcb';go_enter Tryz.func212,Tryz.ntmps212
 go_wp2_with fail;refine(Yh a _ n 1 ca cb f h w (by omega) (by omega) hwf hwh Hf Hh Cf Ch).mono ?_;rintro e w' ⟨rfl,k,rfl⟩;go_wp2_with fail;refine(Qdg a n ca (h 0) f _ hca (by omega) h0 h1 (by exact hwf) Hf).mono ?_;rintro e w1 ⟨vq,rfl,hq,hb1⟩;go_wp2_with fail;have hlt:nv f n%h 0<h 0:=Nat.mod_lt _ h0;have hem:(nv f n:Int)%(h 0:Int)=((nv f n%h 0:Nat):Int):=(Int.natCast_emod _ _).symm
 have hO:Own (w1.alloc (.cells #[.int .u32 ((nv f n:Int)%(h 0:Int))] 139)) w1.heap.size 139 1 (wv (fun _=>nv f n%h 0)):=by
  rw[hem];refine Own.lit _ _ _ _ _ rfl (fun i hi=>?_);obtain rfl:i=0:=by omega
  rfl
 clear hem;refine(Y7 _ _ _ (fun _=>nv f n%h 0) _ (Nat.le_refl _) (by omega) hO.wd (fun _ _=>Nat.lt_trans hlt h1)).mono ?_;rintro e w' ⟨v,rfl,hv,rfl⟩;go_wp2_with fail;go_ret2
 have hb2:Below w.heap.size w (w1.alloc (.cells #[.int .u32 ((nv f n:Int)%(h 0:Int))] 139)):=
  ((Below.drewN (Below.refl _ _) k).trans hb1).alloc hb1.size _
 refine⟨vq,v,rfl,?_,?_,hb2⟩
 ·rw[E1.out];exact hq.up ((Below.refl _ _).alloc (Nat.le_refl _) _)
 ·rw[E1.out];simpa [nv] using hv
theorem QjQ {x s:Nat} (hs:s<32) (h:x*2 ^ s<4294967296):(x+1)*2 ^ s<=4294967296:=by
 have e:4294967296=2 ^ (32-s)*2 ^ s:=by rw[<- Nat.pow_add,show 32-s+s=32 by omega]
 rw[e] at h |-;exact Nat.mul_le_mul_right _ (Nat.lt_of_mul_lt_mul_right h)
theorem Qg8 (f:Nat->Nat) (n m j:Nat):(if j<Nat.min n m*1 then wv f j else wv (fun _=>0) j)=wv (pad f (Nat.min n m)) j:=by
 unfold wv pad;rw[Nat.mul_one];split <;> rfl
theorem QdT (a b:Option Addr) (n m ca cb:Nat) (f h:Nat->Nat) (w:World) (hca:n<=ca) (hcb:m<=cb) (hn:n<=1099511627776) (hm:m<=1099511627776) (hm2:2<=m)
  (hwf:Wd w a n f) (hwh:Wd w b m h) (Hf:Wf f n) (Hh:Wf h m) (Cf:Can f n) (Ch:Can h m) (hge:nv h m<=nv f n) :
  Calls Tryz.prog 212 #[.slice a n ca,.slice b m cb] w fun e w'=>∃ vq vr,e=.returned (.tuple #[vq,vr])/\Nt w' vq (nv f n/nv h m)/\Nt w' vr (nv f n%nv h m)/\Below w.heap.size w w':=by
 have hmn:m<=n:=by
  rcases Nat.lt_or_ge n m with c|c
  ·have:=Yn Hf Hh Ch c;omega
  ·exact c
 have h0:0<h (m-1):=by rcases Ch with c|c <;> omega
 have h1:=Hh (m-1) (by omega)
 have hc:(decide (Qg (nv f n:Int) (nv h m:Int)<0))=false:=by
  have:¬ (nv f n:Int)<(nv h m:Int):=by omega
  unfold Qg;rw[if_neg this];split <;> simp
 have hne:((m:Int) == 1)=false:=by rw[beq_eq_false_iff_ne];omega
 have HGE:=Qh hge;clear hge;obtain⟨bb,ob,rfl,hbb,hcb'⟩:=hwh.at (i:=m-1) (by omega);have hcell:=hcb' (m-1) (by omega);clear hcb';go_enter Tryz.func212,Tryz.ntmps212
 go_wp2_with fail;refine(Yh a _ n m ca cb f h w (by omega) (by omega) hwf hwh Hf Hh Cf Ch).mono ?_;rintro e w' ⟨rfl,k,rfl⟩;go_wp2_with fail;refine(QkN _ (h (m-1)) _ rfl h0 h1).mono ?_;rintro e w' ⟨s,rfl,hs,hs1,hs2,rfl⟩;go_wp2_with fail;refine(J3 _ m cb s h _ hcb (by omega) (by omega) (by exact hwh) Hh).mono ?_;rintro e w1 ⟨vv,rfl,hv,hb1⟩;obtain⟨av,nV,cv,v,rfl,hcv,hwv,Hv,Cv,hval⟩:=hv;have HVAL:=Qh hval
 have hnV:nV=m:=by
  have h2:nv v nV<4294967296 ^ m:=by
   rw[hval];have hl:=Q3 (Hh.mono (m:=m-1) (by omega));have hm1:m=m-1+1:=by omega
   rw[hm1,nv,Nat.pow_succ]
   have e1:(h (m-1)+1)*4294967296 ^ (m-1)<=4294967296 ^ (m-1)*4294967296/2 ^ s:=by
    rw[Nat.le_div_iff_mul_le (Nat.pow_pos (by decide))];have:(h (m-1)+1)*2 ^ s<=4294967296:=QjQ hs hs2
    calc (h (m-1)+1)*4294967296 ^ (m-1)*2 ^ s=4294967296 ^ (m-1)*((h (m-1)+1)*2 ^ s):=by simp only[Nat.mul_assoc,Nat.mul_comm,Nat.mul_left_comm]
     _<=4294967296 ^ (m-1)*4294967296:=Nat.mul_le_mul_left _ this
   have e2:(nv h (m-1)+h (m-1)*4294967296 ^ (m-1))+1<=(h (m-1)+1)*4294967296 ^ (m-1):=by rw[Nat.add_mul,Nat.one_mul];omega
   have e3:=Qt e2 e1;rw[Nat.le_div_iff_mul_le (Nat.pow_pos (by decide)),Nat.add_mul,Nat.one_mul] at e3;have:0<2 ^ s:=Nat.pow_pos (by decide);omega
  have h3:4294967296 ^ (m-1)<=nv v nV:=by
   rw[hval];have:=YW (f:=h) (n:=m) (i:=m-1) (by omega);have h4:1*4294967296 ^ (m-1)<=h (m-1)*4294967296 ^ (m-1):=Nat.mul_le_mul_right _ h0;have h5:nv h m*1<=nv h m*2 ^ s:=Nat.mul_le_mul_left _ (Nat.pow_pos (by decide));omega
  have h4:=Qj Hv Cv;have h5:=Qf h2;have h6:¬ QJ (nv v nV)<=m-1:=by rw[Qah];omega
  omega
 have hV31:2147483648*4294967296 ^ (m-1)<=nv v nV:=by
  rw[hval];have:=YW (f:=h) (n:=m) (i:=m-1) (by omega)
  calc 2147483648*4294967296 ^ (m-1)<=h (m-1)*2 ^ s*4294967296 ^ (m-1):=Nat.mul_le_mul_right _ hs1
   _=h (m-1)*4294967296 ^ (m-1)*2 ^ s:=by simp only[Nat.mul_assoc,Nat.mul_comm,Nat.mul_left_comm]
   _<=nv h m*2 ^ s:=Nat.mul_le_mul_right _ this
 clear hval;obtain rfl:=hnV;have hb1':Below w.heap.size w w1:=(Below.drewN (Below.refl _ _) k).trans hb1;have hmk:=JM ((n:Int)+1) (n+1) (by omega) (by omega);go_wp2_with fail;have hwfu:Wd (w1.alloc (.cells (madeCells #[.int .u32 0] (n+1)) 139)) a n f:=hwf.up (hb1'.alloc hb1'.size _);refine(J3 _ n ca s f _ hca (by omega) (by omega) hwfu Hf).mono ?_;rintro e w2 ⟨va,rfl,hva,hb2⟩;obtain⟨aa,nA,cA,fa,rfl,hcA,hwa,Ha,Ca,hvala⟩:=hva;have HVALA:=Qh hvala
 have hnA:nA<=n+1:=by
  rw[<- Qj Ha Ca];apply Qf
  rw[hvala,Nat.pow_succ];have:=Q3 Hf;have h2s:2 ^ s<=2 ^ 32:=Nat.pow_le_pow_right (by decide) (by omega)
  calc nv f n*2 ^ s<=nv f n*2 ^ 32:=Nat.mul_le_mul_left _ h2s
   _<4294967296 ^ n*4294967296:=Nat.mul_lt_mul_of_pos_right this (by decide)
 clear hvala;have hou:Own w2 w1.heap.size 139 (n+1) (wv (fun _=>0)):=(Own.zeros w1 _ _).up hb2
 obtain⟨w3,hcp,hown3,_,hsz3,hbl3⟩:=Yu (P:=Tryz.prog) w2 176 176 3 139 1 w1.heap.size (n+1) (n+1) aa nA cA 139 (n+1) _ (wv fa) Tryz.underlying176 QhW hou
  (by rw[Nat.mul_one];exact Nat.min_le_right _ _) (by rw[Nat.mul_one];exact Cl.mono hwa (Nat.min_le_left _ _)) (fun _ _=>rfl)
 replace hown3:=hown3.congr (fun j _=>Qg8 fa nA (n+1) j);have hb3:Below w1.heap.size w1 w3:=hbl3 _ _ (((Below.refl _ _).alloc (Nat.le_refl _) _).trans (hb2.mono (by simp))) (Nat.le_refl _);clear hbl3 hsz3;have hmk2:=JM ((n:Int)+1-nV) (n+1-nV) (by omega) (by omega);have hmin:Nat.min nA (n+1)=nA:=Nat.min_eq_left hnA;rw[hmin] at hown3 hcp
 have hV0:0<nv v nV:=by
  have:1*4294967296 ^ (nV-1)<=2147483648*4294967296 ^ (nV-1):=Nat.mul_le_mul_right _ (by decide);have:=Qby (nV-1);omega
 have htop0:nv (sh (pad fa nA) (n+1-nV)) nV<nv v nV:=by
  have t1:=Yj (pad fa nA) (n+1-nV) nV;rw[show n+1-nV+nV=n+1 by omega,YE _ _ _ hnA,HVALA.out] at t1;have t2:nv f n*2 ^ s<4294967296 ^ n*2 ^ s:=Nat.mul_lt_mul_of_pos_right (Q3 Hf) (Nat.pow_pos (by decide));have t3:4294967296 ^ n=4294967296 ^ (n+1-nV)*4294967296 ^ (nV-1):=by rw[<- Nat.pow_add,show n+1-nV+(nV-1)=n by omega]
  have t4:4294967296 ^ (n+1-nV)*nv (sh (pad fa nA) (n+1-nV)) nV<4294967296 ^ (n+1-nV)*(4294967296 ^ (nV-1)*2 ^ s):=by rw[<- Nat.mul_assoc,<- t3];omega
  have t5:=Nat.lt_of_mul_lt_mul_left t4;have t6:2 ^ s<=2147483648:=Nat.pow_le_pow_right (n:=2) (by decide) (show s<=31 by omega);have t7:4294967296 ^ (nV-1)*2 ^ s<=4294967296 ^ (nV-1)*2147483648:=Nat.mul_le_mul_left _ t6;rw[Nat.mul_comm _ 2147483648] at t7;omega
 have hA0:nv f n*2 ^ s=nv (pad fa nA) (n+1):=by
  rw[YE _ _ _ hnA,HVALA.out]
 have hq0:Own (w3.alloc (.cells (madeCells #[.int .u32 0] (n+1-nV)) 139)) w3.heap.size 139 (n+1-nV) (wv fun _=>0):=Own.zeros w3 _ _;have hgl:w1.heap.size<w3.heap.size:=hown3.lt;have HV0:=Qh hV0;have HV31:=Qh hV31;have HMN:=Qh hmn;have HT0:=Qh htop0;have HA0:=Qh hA0;have hb1s:=hb1'.size;obtain⟨bv,ov,rfl,hbv,hcv'⟩:=hwv.at (i:=nV-1) (by omega);have HVC:=Qh hcv';clear hV0 hV31 htop0 hA0 hcell hmk hc hcv';go_wp2_with fail;clear hcp hmk2
 go_loopw [13] (fun j wr=>∃ (k:Nat) (u q:Nat->Nat),k<=n+1-nV/\j=.int .i64 ((k:Int)-1)/\Own wr w1.heap.size 139 (n+1) (wv u)/\Own wr w3.heap.size 139 (n+1-nV) (wv q)/\Wf u (n+1)/\Wf q (n+1-nV) /\
   nv (sh u k) nV<nv v nV/\(∀ i,k+nV<=i->i<n+1->u i=0)/\nv f n*2 ^ s=hv q k (n+1-nV)*nv v nV*4294967296 ^ k+nv u (n+1)/\Below w1.heap.size w1 wr)
  (fun j _=>(intOf j+1).toNat)
 case atStart=>
  refine⟨n+1-nV,pad fa nA,fun _=>0,Nat.le_refl _,?_,hown3.alloc _,hq0,?_,fun _ _=>Nat.zero_lt_succ _,HT0.out,fun i h1 h2=>by omega,?_,hb3.alloc hb3.size _⟩
  ·rfl
  ·exact Q8 Ha _
  ·rw[QdV,Nat.zero_mul,Nat.zero_mul,Nat.zero_add];exact HA0.out
 case round=>
  obtain⟨k,u,q,hk,rfl,hou,hoq,hwu,hwq,htop,hzer,hval,hbl⟩:=hrel;have HTOP:=Qh htop;have HZER:=Qh hzer;have HVAL2:=Qh hval;clear htop hzer hval;rcases k with _|k
  ·have hlq:Own wr w3.heap.size 139 (n+1-nV) (wv q):=hoq;have t1:=(Qal (some ⟨w3.heap.size,0,none⟩) (n+1-nV) (n+1-nV) q wr.drew (Nat.le_refl _) (by omega) (Own.wd (Own.block hoq rfl)) hwq).mono (R':=fun e w'=>e=.returned (.slice (some ⟨w3.heap.size,0,none⟩) (tr q (n+1-nV)) (n+1-nV))/\w'=wr.drew) (fun e w' h=>⟨h.1,h.2.symm⟩);have t2:=(Qal (some ⟨w1.heap.size,0,none⟩) nV (n+1) u wr.drew (by omega) (by omega) ((Own.wd (Own.block hou rfl)).mono (by omega)) (hwu.mono (by omega))).mono (R':=fun e w'=>e=.returned (.slice (some ⟨w1.heap.size,0,none⟩) (tr u nV) (n+1))/\w'=wr.drew) (fun e w' h=>⟨h.1,h.2.symm⟩);have p0:(0:Int)<=(nV:Int):=by omega
   have p1:(nV:Int)<=(n:Int)+1:=by omega
   go_wp2_with fail;refine wp_region_still_tail 7 (by kernel_rfl) (by kernel_rfl) ?_;simp only[List.take_succ_cons,List.take_zero,List.drop_succ_cons,List.drop_zero];still_step
   still_call t1
   still_step
   still_step
   still_step
   still_call t2
   still_step
   refine wpStill_nil ?_;go_wp2_with fail;have hle:=QgM u nV;refine(Qe8 (some ⟨w1.heap.size,0,none⟩) (tr u nV) (n+1) s u wr.drew (by omega) (by omega) hs ((Own.wd (Own.block hou rfl)).mono (by omega)) (hwu.mono (by omega))).mono ?_;rintro e w8 ⟨vr,rfl,hvr,hb8⟩;go_wp2_with fail;go_ret2
   have hbw:Below w.heap.size w w8:=(hb1'.trans (hbl.mono hb1s)).drew.trans (hb8.mono (Qt hb1s (Qt hbl.size (Nat.le_refl _))));have hq8:Own w8 w3.heap.size 139 (n+1-nV) (wv q):=(Own.block hoq rfl:Own wr.drew w3.heap.size 139 (n+1-nV) (wv q)).up hb8;have e1:=HVAL2.out;have e2:=HTOP.out;rw[QdU,Nat.pow_zero,Nat.mul_one] at e1
   have e3:nv u (n+1)=nv u nV:=by
    have:=Yj u nV (n+1-nV);rw[show nV+(n+1-nV)=n+1 by omega,YS (f:=sh u nV) (fun i hi=>HZER.out (nV+i) (by omega) (by omega)),Nat.mul_zero,Nat.add_zero] at this;exact this
   have e4:nv (sh u 0) nV=nv u nV:=QV (fun i _=>by rw[YJ,Nat.zero_add]);rw[e4,HVAL.out] at e2;rw[e3,HVAL.out] at e1;have h2s:0<2 ^ s:=Nat.pow_pos (by decide)
   have hB0:0<nv h nV:=by
    rcases Nat.eq_zero_or_pos (nv h nV) with c|c
    ·rw[c,Nat.zero_mul] at e2;omega
    ·exact c
   have q1:nv q (n+1-nV)=nv f n/nv h nV:=by
    rw[<- Nat.mul_div_mul_right _ _ h2s,e1,Nat.mul_comm (nv q (n+1-nV)),Nat.mul_add_div (Nat.mul_pos hB0 h2s),Nat.div_eq_of_lt e2];rfl
   have q2:nv u nV/2 ^ s=nv f n%nv h nV:=by
    have:nv u nV=nv f n*2 ^ s%(nv h nV*2 ^ s):=by
     rw[e1,Nat.mul_comm (nv q (n+1-nV)),Nat.mul_add_mod,Nat.mod_eq_of_lt e2]
    rw[this,Nat.mul_mod_mul_right,Nat.mul_div_cancel _ h2s]
   refine⟨_,vr,rfl,?_,?_,hbw⟩
   ·rw[<- q1];exact Qan (Nat.le_refl _) hq8.wd hwq
   ·rw[<- q2,<- Qdk u nV];exact hvr
  ·rw[show ((k+1:Nat):Int)-1=(k:Int) by omega];have hx0:=hou.cell (i:=k+nV) (by omega);have hx1:=hou.cell (i:=k+nV-1) (by omega);have hx2:=hou.cell (i:=k+nV-2) (by omega);have hy1:wr.cell? ⟨bv,ov+(nV-1),none⟩=some (.int .u32 (v (nV-1):Int)):=(hbl.cell (p:=⟨bv,ov+(nV-1),none⟩) hbv).trans (HVC.out _ (by omega));have hy2:wr.cell? ⟨bv,ov+(nV-2),none⟩=some (.int .u32 (v (nV-2):Int)):=(hbl.cell (p:=⟨bv,ov+(nV-2),none⟩) hbv).trans (HVC.out _ (by omega));have p0:(0:Int)<=(k:Int)+nV:=by omega
   have p1:(k:Int)+nV<(n:Int)+1:=by omega
   have p2:(0:Int)<=(k:Int)+nV-1:=by omega
   have p3:(k:Int)+nV-1<(n:Int)+1:=by omega
   have p4:(0:Int)<=(nV:Int)-1:=by omega
   have p5:(nV:Int)-1<(nV:Int):=by omega
   have wu0:=hwu (k+nV) (by omega);have wu1:=hwu (k+nV-1) (by omega);have wu2:=hwu (k+nV-2) (by omega);have wv1:=Hv (nV-1) (by omega);have wv2:=Hv (nV-2) (by omega);have hvt:=Qga v nV hm2 Hv HV31.out;obtain⟨F,hF⟩:∃ F:Nat,F=u (k+nV)*4294967296+u (k+nV-1):=⟨_,rfl⟩;have hFlt:=QiN u v k nV hm2 (hwu k (by omega)) Hv HTOP.out;rw[<- hF] at hFlt
   have hor:bits BinOp.or IntKind.u64 ((u (k+nV):Int)*4294967296) (u (k+nV-1):Int)=(F:Int):=by
    rw[QaT _ _ (by omega) (by omega) (by omega) (by omega),hF];omega
   have hF64:F<18446744073709551616:=by omega
   have hinit:=Qfj F (v (nV-1)) _ _ u v k nV hm2 hF rfl rfl rfl (by omega) (QgU hwu (by omega));have HF:=Qh hF;have HINIT:=Qh hinit;have HFLT:=Qh hFlt;clear hF hinit hFlt;unfold wv at hx0 hx1 hx2;go_wp2_with fail;go_quiet (fail)
   have p6:(1:Int)<=(v (nV-1):Int):=by omega
   have p7:(0:Int)<=(F:Int)/(v (nV-1):Int):=Int.ediv_nonneg (by omega) (by omega);have p8:(F:Int)/(v (nV-1):Int)<=(F:Int):=Int.ediv_le_self _ (by omega);go_upto_region 16 with fail;go_quiet (fail)
   go_upto_block 2 with fail
   obtain⟨g0,hg0⟩:∃ g0:Nat,g0=F/v (nV-1):=⟨_,rfl⟩;obtain⟨r0,hr0⟩:∃ r0:Nat,r0=F%v (nV-1):=⟨_,rfl⟩;have q1:(F:Int)/(v (nV-1):Int)=(g0:Int):=by rw[hg0];exact(Int.natCast_ediv _ _).symm
   have q2:(F:Int)%(v (nV-1):Int)=(r0:Int):=by rw[hr0];exact(Int.natCast_emod _ _).symm
   rw[q1,q2];have hgr0:g0*v (nV-1)+r0=F:=by rw[hg0,hr0,Nat.mul_comm];exact Nat.div_add_mod _ _
   have hXW:nv (sh u k) (nV+1)/nv v nV<4294967296:=by
    apply Nat.div_lt_of_lt_mul
    rw[Qbj];have:=HTOP.out;have:=hwu k (by omega);have h9:(nv (sh u (k+1)) nV+1)*4294967296<=nv v nV*4294967296:=Nat.mul_le_mul_right _ HTOP.out;omega
   refine QfY (u:=u) (v:=v) (X:=nv (sh u k) (nV+1)) (V:=nv v nV) hm2 (by omega) (by omega) (Own.block hou rfl) (fun i hi=>(hbl.cell (p:=⟨bv,ov+i,none⟩) hbv).trans (HVC.out i hi)) hwu Hv rfl rfl HF.out HFLT.out hvt hgr0
    (by rw[hg0];exact Nat.lt_of_le_of_lt (Nat.div_le_self _ _) hF64) (by rw[hr0];exact Nat.lt_trans (Nat.mod_lt _ (by omega)) wv1) (by rw[hg0];exact HINIT.out) hXW ?_
   intro y16 y111 y112 y113 y114 y115 y116 y117 y118 y119 y120 y121 y122 y123 y124 y125 y126 y127 y128 y129 y130 y131 y132 y133 y134 y135 y136 y137 y138 y139 y140 y141 y142 y143 y144 y145 y146 gn nq3 hgn hge2 hle2;clear q1 q2 hgr0 hg0 hr0 p6 p7 p8 hor hx0 hx1 hx2 hy1 hy2 wu0 wu1 wu2 wv1 wv2;have HLE2:=Qh hle2;have HGE2:=Qh hge2;clear hle2 hge2;go_upto_block 4 with fail
   refine Qj5 (u:=u) (v:=v) (gn:=gn) hm2 (by omega) (by omega) (by omega) (Own.block hou rfl) (fun i hi=>(hbl.cell (p:=⟨bv,ov+i,none⟩) hbv).trans (HVC.out i hi)) hwu Hv hgn ?_;intro y19 y20 y21 y149 y150 y151 y152 y153 y154 y155 y156 y157 y158 y159 y160 y161 y162 y163 y164 y165 y166 y167 y168 y169 y170 y171 y172 y173 y174 y175 y176 y177 y178 y179 y180 w5 cn bn o hcn hbn hou5 hwo hlo hhi hv5 hon5;have hbl5:Below w1.heap.size w1 w5:=hon5.2.1 _ _ (Below.drewN hbl _) (Nat.le_refl _);have hoq5:Own w5 w3.heap.size 139 (n+1-nV) (wv q):=hon5.own (Own.block hoq rfl) (by omega);have HLO:=Qh hlo;have HHI:=Qh hhi;have HV5:=Qh hv5;clear hlo hhi hv5;have hx5:=hou5.cell (i:=k+nV) (by omega);have hf5:=hou5.free (k+nV);have hwo5:=hwo (k+nV) (by omega);unfold wv at hx5;have hshk:sh u k nV=u (k+nV):=rfl;go_wp2_with fail;refine(JL _ _ _ _ (by omega) (by omega) (by omega) (by omega) (by omega) (by omega)).mono ?_;rintro e w6 ⟨r,bq,rfl,hr,hbq,hrq,rfl⟩;have HRQ:=Qh hrq;have hoe:=HHI.out (k+nV) (Nat.le_refl _);have htopS:=QbT (sh o k) (sh u k) v gn nV cn bn r bq (nv v nV) hcn rfl (by rw[YJ,<- hoe];exact hrq) HV5.out;rw[<- Qec] at htopS;have HTS:=Qh htopS;have hqk:=hoq5.cell (i:=k) (by omega);have hqf:=hoq5.free k;have hqf2:=hou5.free k;have hne2:w3.heap.size≠w1.heap.size:=by omega
   unfold wv at hqk;clear hrq hoe htopS hshk;rcases Nat.eq_zero_or_pos bq with hb0|hb0
   ·-- the guess is the digit
    subst hb0;obtain⟨g1,g2⟩:=Qd1 (nv (sh u k) (nV+1)) (nv v nV) gn (nv (sh (upd o (k+nV) r) k) (nV+1)) HV0.out (by have:=HTS.out;rw[Nat.zero_mul,Nat.add_zero] at this;exact this) HGE2.out
    obtain⟨e1,e2,e3⟩:=QcM (nv f n*2 ^ s) (nv v nV) q u (upd o (k+nV) r) k nV (n+1) (n+1-nV) gn (by omega) (by omega) (fun j hj=>by rw[Qi _ _ _ _ (by omega)];exact HLO.out j hj)
     (fun j hj=>by rw[Qi _ _ _ _ (by omega)];exact HHI.out j (by omega)) (fun i h1 h2=>HZER.out i (by omega) h2) (Q3 Hv) HV0.out g2 g1 HVAL2.out
    have G1:=Qh e1;have G2:=Qh e2;have G3:=Qh e3;clear e1 e2 e3 g1 g2;go_wp2_with fail;go_roundw
    case rel=>
     exact⟨k,upd o (k+nV) r,upd q k gn,by omega,rfl,(hou5.setw (by omega) r).other (by exact hne2) _,(hoq5.other (by exact hne2.symm) _).setw (by omega) gn,hwo.upd _ _ hr,hwq.upd _ _ hgn,G1.out,G2.out,G3.out,(hbl5.setCell (Nat.le_refl _) _).setCell (by show _<=w3.heap.size;omega) _⟩
    case measure=>simp[intOf]
   ·-- it is one too great
    obtain rfl:bq=1:=by omega
    have hgn1:1<=gn:=by
     rcases Nat.eq_zero_or_pos gn with c|c
     ·subst c;have:=HTS.out;have h8:=Q3 (QgU (k:=k) (n:=nV+1) (hwo.upd (k+nV) r hr) (by omega));rw[Nat.zero_mul,Nat.one_mul] at this;omega
     ·exact c
    have e0:(gn:Int)-1=((gn-1:Nat):Int):=by omega
    have E0:=Qh e0;clear e0;have hou6:Own (w5.setCell ⟨w1.heap.size,k+nV,none⟩ (.int .u32 (r:Int))) w1.heap.size 139 (n+1) (wv (upd o (k+nV) r)):=hou5.setw (by omega) r;have hb6:Below w1.heap.size w1 (w5.setCell ⟨w1.heap.size,k+nV,none⟩ (.int .u32 (r:Int))):=hbl5.setCell (Nat.le_refl _) _;have hq6:Own (w5.setCell ⟨w1.heap.size,k+nV,none⟩ (.int .u32 (r:Int))) w3.heap.size 139 (n+1-nV) (wv q):=hoq5.other (by exact hne2.symm) _;have hw6:=hwo.upd (k+nV) r hr;go_upto_block 6 with fail
    refine Qip (u:=upd o (k+nV) r) (v:=v) hm2 (by omega) (by omega) (by omega) hou6 (fun i hi=>(hb6.cell (p:=⟨bv,ov+i,none⟩) hbv).trans (HVC.out i hi)) hw6 Hv ?_;intro y23 y24 y205 y206 y207 y208 y209 y210 y211 y212 y213 y214 y215 y216 y217 y218 y219 y220 y221 y222 y223 y224 y225 y226 y227 w7 c2 o2 hc2 hou7 hwo7 hlo7 hhi7 hv7 hon7;have hb7:Below w1.heap.size w1 w7:=hon7.2.1 _ _ hb6 (Nat.le_refl _);have hq7:Own w7 w3.heap.size 139 (n+1-nV) (wv q):=hon7.own hq6 hne2;have hx7:=hou7.cell (i:=k+nV) (by omega);have hf7:=hou7.free (k+nV);have hw7:=hwo7 (k+nV) (by omega);have hqk7:=hq7.cell (i:=k) (by omega);have hqf7:=hq7.free k;have htop7:o2 (k+nV)=sh (upd o (k+nV) r) k nV:=by rw[hhi7 _ (Nat.le_refl _),YJ]
    obtain⟨kk,hkk⟩:=Qcg (sh o2 k) (sh (upd o (k+nV) r) k) nV c2 (nv v nV) hc2 (by rw[YJ];exact hw6 _ (by omega)) hv7;rw[<- htop7,<- Qec] at hkk;have hM:nv v nV<=4294967296 ^ (nV+1):=Qt (Nat.le_of_lt (Q3 Hv)) (Nat.pow_le_pow_right (by decide) (Nat.le_succ _));have hwt:(o2 (k+nV)+c2)%4294967296<4294967296:=Nat.mod_lt _ (by decide)
    obtain⟨g1,g2⟩:=Qfi (nv (sh u k) (nV+1)) (nv v nV) gn (nv (sh (upd o (k+nV) r) k) (nV+1)) (nv (sh (upd o2 (k+nV) ((o2 (k+nV)+c2)%4294967296)) k) (nV+1)) (4294967296 ^ (nV+1)) kk HV0.out hM
     (Q3 (QgU hw6 (by omega))) (Q3 (QgU (hwo7.upd _ _ hwt) (by omega))) (by have:=HTS.out;rw[Nat.one_mul] at this;exact this) HLE2.out hkk
    obtain⟨e1,e2,e3⟩:=QcM (nv f n*2 ^ s) (nv v nV) q u (upd o2 (k+nV) ((o2 (k+nV)+c2)%4294967296)) k nV (n+1) (n+1-nV) (gn-1) (by omega) (by omega)
     (fun j hj=>by rw[Qi _ _ _ _ (by omega),hlo7 j hj,Qi _ _ _ _ (by omega)];exact HLO.out j hj)
     (fun j hj=>by rw[Qi _ _ _ _ (by omega),hhi7 j (by omega),Qi _ _ _ _ (by omega)];exact HHI.out j (by omega)) (fun i h1 h2=>HZER.out i (by omega) h2) (Q3 Hv) HV0.out g2 (by omega) HVAL2.out
    have G1:=Qh e1;have G2:=Qh e2;have G3:=Qh e3;have e4:((o2 (k+nV):Int)+(c2:Int))%4294967296=(((o2 (k+nV)+c2)%4294967296:Nat):Int):=by omega
    have E4:=Qh e4;unfold wv at hx7 hqk7;clear e1 e2 e3 e4 g1 g2 hkk htop7 hlo7 hhi7 hv7 hx5 hqk;go_wp2_with fail;go_roundw
    case rel=>
     rw[E4.out];refine⟨k,upd o2 (k+nV) ((o2 (k+nV)+c2)%4294967296),upd q k (gn-1),by omega,rfl,(hou7.setw (by omega) _).other (by exact hne2) _,?_,hwo7.upd _ _ hwt,hwq.upd _ _ (by omega),G1.out,G2.out,G3.out,(hb7.setCell (Nat.le_refl _) _).setCell (by show _<=w3.heap.size;omega) _⟩;rw[E0.out];exact(hq7.other (by exact hne2.symm) _).setw (by omega) (gn-1)
    case measure=>simp[intOf]
theorem QeT (va vb:Value) (x y:Nat) (w:World) (hx:Nt w va x) (hy:Nt w vb y) (h0:0<y) (hsx:QJ x<=1099511627776) (hsy:QJ y<=1099511627776) :
  Calls Tryz.prog 212 #[va,vb] w fun e w'=>∃ vq vr,e=.returned (.tuple #[vq,vr])/\Nt w' vq (x/y)/\Nt w' vr (x%y)/\Below w.heap.size w w':=by
 obtain⟨a,n,ca,f,rfl,hca,hwf,Hf,Cf,rfl⟩:=hx;obtain⟨b,m,cb,h,rfl,hcb,hwh,Hh,Ch,rfl⟩:=hy;rw[Qj Hf Cf] at hsx;rw[Qj Hh Ch] at hsy;rcases Nat.lt_or_ge (nv f n) (nv h m) with c|c
 ·exact Qd4 a b n m ca cb f h w hca hcb hsx hsy hwf hwh Hf Hh Cf Ch c
 ·rcases Nat.lt_trichotomy m 1 with d|d|d
  ·obtain rfl:m=0:=by omega
   simp[nv] at h0
  ·subst d;exact Qfz a b n ca cb f h w hca hcb hsx hwf hwh Hf Hh Cf Ch c
  ·exact QdT a b n m ca cb f h w hca hcb hsx hsy (by omega) hwf hwh Hf Hh Cf Ch c
