/-
  descent: soluble.
-/
import Derived.Maps.OwnSet
import Derived.Test.YteidokhjmbihlaaGreatDD
import Derived.Test.YteidokhjmbihlaaGreatFSB
import Derived.Test.YteidokhjmbihlaaGreatFI1
set_option linter.all false
set_option maxRecDepth 100000
set_option maxHeartbeats 4000000
namespace Go.Proofs.YteidokhjmbihlaaGreat
open Go.RowKit
attribute [local go_sem ↓] Go.wp_at_zero Go.wp_at_succ
def pw4 (p k:Nat):Nat:=if p ^ k<=4096 then p ^ k else 0
theorem Qdp (p k:Nat) (w:World) (hp:2<=p) (hp2:p<9223372036854775808) (hk:k<=20) :
  Calls Tryz.prog 71 #[.int .i64 p,.int .i64 k] w fun e w'=>e=.returned (.tuple #[.int .i64 ((pw4 p k:Nat):Int),.bool (decide (p ^ k<=4096))])/\w'=w:=by
 have i1:((p:Int) == 0)=false:=by rw[beq_eq_false_iff_ne];omega
 have i2:¬ (p:Int)=0:=by omega
 have i3:(4096:Int).tdiv (p:Int)=((4096/p:Nat):Int):=by rw[Int.tdiv_eq_ediv_of_nonneg (by omega)];rfl
 have hq:4096/p<=4096:=Nat.div_le_self _ _;have aA:∀ v:Nat,v<=4096/p↔v*p<=4096:=fun v=>Nat.le_div_iff_mul_le (by omega);obtain⟨d,hd⟩:∃ d,4096/p=d:=⟨_,rfl⟩;rw[hd] at i3 hq aA;have HQ:=Qh aA;clear aA hd;go_enter Tryz.func71,Tryz.ntmps71
 go_wp2_with fail
 go_loopw [6,8] (fun s6 s8 wr=>∃ (i v:Nat),i<=k/\v=p ^ i/\v<=4096/\s6=.int .i64 (v:Int)/\s8=.int .i64 (i:Int)/\wr=w)
  (fun _ s8 _=>k-(intOf s8).toNat)
 case atStart=>exact⟨0,1,by omega,rfl,by decide,rfl,rfl,rfl⟩
 case round=>
  obtain⟨i,v,hi,hv,aC,rfl,rfl,rfl⟩:=hrel;by_cases hlt:i<k
  ·by_cases hle:v<=d
   ·have hm:=(HQ.out v).1 hle;have e1:(v:Int)*(p:Int)=((v*p:Nat):Int):=(Int.natCast_mul v p).symm;have e2:v*p=p ^ (i+1):=by rw[hv,Nat.pow_succ]
    obtain⟨u,hu⟩:∃ u,v*p=u:=⟨_,rfl⟩;rw[hu] at hm e1 e2;have HE:=Qh e2;have HV:=Qh hv;have aB:(v:Int)<=(d:Int):=by omega
    clear hv e2 hu;go_wp2_with fail;go_roundw
    case rel=>exact⟨i+1,u,by omega,HE.out,hm,rfl,by go_num,by first|rfl|trivial⟩
    case measure=>simp[intOf];omega
   ·have aF:4096<p ^ k:=by
     have h1:¬ v*p<=4096:=fun h=>hle ((HQ.out v).2 h);rw[hv,<- Nat.pow_succ] at h1;exact Nat.lt_of_lt_of_le (show 4096<p ^ i.succ by omega) (Nat.pow_le_pow_right (by omega) (show i+1<=k by omega))
    have HP:=Qh (show (pw4 p k=0/\decide (p ^ k<=4096)=false) from ⟨if_neg (by omega),decide_eq_false (by omega)⟩);have aB:¬ (v:Int)<=(d:Int):=by omega
    have aE:(d:Int)<(v:Int):=by omega
    clear hv aF;go_wp2_with fail;go_ret2
    exact⟨by rw[HP.out.1,HP.out.2];rfl,rfl⟩
  ·have aD:i=k:=by omega
   subst aD;have HP:=Qh (show (pw4 p i=v/\decide (p ^ i<=4096)=true) from ⟨by unfold pw4;rw[<- hv,if_pos aC],decide_eq_true (by omega)⟩);clear hv;go_wp2_with fail;go_ret2
   exact⟨by rw[HP.out.1,HP.out.2];rfl,rfl⟩
def QaP (n:Nat):Bool:=decide (2<=n) && (List.range n).all fun d=>decide (d<2) || decide (n%d≠0)
theorem QdM {n:Nat}:QaP n=true↔Pri n:=by
 unfold QaP Pri;rw[Bool.and_eq_true,decide_eq_true_iff,List.all_eq_true];refine and_congr_right fun _=>⟨fun h d h2 hd hdv=>?_,fun h d hd=>?_⟩
 ·have:=h d (List.mem_range.2 hd);rw[Bool.or_eq_true,decide_eq_true_iff,decide_eq_true_iff] at this;rcases this with h1|h1
  ·omega
  ·exact h1 (Nat.mod_eq_zero_of_dvd hdv)
 ·rw[Bool.or_eq_true,decide_eq_true_iff,decide_eq_true_iff];by_cases e:d<2
  ·exact .inl e
  ·exact .inr fun h0=>h d (by omega) (List.mem_range.1 hd) (Nat.dvd_of_mod_eq_zero h0)
theorem QdO {n d:Nat} (hn:2<=n) (h:∀ x,2<=x->x<d->¬ x∣n) (hd:n<d*d):Pri n:=
 Yo (b:=d-1) hn (fun x h1 h2=>h x h1 (by omega)) (by
  have hd0:d≠0:=fun e=>by subst e;omega
  rw[show d-1+1=d by omega];exact hd)
theorem Qeq (n:Nat) (w:World) (hn:n<=1000000) :
  Calls Tryz.prog 72 #[.int .i64 n] w fun e w'=>e=.returned (.bool (QaP n))/\w'=w:=by
 go_enter Tryz.func72,Tryz.ntmps72
 go_wp2_with fail
 go_loopw [3] (fun s3 wr=>∃ (d:Nat),2<=d/\d<=1001/\Hid (∀ x,2<=x->x<d->¬ x∣n)/\s3=.int .i64 (d:Int)/\wr=w)
  (fun s3 _=>2000-(intOf s3).toNat)
 case atStart=>exact⟨2,by omega,by omega,Qh fun x h1 h2=>by omega,rfl,rfl⟩
 case round=>
  obtain⟨d,aI,aH,HD,rfl,rfl⟩:=hrel;have e1:(d:Int)*(d:Int)=((d*d:Nat):Int):=(Int.natCast_mul d d).symm;have aK:d*d<=1001*1001:=Nat.mul_le_mul aH aH;have i1:((d:Int) == 0)=false:=by rw[beq_eq_false_iff_ne];omega
  have i2:¬ (d:Int)=0:=by omega
  have i3:(n:Int).tmod (d:Int)=((n%d:Nat):Int):=by rw[Int.tmod_eq_emod_of_nonneg (by omega)];rfl
  have aE:=Qh (show d<=d*d from Nat.le_mul_of_pos_left d (by omega))
  have aB:=Qh (show d*d<=n->d<=1000 from fun h=>by
   by_cases hh:d<=1000
   ·exact hh
   ·have:=Nat.mul_le_mul (show 1001<=d by omega) (show 1001<=d by omega);omega)
  have aC:=Qh (fun h:n<d*d=>(show 2<=n->Pri n from fun h2=>QdO h2 HD.out h))
  have aA:=Qh (fun h:d*d<=n=>(show n%d=0->¬ Pri n from fun h2 hp=>hp.2 d aI (by
   have h3:2*d<=d*d:=Nat.mul_le_mul_right d aI;omega) (Nat.dvd_of_mod_eq_zero h2)))
  have aD:=Qh (show ¬ n%d=0->¬ d∣n from fun h hh=>h (Nat.mod_eq_zero_of_dvd hh));obtain⟨s,hs⟩:∃ s,d*d=s:=⟨_,rfl⟩;obtain⟨r,hr⟩:∃ r,n%d=r:=⟨_,rfl⟩;rw[hs] at e1 aK aE aB aC aA;rw[hr] at i3 aA aD;clear hs hr;by_cases hle:s<=n
  ·have aG:(s:Int)<=(n:Int):=by omega
   by_cases hr0:r=0
   ·have HF:=aA.out hle hr0;subst hr0;have aL:=Qh (show QaP n=false from Bool.eq_false_iff.2 fun h=>HF (QdM.1 h));rw[show ((0:Nat):Int)=0 from rfl] at i3;clear HF aC aA aD aB aE;go_wp2_with fail;go_ret
    exact⟨by rw[aL.out];rfl,rfl⟩
   ·have aF:¬ (r:Int)=0:=by omega
    have aO:((r:Int) == 0)=false:=by rw[beq_eq_false_iff_ne];exact aF
    have HN:=aD.out hr0
    have aM:=Qh (show ∀ x,2<=x->x<d+1->¬ x∣n from fun x h1 h2=>by
     by_cases e:x=d
     ·subst e;exact HN
     ·exact HD.out x h1 (by omega))
    have aJ:=aB.out hle;have aP:=Qh aE.out;clear aC aA aD aB aE HN;go_wp2_with fail;go_roundw
    case rel=>exact⟨d+1,by omega,by omega,aM,by go_num,by first|rfl|trivial⟩
    case measure=>simp[intOf];omega
  ·have aG:¬ (s:Int)<=(n:Int):=by omega
   have HF:=Qh (show QaP n=decide ((n:Int)>1) from by
    rw[Bool.eq_iff_iff,QdM,decide_eq_true_iff];refine Iff.symm ?_;exact⟨fun h=>aC.out (by omega) (by omega),fun h=>by have:=h.1;omega⟩)
   clear aC aA aD aB aE;go_wp2_with fail;go_ret
   exact⟨by rw[HF.out];rfl,rfl⟩
theorem Qi5 (n:Int) (q:Nat) (hq:1<=q):n%(q:Int)=((res n q:Nat):Int):=by
 have h0:=Int.emod_nonneg n (show (q:Int)≠0 by omega);unfold res;omega
theorem Qes (n:Nat) (h:n<=1000000):sz (n:Int)<=1000000:=by
 exact Qt (Y2 (y:=1000000) (by omega)) (by decide)
theorem QbQ (va:Value) (n:Int) (q:Nat) (w:World) (hn:It w va n) (hq:1<=q) (hq2:q<=4096) (hs:sz n<=1000000) :
  Calls Tryz.prog 127 #[va,.int .i64 q] w fun e w'=>e=.returned (.int .i64 ((res n q:Nat):Int))/\Below w.heap.size w w':=by
 obtain⟨s1,a1,n1,c1,rfl⟩:=hn.shape;go_enter Tryz.func127,Tryz.ntmps127
 go_upto_region 1 with fail;have bl:=Qc w (Qlr 33 s1 a1 n1 c1);have hV:=Vx.new (w:=w) (T:=33) rfl hn;replace hn:=hn.up bl;generalize w.alloc (Qlr 33 s1 a1 n1 c1)=W at *;obtain⟨x1,x2,x3,x4,e0,e1,-,-,ix⟩:=hV.cells;have HN:=Qh ix;have HL:=Qh bl;have aX:=Qh (show (q:Int)≠0 by omega);clear hn hV bl ix;refine QaT (by kernel_rfl) [10,11] (S:=fun w'=>w'.cell? ⟨w.heap.size,0,none⟩=some (.bool x1)/\w'.cell? ⟨w.heap.size,1,none⟩=some (.slice x2 x3 x4)) ⟨e0,e1⟩ (fun aB=>?_);(refine kL 0 rfl ?_;refine kL 1 rfl ?_)
 clear aB;refine Qa5 [(2,some 13),(3,some 14),(4,some 10),(5,some 15),(6,some 16),(7,some 17),(8,some 5),(9,some 6),(10,none),(11,none),(12,some 7)] 0 (FlI (fun i=>if i=2 then .int (q:Int) else if i=3 then .div (n/(q:Int)) (n%(q:Int)) else if i=4 then .div (n/(q:Int)) (n%(q:Int)) else if i=5 then .int (n/(q:Int)) else if i=6 then .int (n%(q:Int)) else if i=7 then .val (.int .i64 0) else if i=12 then .val (.int .i64 0) else .any) [(8,10,n/(q:Int)),(9,11,n%(q:Int))] [] W) rfl (by kernel_rfl) (by decide) (by kernel_rfl) (by kernel_rfl) (by kernel_rfl) (fun bb xx wz h=>(fun hb'=>⟨QaD hb' e0,QaD hb' e1⟩) h.bl) (fun xx=>FlI.start _ _ _ _ _) ?_ ?_
 ·intro i hi;have aU:i=2\/i=3\/i=4\/i=5\/i=6\/i=7\/i=8\/i=9\/i=10\/i=11\/i=12:=by simpa using hi
  clear hi;rcases aU with rfl|rfl|rfl|rfl|rfl|rfl|rfl|rfl|rfl|rfl|rfl
  ·refine⟨_,rfl,fun bb xx wz hJ hbf hw K hK=>?_⟩;clear hbf hw;simp only[Qba] at hK |-;go_simp;refine(Qbi (q:Int) wz (by omega) (by omega)).mono ?_;rintro e w8 ⟨v,rfl,hv,hb⟩;exact hK.out _ _ (hJ.put 2 rfl (by intro u hu;simp only[List.mem_cons,List.not_mem_nil,or_false] at hu;rcases hu with rfl|rfl <;> simp) hv hb)
  ·refine⟨_,rfl,fun bb xx wz hJ hbf hw K hK=>?_⟩;have hy:=hJ.int 2 _ rfl (hw 2 (by kernel_rfl));clear hbf hw;simp only[Qba] at hK |-;go_simp;refine(Qby _ _ n (q:Int) wz (HN.out.up hJ.bl) hy aX.out (Qt hs (by decide)) (Qt (Qes q (by omega)) (by decide))).mono ?_;rintro e w8 ⟨vq,vr,rfl,aT,aS,hb⟩;exact hK.out _ _ (hJ.put 3 rfl (by intro u hu;simp only[List.mem_cons,List.not_mem_nil,or_false] at hu;rcases hu with rfl|rfl <;> simp) ⟨vq,vr,rfl,aT,aS⟩ hb)
  ·refine⟨_,rfl,fun bb xx wz hJ hbf hw K hK=>?_⟩;have hv:=hw 3 (by kernel_rfl);clear hbf hw;simp only[Qba] at hK |-;go_simp;obtain⟨p,hp⟩:=hJ.dv 3 _ _ rfl hv;exact hK.out _ _ (hJ.put 4 rfl (by intro u hu;simp only[List.mem_cons,List.not_mem_nil,or_false] at hu;rcases hu with rfl|rfl <;> simp) ⟨p.1,p.2,hp⟩ (Below.refl _ _))
  ·refine⟨_,rfl,fun bb xx wz hJ hbf hw K hK=>?_⟩;have hd:=hJ.dv 4 _ _ rfl (hw 4 (by kernel_rfl));have hh:=Classical.choose_spec hd;generalize Classical.choose hd=p at hh;have aA:xx 4=.tuple #[p.1,p.2,.int .i64 0]:=hh.1;have aI:=Qh hh.2;clear hbf hw hh hd;simp only[Qba,aA] at hK |-;go_simp;exact hK.out _ _ (hJ.put 5 rfl (by intro u hu;simp only[List.mem_cons,List.not_mem_nil,or_false] at hu;rcases hu with rfl|rfl <;> simp) aI.out.1 (Below.refl _ _))
  ·refine⟨_,rfl,fun bb xx wz hJ hbf hw K hK=>?_⟩;have hd:=hJ.dv 4 _ _ rfl (hw 4 (by kernel_rfl));have hh:=Classical.choose_spec hd;generalize Classical.choose hd=p at hh;have aA:xx 4=.tuple #[p.1,p.2,.int .i64 0]:=hh.1;have aI:=Qh hh.2;clear hbf hw hh hd;simp only[Qba,aA] at hK |-;go_simp;exact hK.out _ _ (hJ.put 6 rfl (by intro u hu;simp only[List.mem_cons,List.not_mem_nil,or_false] at hu;rcases hu with rfl|rfl <;> simp) aI.out.2 (Below.refl _ _))
  ·refine⟨_,rfl,fun bb xx wz hJ hbf hw K hK=>?_⟩;have hd:=hJ.dv 4 _ _ rfl (hw 4 (by kernel_rfl));have hh:=Classical.choose_spec hd;generalize Classical.choose hd=p at hh;have aA:xx 4=.tuple #[p.1,p.2,.int .i64 0]:=hh.1;have aI:=Qh hh.2;clear hbf hw hh hd;simp only[Qba,aA] at hK |-;go_simp;exact hK.out _ _ (hJ.put 7 rfl (by intro u hu;simp only[List.mem_cons,List.not_mem_nil,or_false] at hu;rcases hu with rfl|rfl <;> simp) rfl (Below.refl _ _))
  ·refine⟨_,rfl,fun bb xx wz hJ hbf hw K hK=>?_⟩;clear hw;simp only[Qba] at hK |-;go_simp;exact hK.out _ _ (hJ.var 8 (v:=(8,10,n/(q:Int))) (by simp) rfl hbf rfl (by intro u hu;simp only[List.mem_cons,List.not_mem_nil,or_false] at hu;rcases hu with rfl|rfl <;> simp))
  ·refine⟨_,rfl,fun bb xx wz hJ hbf hw K hK=>?_⟩;clear hw;simp only[Qba] at hK |-;go_simp;exact hK.out _ _ (hJ.var 9 (v:=(9,11,n%(q:Int))) (by simp) rfl hbf rfl (by intro u hu;simp only[List.mem_cons,List.not_mem_nil,or_false] at hu;rcases hu with rfl|rfl <;> simp))
  ·refine⟨_,rfl,fun bb xx wz hJ hbf hw K hK=>?_⟩;have hv:=hw 8 (by kernel_rfl);have hd:=hJ.sto (v:=(8,10,n/(q:Int))) (by simp) hv (hJ.int 5 _ rfl (hw 5 (by kernel_rfl)));have hh:=Classical.choose_spec hd;generalize Classical.choose hd=p at hh;have aA:xx 5=_:=hh.hv;have aD:xx 8=_:=hh.hx;have d0:=hh.c0;have d1:=hh.c1;have f0:=hh.f0;have f1:=hh.f1;have HJ:=Qh hJ;have HH:=Qh hh;clear hbf hw hh hJ hd;simp only[Qba,aA,aD] at hK |-;clear aA aD;go_simp;go_wp2_with fail;exact hK.out _ _ (HJ.out.st 10 (v:=(8,10,n/(q:Int))) (by simp) rfl rfl (by intro u hu;simp only[List.mem_cons,List.not_mem_nil,or_false] at hu;rcases hu with rfl|rfl <;> simp) (by intro u hu;simp only[List.mem_cons,List.not_mem_nil,or_false] at hu;rcases hu with rfl|rfl <;> simp) hv (by simp) HH.out (d:=undef))
  ·refine⟨_,rfl,fun bb xx wz hJ hbf hw K hK=>?_⟩;have hv:=hw 9 (by kernel_rfl);have hd:=hJ.sto (v:=(9,11,n%(q:Int))) (by simp) hv (hJ.int 6 _ rfl (hw 6 (by kernel_rfl)));have hh:=Classical.choose_spec hd;generalize Classical.choose hd=p at hh;have aA:xx 6=_:=hh.hv;have aD:xx 9=_:=hh.hx;have d0:=hh.c0;have d1:=hh.c1;have f0:=hh.f0;have f1:=hh.f1;have HJ:=Qh hJ;have HH:=Qh hh;clear hbf hw hh hJ hd;simp only[Qba,aA,aD] at hK |-;clear aA aD;go_simp;go_wp2_with fail;exact hK.out _ _ (HJ.out.st 11 (v:=(9,11,n%(q:Int))) (by simp) rfl rfl (by intro u hu;simp only[List.mem_cons,List.not_mem_nil,or_false] at hu;rcases hu with rfl|rfl <;> simp) (by intro u hu;simp only[List.mem_cons,List.not_mem_nil,or_false] at hu;rcases hu with rfl|rfl <;> simp) hv (by simp) HH.out (d:=undef))
  ·refine⟨_,rfl,fun bb xx wz hJ hbf hw K hK=>?_⟩;have hv:=hw 7 (by kernel_rfl);clear hbf hw;simp only[Qba] at hK |-;go_simp;exact hK.out _ _ (hJ.put 12 rfl (by intro u hu;simp only[List.mem_cons,List.not_mem_nil,or_false] at hu;rcases hu with rfl|rfl <;> simp) (hJ.vl 7 _ rfl hv) (Below.refl _ _))
 intro bb xx wz aC hJ;obtain⟨B8,e8,aW,-,aH⟩:=hJ.vr (8,10,n/(q:Int)) (by simp) (aC 8 (by decide));replace aH:=aH (aC 10 (by decide));dsimp only at aH;obtain⟨B9,e9,aV,-,aF⟩:=hJ.vr (9,11,n%(q:Int)) (by simp) (aC 9 (by decide));replace aF:=aF (aC 11 (by decide));dsimp only at aF;have e7:=hJ.vl 7 _ rfl (aC 7 (by decide));have aR:=hJ.vl 12 _ rfl (aC 12 (by decide));have aE:B8≠B9:=fun e=>hJ.ne (8,10,n/(q:Int)) (by simp) (9,11,n%(q:Int)) (by simp) (show 8≠9 by decide) (aC 8 (by decide)) (aC 9 (by decide)) (show xx 8=xx 9 by rw[show xx 8=_ from e8,show xx 9=_ from e9,e]);have aG:=hJ.bl;clear aC hJ;obtain⟨u2,aP⟩:∃ u,u=xx 2:=⟨_,rfl⟩;obtain⟨u3,aO⟩:∃ u,u=xx 3:=⟨_,rfl⟩;obtain⟨u4,aM⟩:∃ u,u=xx 4:=⟨_,rfl⟩;obtain⟨u5,aL⟩:∃ u,u=xx 5:=⟨_,rfl⟩;obtain⟨u6,aK⟩:∃ u,u=xx 6:=⟨_,rfl⟩;simp only[QfQ,show xx 8=_ from e8,show xx 9=_ from e9,show xx 7=_ from e7,show xx 12=_ from aR,<- aP,<- aO,<- aM,<- aL,<- aK];clear e8 e9 e7 aR aP aO aM aL aK;have aB:wz.cell? ⟨w.heap.size,0,none⟩=some (.bool x1)/\wz.cell? ⟨w.heap.size,1,none⟩=some (.slice x2 x3 x4):=⟨QaD aG e0,QaD aG e1⟩;have aZ:=Qh (Bl.up HL.out aG);obtain⟨s9,a9,n9,c9,a5,a4,a3,a2,aJ⟩:=aF.cells;rw[Qi5 n q hq] at aJ;have HR:=Qh aJ;have a0:=Qc1 n hq;clear aG aH aF aW aV aE e0 e1 aJ HL;refine dT ?_;clear aB;go_wp2_with fail;refine(Qd9 _ (res n q) wz HR.out (by omega)).mono ?_;rintro e w5 ⟨rfl,aQ⟩;have aY:=Qh (Bl.up aZ.out aQ);clear aQ;go_wp2_with fail;go_ret
 exact⟨rfl,aY.out⟩
theorem QfS (W:World) (B:Nat) (s:Bool) (a:Option Addr) (n c:Nat):ButS (fun k=>k=B) W ((W.setCell ⟨B,0,none⟩ (.bool s)).setCell ⟨B,1,none⟩ (.slice a n c)):=(ButS.set W B 0 _).trans (ButS.set _ B 1 _)
theorem QjX {w:World} {B:Nat} (h:Va w B):∀ g,g=B->NoW w g:=fun g e=>by subst e;obtain⟨_,_,_,_,_,_,_,h⟩:=h;exact h
theorem QgY (va:Value) (x:Int) (w:World) (hx:It w va x) (hs:sz x<=1099511627776) :
  Calls Tryz.prog 221 #[va,.int .i64 1] w fun e w'=>∃ v,e=.returned v/\It w' v x/\Below w.heap.size w w':=by
 obtain⟨s1,a1,n1,c1,rfl⟩:=hx.shape;go_enter Tryz.func221,Tryz.ntmps221
 go_upto_region 1 with fail;have b0:=Qc w (Qlr 33 s1 a1 n1 c1);have b1:=Qc (w.alloc (Qlr 33 s1 a1 n1 c1)) (Qlr 33 false none 0 0);have vA:=(Vx.new (w:=w) (T:=33) rfl hx).up b1;have vR:=Vx.new0 (w:=w.alloc (Qlr 33 s1 a1 n1 c1)) (T:=33) rfl;rw[Zk2] at vR;have aM:((w.alloc (Qlr 33 s1 a1 n1 c1)).alloc (Qlr 33 false none 0 0)).heap.size=w.heap.size+1+1:=by simp only[Zk2]
 have bl:=Bl.up b0 b1;clear b0 b1 hx;generalize (w.alloc (Qlr 33 s1 a1 n1 c1)).alloc (Qlr 33 false none 0 0)=W at *;have HS:=Qh aM;have HA:=Qh vA;have HR:=Qh vR.va;have HL:=Qh bl;clear aM vA vR bl;go_wp2_with fail;refine(Qbf 1 W (by decide) (by decide)).mono ?_;rintro e w1 ⟨v,rfl,hv,aH⟩;obtain⟨s2,a2,n2,c2,rfl⟩:=hv.shape;have b2:=Qc w1 (Qlr 33 s2 a2 n2 c2);have vO:=Vx.new (w:=w1) (T:=33) rfl hv;have aB:=Bl.up aH b2;have HN:=Qh (show w.heap.size+1+1<=w1.heap.size by have:=HS.out;have:=aH.size;omega);replace HA:=Qh (HA.out.up aB);replace HR:=Qh (HR.out.up aB);replace HL:=Qh (Bl.up HL.out aB);have HO:=Qh vO;clear b2 aH aB hv vO HS;go_upto_region 2 with fail;generalize w1.alloc (Qlr 33 s2 a2 n2 c2)=W2 at *;generalize w1.heap.size=N at *
 go_loopw [1] (fun s1 wr=>∃ (n:Nat) (z:Int),s1=.int .i64 (n:Int)/\((n=1/\z=1)\/(n=0/\z=x))/\Hid (Vx wr N z)/\Hid (Vx wr w.heap.size x)/\Hid (Va wr (w.heap.size+1))/\Hid (Below w.heap.size w wr))
  (fun s1 _=>(intOf s1).toNat)
 case atStart=>exact⟨1,1,rfl,.inl ⟨rfl,rfl⟩,HO,HA,HR,HL⟩
 case round=>
  obtain⟨n,z,rfl,hn,aD,aJ,aC,aE⟩:=hrel;clear HO HA HR HL;rcases hn with ⟨rfl,rfl⟩|⟨rfl,rfl⟩
  ·rw[show ((1:Nat):Int)=1 from rfl];obtain⟨t1,t2,t3,t4,o0,o1,aL,aK,io⟩:=aD.out.cells;obtain⟨u1,u2,u3,u4,p0,p1,-,-,ia⟩:=aJ.out.cells;have aF:=Qh io;have aQ:=Qh ia;clear io ia aL aK;go_wp2_with fail;refine(Qbm _ _ 1 x wr aF.out aQ.out (by decide) (by omega)).mono ?_;rintro e w3 ⟨v,rfl,hv,hb⟩;obtain⟨s3,a3,n3,c3,rfl⟩:=hv.shape;rw[Int.one_mul] at hv;have HV:=Qh hv;have aI:=Qh (aD.out.up hb);have aS:=Qh (aJ.out.up hb);have aR:=Qh (aC.out.up hb);have aP:=Qh (Bl.up aE.out hb);clear hv hb o0 o1 p0 p1 aF aQ aD aJ aC aE;obtain⟨t1,t2,t3,t4,o0,o1,aL,aK,-⟩:=aI.out.cells;go_wp2_with fail;go_roundw
   case rel=>
    have aG:=QfS w3 N s3 a3 n3 c3;have aO:=QjX aI.out.va;have aV:=HN.out;obtain⟨zr,aA⟩:=aR.out;exact⟨0,x,by go_num,.inr ⟨rfl,rfl⟩,Vx.put aI.out.va HV.out,aS.out.fr aG aO (by omega),(aA.fr aG aO (by omega)).va,ButS.below aP.out aG aP.out.size (fun g e=>by omega)⟩
   case measure=>simp[intOf]
  ·rw[show ((0:Nat):Int)=0 from rfl];obtain⟨t1,t2,t3,t4,o0,o1,-,-,io⟩:=aD.out.cells;obtain⟨zr,aA⟩:=id aC.out;obtain⟨u1,u2,u3,u4,r0,r1,aU,aT,-⟩:=aA.cells;have aF:=Qh io;clear io aA;go_wp2_with fail;exact Qbl (B:=w.heap.size+1) (z:=z) rfl rfl rfl (Vx.put aC.out aF.out) (fun v hv=>⟨v,rfl,hv,ButS.below aE.out (QfS _ _ _ _ _ _) aE.out.size (fun g e=>by omega)⟩)
open Go.RowKit Go.Maps
theorem Y9:Tryz.prog.underlying 3=some (.int .i64):=by kernel_rfl
theorem Js:Tryz.prog.underlying 4=some .bool:=by kernel_rfl
theorem JZ:Tryz.prog.underlying 182=some (.map 3 4):=by kernel_rfl
theorem QhE (w:World):(zeroValue 4).run Tryz.prog w=.ok (.bool false) w:=by kernel_rfl
theorem JR:Keyed Tryz.prog 3:=int_keyed Y9
theorem Qdh {v:Value} {z:DataW Unit×List MemPlace} (h:plainElem Tryz.prog 4 v=some z):∃ x,v=.bool x/\z=(.lit (.bool x),[]):=by
 unfold plainElem at h;rw[Js] at h
 cases v <;> simp at h
 exact⟨_,rfl,h.symm⟩
theorem Qam (v:Nat) (h:v<4611686018427387904):(Lit.int .i64 (v:Int)).wf=true:=by
 have h1:IntKind.i64.min = -9223372036854775808:=by decide
 have h2:IntKind.i64.max=9223372036854775807:=by decide
 show (decide (IntKind.i64.min<=(v:Int)) && decide ((v:Int)<=IntKind.i64.max))=true
 rw[h1,h2,Bool.and_eq_true,decide_eq_true_iff,decide_eq_true_iff];omega
def SqM (w:World) (b n:Nat) (f:Nat->Bool):Prop:=
 ∃ D:DataW Unit,w.ownsMap Tryz.prog 3 (plainElem Tryz.prog 4) b n D/\∀ v:Nat,v<4611686018427387904->D.atKey (.int .i64 (v:Int)) (.lit (.bool false))=.lit (.bool (f v))
theorem SqM.made (w:World):SqM (w.alloc (.map #[] 0)) w.heap.size 0 (fun _=>false):=⟨_,World.ownsMap_made _ _ _ _,fun _ _=>rfl⟩
theorem SqM.lt {w:World} {b n:Nat} {f:Nat->Bool} (h:SqM w b n f):b<w.heap.size:=by
 obtain⟨D,h1,-⟩:=h;exact h1.lt
theorem SqM.up {w w':World} {b n:Nat} {f:Nat->Bool} (h:SqM w b n f) (hb:Below w.heap.size w w'):SqM w' b n f:=by
 obtain⟨D,⟨es,aA,k1,k2⟩,h2⟩:=h;exact⟨D,⟨es,aA,(hb.block b (Ql k1).1).trans k1,k2⟩,h2⟩
theorem SqM.mono {w:World} {b n:Nat} {f g:Nat->Bool} (h:SqM w b n f) (hg:∀ v,f v=g v):SqM w b n g:=by
 obtain⟨D,h1,h2⟩:=h;exact⟨D,h1,fun v hv=>by rw[<- hg];exact h2 v hv⟩
theorem SqM.get {w:World} {b n:Nat} {f:Nat->Bool} (h:SqM w b n f) (v:Nat) (hv:v<4611686018427387904) :
  (Instr.lookup 182 (.map (some b)) (.int .i64 (v:Int)) false).run Tryz.prog w=.ok (.bool (f v)) w:=by
 obtain⟨D,h1,h2⟩:=h;obtain⟨u,ps,aA,hR⟩:=h1.lookup JR JZ (QhE w) (plainElem_bool Js false) (keyOf_int_mk Y9 (Qam v hv));obtain⟨x,rfl,e⟩:=Qdh hR;have e1:D.atKey (.int .i64 (v:Int)) (.lit (.bool false))=.lit (.bool x):=congrArg Prod.fst e;rw[h2 v hv] at e1;have e2:f v=x:=by simpa using e1
 rw[aA,e2]
theorem SqM.put {w:World} {b n:Nat} {f:Nat->Bool} (h:SqM w b n f) (v:Nat) (hv:v<4611686018427387904) (hn:n<1000000) :
  ∃ w',(Instr.mapUpdate 182 (.map (some b)) (.int .i64 (v:Int)) (.bool true)).run Tryz.prog w=.ok () w'/\SqM w' b (n+1) (fun u=>f u || decide (u=v))/\w.grownBy w' (some b):=by
 obtain⟨D,h1,h2⟩:=h;obtain⟨w',aA,k1,k2⟩:=h1.update (val:=.bool true) JR JZ (by unfold maxLen;omega) (keyOf_int_mk Y9 (Qam v hv)) (plainElem_bool Js true);refine⟨w',aA,⟨_,k1,fun u hu=>?_⟩,k2⟩;by_cases e:u=v
 ·subst e;rw[atKey_put_same h1.isMap (show WideAt.IsKeyLit (.int .i64 (u:Int)) from trivial)];show _=DataW.lit (Lit.bool (f u || decide (u=u)))
  rw[decide_eq_true rfl,Bool.or_true]
 ·rw[atKey_put_other (fun h=>by injection h with _ h;omega),h2 u hu];show _=DataW.lit (Lit.bool (f u || decide (u=v)))
  rw[decide_eq_false e,Bool.or_false]
def sqi (q i v:Nat):Bool:=(List.range i).any fun n=>decide (n*n%q=v)
theorem Qi3 (q i v:Nat):sqi q (i+1) v=(sqi q i v || decide (v=i*i%q)):=by
 unfold sqi;rw[List.range_succ,List.any_append];simp[eq_comm]
theorem Qgn (m q:Nat):(m:Int).tmod (q:Int)=((m%q:Nat):Int):=by rw[Int.tmod_eq_emod_of_nonneg (by omega)];rfl
theorem QkY (m n:Nat):(m:Int)*(n:Int)=((m*n:Nat):Int):=(Int.natCast_mul m n).symm
theorem Qld (m n:Nat):(m:Int)+(n:Int)=((m+n:Nat):Int):=rfl
theorem Qk5 {m n:Nat} (hm:m<=4096) (hn:n<=4096):m*n<=16777216:=Nat.mul_le_mul hm hn
structure Stp (a b c q y u1 u2 u3 v:Nat):Prop where
 e1:(a:Int)*(y:Int)=(u1:Int)
 e2:((u1:Int)+(b:Int)).tmod (q:Int)=(u2:Int)
 e3:(u2:Int)*(y:Int)=(u3:Int)
 e4:((u3:Int)+(c:Int)).tmod (q:Int)=(v:Int)
 l1:u1<=16777216
 l2:u2<=4096
 l3:u3<=16777216
 l4:v<=4096
 ev:v=((a*y+b)%q*y+c)%q
theorem QjC (a b c q y:Nat) (hq:1<=q) (hq2:q<=4096) (ha:a<=4096) (hy:y<=4096):∃ u1 u2 u3 v,Stp a b c q y u1 u2 u3 v:=by
 have l2:(a*y+b)%q<=4096:=by have:=Nat.mod_lt (a*y+b) (show 0<q by omega);omega
 have l4:((a*y+b)%q*y+c)%q<=4096:=by have:=Nat.mod_lt ((a*y+b)%q*y+c) (show 0<q by omega);omega
 exact⟨_,_,_,_,QkY _ _,by rw[Qld,Qgn],QkY _ _,by rw[Qld,Qgn],Qk5 ha hy,l2,Qk5 l2 hy,l4,rfl⟩
theorem Qeo {a b c p q j:Nat} (hj:j<q) (h:QaJ a b c p q j=true):QaR a b c p q=true:=List.any_eq_true.2 ⟨j,List.mem_range.2 hj,h⟩
theorem Qgw {a b c p q:Nat} (h:∀ j,j<q->QaJ a b c p q j=false):QaR a b c p q=false:=by
 unfold QaR;rw[List.any_eq_false];intro j hj;rw[h j (List.mem_range.1 hj)];exact Bool.false_ne_true
theorem QcG (va:Value) (x y z:Int) (p q:Nat) (w:World) (h:Sx w va x y z) (hq:1<=q) (hq2:q<=4096) (hp:1<=p) (hp2:p<=1000000) (hsx:sz x<=1000000) (hsy:sz y<=1000000) (hsz:sz z<=1000000) :
  Calls Tryz.prog 73 #[va,.int .i64 p,.int .i64 q] w fun e' w'=>e'=.returned (.bool (QaI x y z p q))/\Below w.heap.size w w':=by
 obtain⟨s1,a1,n1,c1,s2,a2,n2,c2,s3,a3,n3,c3,rfl,hX,hY,hZ⟩:=h;have a8:=@run_makeMap Tryz.prog;go_enter Tryz.func73,Tryz.ntmps73
 go_upto_region 1 with fail;have bl:=Qc w (Qlt 53 s1 a1 n1 c1 s2 a2 n2 c2 s3 a3 n3 c3);have dA:=Zk1 w (Qlt 53 s1 a1 n1 c1 s2 a2 n2 c2 s3 a3 n3 c3);have aS:(w.alloc (Qlt 53 s1 a1 n1 c1 s2 a2 n2 c2 s3 a3 n3 c3)).heap.size=w.heap.size+1:=Zk2 _ _;replace hX:=hX.up bl;replace hY:=hY.up bl;replace hZ:=hZ.up bl;generalize w.alloc (Qlt 53 s1 a1 n1 c1 s2 a2 n2 c2 s3 a3 n3 c3)=W at *;obtain⟨p0,p1,p2,p3,p4,p5⟩:=QbG dA;have HX:=Qh hX;have HY:=Qh hY;have HZ:=Qh hZ;have HL:=Qh bl;have aE:=SqM.made W;have aF:=Qc W (.map #[] 0);have i1:((q:Int) == 0)=false:=by rw[beq_eq_false_iff_ne];omega
 have i2:¬ (q:Int)=0:=by omega
 have i3:((p:Int) == 0)=false:=by rw[beq_eq_false_iff_ne];omega
 have i4:¬ (p:Int)=0:=by omega
 clear dA hX hY hZ bl aS;go_upto_region 2 with fail;obtain⟨b,hb⟩:∃ b,W.heap.size=b:=⟨_,rfl⟩;have HB:=Qh hb;rw[hb] at aE;simp only[hb];generalize W.alloc (.map #[] 0)=W1 at *;have HM:=Qh aE;have a0:=Qh aF;clear aE aF hb a8;go_wp2_with fail
 go_loopw [8,16] (fun _ s16 wr=>∃ (i:Nat),i<=q/\s16=.int .i64 (i:Int)/\Hid (SqM wr b i (sqi q i))/\Hid (Below W.heap.size W wr))
  (fun _ s16 _=>q-(intOf s16).toNat)
 case atStart=>exact⟨0,Nat.zero_le _,rfl,HM,a0⟩
 case round=>
  obtain⟨i,hi,rfl,HS,aC⟩:=hrel;by_cases hlt:i<q
  ·have e1:=QkY i i;have e2:=Qgn (i*i) q;have hm:=Nat.mul_le_mul (show i<=4096 by omega) (show i<=4096 by omega);have hv:i*i%q<q:=Nat.mod_lt _ (by omega);obtain⟨wn,aT,aZ,hg⟩:=HS.out.put (i*i%q) (by omega) (by omega);have bB:=Qh (aZ.mono (g:=sqi q (i+1)) fun v=>(Qi3 q i v).symm);have bC:=Qh (ButS.below aC.out (ButS.grown hg) aC.out.size (fun g e=>by injection e with e;have:=HB.out;omega));obtain⟨v,aX⟩:∃ v,i*i%q=v:=⟨_,rfl⟩;obtain⟨m,aK⟩:∃ m,i*i=m:=⟨_,rfl⟩;rw[aX] at e2 aT hv;rw[aK] at e1 e2 hm;clear aX aK aZ hg HS aC;go_wp2_with fail;go_roundw
   case rel=>exact⟨i+1,by omega,by go_num,bB,bC⟩
   case measure=>simp[intOf];omega
  ·have bA:i=q:=by omega
   subst bA;replace p0:=QaD aC.out p0;replace p1:=QaD aC.out p1;replace p2:=QaD aC.out p2;replace p3:=QaD aC.out p3;replace p4:=QaD aC.out p4;replace p5:=QaD aC.out p5;replace HX:=Qh (HX.out.up aC.out);replace HY:=Qh (HY.out.up aC.out);replace HZ:=Qh (HZ.out.up aC.out);have aH:Hid (SqM wr b i (sqr i)):=HS;have aJ:=Qh (Bl.up HL.out aC.out);clear HS aC HL HM a0 hlt hi;go_upto_region 7 with fail;refine QaT (by kernel_rfl) [] (S:=fun w'=>w'.cell? ⟨w.heap.size,0,none⟩=some (.bool s1)/\w'.cell? ⟨w.heap.size,1,none⟩=some (.slice a1 n1 c1)/\w'.cell? ⟨w.heap.size,2,none⟩=some (.bool s2)/\w'.cell? ⟨w.heap.size,3,none⟩=some (.slice a2 n2 c2)/\w'.cell? ⟨w.heap.size,4,none⟩=some (.bool s3)/\w'.cell? ⟨w.heap.size,5,none⟩=some (.slice a3 n3 c3)) ⟨p0,p1,p2,p3,p4,p5⟩ (fun aB=>?_);(refine kL 0 rfl ?_;refine kL 1 rfl ?_;refine kL 2 rfl ?_;refine kL 4 rfl ?_;refine kL 5 rfl ?_;refine kL 6 rfl ?_;refine kL 8 rfl ?_;refine kL 9 rfl ?_;refine kL 10 rfl ?_)
   (refine oL 3 rfl fun K hK=>tL ?_;go_simp);refine(QbQ _ x i _ HX.out.drew hq hq2 hsx).mono ?_;rintro e a6 ⟨rfl,aF⟩;have aA:=Bl.up (Below.refl _ _).drew aF;replace p0:=QaD aA p0;replace p1:=QaD aA p1;replace p2:=QaD aA p2;replace p3:=QaD aA p3;replace p4:=QaD aA p4;replace p5:=QaD aA p5;replace HX:=Qh (HX.out.up aA);replace HY:=Qh (HY.out.up aA);replace HZ:=Qh (HZ.out.up aA);replace aH:=Qh (aH.out.up aA);replace aJ:=Qh (Bl.up aJ.out aA);clear aF aA;(go_wp2_with fail;clear aB;refine nxL hK ⟨p0,p1,p2,p3,p4,p5⟩ fun aB=>tL ?_;clear hK);(refine oL 7 rfl fun K hK=>tL ?_;go_simp);refine(QbQ _ y i _ HY.out hq hq2 hsy).mono ?_;rintro e a5 ⟨rfl,aF⟩;have aA:=aF;replace p0:=QaD aA p0;replace p1:=QaD aA p1;replace p2:=QaD aA p2;replace p3:=QaD aA p3;replace p4:=QaD aA p4;replace p5:=QaD aA p5;replace HX:=Qh (HX.out.up aA);replace HY:=Qh (HY.out.up aA);replace HZ:=Qh (HZ.out.up aA);replace aH:=Qh (aH.out.up aA);replace aJ:=Qh (Bl.up aJ.out aA);clear aF aA;(go_wp2_with fail;clear aB;refine nxL hK ⟨p0,p1,p2,p3,p4,p5⟩ fun aB=>tL ?_;clear hK);(refine oL 11 rfl fun K hK=>tL ?_;go_simp);refine(QbQ _ z i _ HZ.out hq hq2 hsz).mono ?_;rintro e bD ⟨rfl,aF⟩;have aA:=aF;replace p0:=QaD aA p0;replace p1:=QaD aA p1;replace p2:=QaD aA p2;replace p3:=QaD aA p3;replace p4:=QaD aA p4;replace p5:=QaD aA p5;replace HX:=Qh (HX.out.up aA);replace HY:=Qh (HY.out.up aA);replace HZ:=Qh (HZ.out.up aA);replace aH:=Qh (aH.out.up aA);replace aJ:=Qh (Bl.up aJ.out aA);clear aF aA;(go_wp2_with fail;clear aB;refine nxL hK ⟨p0,p1,p2,p3,p4,p5⟩ fun aB=>tL ?_;clear hK);(refine kL 12 rfl ?_;refine kL 13 rfl ?_;refine kL 14 rfl ?_)
   refine dT ?_;have la:=Qc1 x hq;have lb:=Qc1 y hq;have lc:=Qc1 z hq;obtain⟨ra,aO⟩:∃ r,res x i=r:=⟨_,rfl⟩;obtain⟨rb,aM⟩:∃ r,res y i=r:=⟨_,rfl⟩;obtain⟨rc,aL⟩:∃ r,res z i=r:=⟨_,rfl⟩;have aI:=Qh (show QaI x y z p i=QaR ra rb rc p i by unfold QaI;rw[aO,aM,aL]);simp only[aO,aM,aL];rw[aO] at la;rw[aM] at lb;rw[aL] at lc;clear aO aM aL aB p0 p1 p2 p3 p4 p5 HX HY HZ wr a6 a5;go_wp2_with fail
   go_loopw [12,13,39] (fun _ _ s39 wq=>∃ (j:Nat),j<=i/\s39=.int .i64 (j:Int)/\Hid (∀ k,k<j->QaJ ra rb rc p i k=false)/\Hid (SqM wq b i (sqr i))/\Hid (Below w.heap.size w wq))
    (fun _ _ s39 _=>i-(intOf s39).toNat)
   case atStart=>exact⟨0,Nat.zero_le _,rfl,Qh fun k hk=>by omega,aH,aJ⟩
   case round=>
    obtain⟨j,hj,rfl,HN,HS,aC⟩:=hrel;by_cases hlt:j<i
    ·have e1:=QkY j j;have e2:=Qgn (j*j) i;have hm:=Qk5 (show j<=4096 by omega) (show j<=4096 by omega);have e3:=Qgn j p;have a7:j*j%i<i:=Nat.mod_lt _ (by omega);obtain⟨yy,aR⟩:∃ m',j*j%i=m':=⟨_,rfl⟩;rw[aR] at e2 a7;obtain⟨u1,u2,u3,v1,S1⟩:=QjC ra rb rc i yy hq hq2 (by omega) (by omega);obtain⟨t1,t2,t3,v2,S2⟩:=QjC rc rb ra i yy hq hq2 (by omega) (by omega);have aV:QaJ ra rb rc p i j=(sqr i v1 || (decide (j%p=0) && sqr i v2)):=by unfold QaJ;rw[aR,<- S1.ev,<- S2.ev]
     have a1:=S1.e1;have a2:=S1.e2;have a3:=S1.e3;have a4:=S1.e4;have b1:=S2.e1;have b2:=S2.e2;have b3:=S2.e3;have b4:=S2.e4;have l1:=S1.l1;have l2:=S1.l2;have l3:=S1.l3;have l4:=S1.l4;have m1:=S2.l1;have m2:=S2.l2;have m3:=S2.l3;have m4:=S2.l4;have aY:=HS.out.get v1 (by omega);have aP:=HS.out.get v2 (by omega);clear S1 S2;obtain⟨m,aK⟩:∃ m,j*j=m:=⟨_,rfl⟩;rw[aK] at e1 e2 hm;obtain⟨rr,aU⟩:∃ m',j%p=m':=⟨_,rfl⟩;rw[aU] at e3 aV;have bE:rr<p:=by rw[<- aU];exact Nat.mod_lt _ (by omega)
     have aQ:=Qh aV;clear aK aR aU aV;by_cases aD:sqr i v1=true
     ·rw[aD] at aY;have HF:=Qh (aI.out.trans (Qeo hlt (by rw[aQ.out,aD];rfl)));clear aD aP;go_wp2_with fail;go_ret
      exact⟨by rw[HF.out];rfl,aC.out⟩
     ·have aD:=Bool.eq_false_iff.2 aD;rw[aD] at aY;by_cases hr0:rr=0
      ·subst hr0;rw[show ((0:Nat):Int)=0 from rfl] at e3;by_cases aG:sqr i v2=true
       ·rw[aG] at aP;have HF:=Qh (aI.out.trans (Qeo hlt (by rw[aQ.out,aD,aG];rfl)));clear aD aG;go_wp2_with fail;go_ret
        exact⟨by rw[HF.out];rfl,aC.out⟩
       ·have aG:=Bool.eq_false_iff.2 aG;rw[aG] at aP
        have aW:=Qh (show ∀ k,k<j+1->QaJ ra rb rc p i k=false from fun k hk=>by
         by_cases e:k=j
         ·subst e;rw[aQ.out,aD,aG];simp
         ·exact HN.out k (by omega))
        clear aD aG;go_wp2_with fail;go_roundw
        case rel=>exact⟨j+1,by omega,by go_num,aW,HS,aC⟩
        case measure=>simp[intOf];omega
      ·have bG:((rr:Int) == 0)=false:=by rw[beq_eq_false_iff_ne];omega
       have bF:¬ (rr:Int)=0:=by omega
       have aW:=Qh (show ∀ k,k<j+1->QaJ ra rb rc p i k=false from fun k hk=>by
        by_cases e:k=j
        ·subst e;rw[aQ.out,aD,decide_eq_false hr0];rfl
        ·exact HN.out k (by omega))
       clear aD aP;go_wp2_with fail;go_roundw
       case rel=>exact⟨j+1,by omega,by go_num,aW,HS,aC⟩
       case measure=>simp[intOf];omega
    ·have a9:j=i:=by omega
     subst a9;have HF:=Qh (aI.out.trans (Qgw HN.out));go_wp2_with fail;go_ret
     exact⟨by rw[HF.out];rfl,aC.out⟩
