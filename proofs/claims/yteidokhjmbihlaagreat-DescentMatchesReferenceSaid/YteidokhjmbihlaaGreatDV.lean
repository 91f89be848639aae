/-
  R29.Free: the walk.
-/
import Derived.Test.YteidokhjmbihlaaGreatDM
import Derived.Test.YteidokhjmbihlaaGreatDR
import Derived.Test.YteidokhjmbihlaaGreatFSB
import Derived.Test.YteidokhjmbihlaaGreatFM
set_option linter.all false
set_option maxRecDepth 100000
set_option maxHeartbeats 4000000
namespace Go.Proofs.YteidokhjmbihlaaGreat
structure LfI (N v d:Nat):Prop where
 v1:1<=v
 d2:2<=d
 pr:∀ q,Pri q->(q∣v↔q∣N/\d<=q)
theorem Pri.not_one {p:Nat} (h:Pri p):¬ p∣1:=fun hd=>by
 have:=Nat.le_of_dvd (by decide) hd;have:=h.1;omega
theorem LfI.start {N:Nat} (h:1<=N):LfI N N 2:=⟨h,Nat.le_refl _,fun q hq=>⟨fun hd=>⟨hd,hq.1⟩,fun hd=>hd.1⟩⟩
theorem LfI.skip {N v d:Nat} (h:LfI N v d) (hd:¬ d∣v):LfI N v (d+1):=by
 refine⟨h.v1,Nat.le_succ_of_le h.d2,fun q hq=>?_⟩;rw[h.pr q hq];refine⟨fun⟨h1,h2⟩=>⟨h1,?_⟩,fun⟨h1,h2⟩=>⟨h1,by omega⟩⟩;rcases Nat.lt_or_ge d q with h3|h3
 ·exact h3
 ·have e:q=d:=by omega
  subst e;exact absurd ((h.pr q hq).2 ⟨h1,h2⟩) hd
theorem LfI.pri {N v d:Nat} (h:LfI N v d) (hd:d∣v):Pri d:=by
 obtain⟨q,hq,hqd⟩:=QN h.d2;have h1:=((h.pr q hq).1 (Nat.dvd_trans hqd hd)).2;have h2:=Nat.le_of_dvd (by have:=h.d2;omega) hqd;have e:q=d:=by omega
 exact e▸hq
theorem LfI.take {N v d j v':Nat} (h:LfI N v d) (hd:d∣v) (hj:1<=j) (e:v=d ^ j*v') (hn:¬ d∣v'):LfI N v' (d+1):=by
 have hp:=h.pri hd
 have hv':1<=v':=Nat.pos_of_ne_zero fun e0=>by
  subst e0;have:=h.v1;rw[e,Nat.mul_zero] at this;omega
 refine⟨hv',Nat.le_succ_of_le h.d2,fun q hq=>?_⟩;constructor
 ·intro h1;have h2:=(h.pr q hq).1 (e▸Nat.dvd_trans h1 (Nat.dvd_mul_left _ _));refine⟨h2.1,?_⟩;rcases Nat.lt_or_ge d q with h3|h3
  ·exact h3
  ·have e2:q=d:=by omega
   subst e2;exact absurd h1 hn
 ·rintro⟨h1,h2⟩;have h3:=(h.pr q hq).2 ⟨h1,by omega⟩;rw[e] at h3;rcases hq.dvd_mul h3 with h4|h4
  ·have:=hq.eq hp (hq.dvd_pow h4);omega
  ·exact h4
theorem LfI.last {N v d:Nat} (h:LfI N v d) (hs:v<d*d) (h1:v≠1):Pri v:=by
 refine⟨by have:=h.v1;omega,fun x hx1 hx2 hxd=>?_⟩;obtain⟨y,hy⟩:=hxd
 have hy2:2<=y:=by
  rcases Nat.lt_or_ge y 2 with h2|h2
  ·have:y=0\/y=1:=by omega
   rcases this with rfl|rfl
   ·have:=h.v1;omega
   ·omega
  ·exact h2
 have big:∀ z,2<=z->z∣v->d<=z:=fun z hz hzd=>by
  obtain⟨q,hq,hqz⟩:=QN hz;have:=((h.pr q hq).1 (Nat.dvd_trans hqz hzd)).2;have:=Nat.le_of_dvd (by omega) hqz;omega
 have b1:=big x hx1 ⟨y,hy⟩;have b2:=big y hy2 ⟨x,by rw[Nat.mul_comm];exact hy⟩;have:=Nat.mul_le_mul b1 b2;omega
def PsI (N d:Nat) (ps:List Nat):Prop:=ps.Pairwise (· < ·)/\∀ q,q∈ps↔Pri q/\q∣N/\q<d
theorem PsI.start (N:Nat):PsI N 2 []:=⟨List.Pairwise.nil,fun q=>⟨fun h=>(List.not_mem_nil h).elim,fun h=>absurd h.2.2 (by have:=h.1.1;omega)⟩⟩
theorem PsI.skip {N v d:Nat} {ps:List Nat} (h:PsI N d ps) (hl:LfI N v d) (hd:¬ d∣v):PsI N (d+1) ps:=by
 refine⟨h.1,fun q=>?_⟩;rw[h.2 q];refine⟨fun⟨h1,h2,h3⟩=>⟨h1,h2,by omega⟩,fun⟨h1,h2,h3⟩=>⟨h1,h2,?_⟩⟩;rcases Nat.lt_or_ge q d with h4|h4
 ·exact h4
 ·have e:q=d:=by omega
  subst e;exact absurd ((hl.pr q h1).2 ⟨h2,h4⟩) hd
theorem PsI.take {N v d:Nat} {ps:List Nat} (h:PsI N d ps) (hl:LfI N v d) (hd:d∣v):PsI N (d+1) (ps++[d]):=by
 have hp:=hl.pri hd;have hdN:=((hl.pr d hp).1 hd).1;refine⟨List.pairwise_append.2 ⟨h.1,List.pairwise_singleton _ _,fun a ha b hb=>?_⟩,fun q=>?_⟩
 ·rw[List.mem_singleton] at hb;subst hb;exact((h.2 a).1 ha).2.2
 ·rw[List.mem_append,h.2 q,List.mem_singleton];constructor
  ·rintro (⟨h1,h2,h3⟩|rfl)
   ·exact⟨h1,h2,by omega⟩
   ·exact⟨hp,hdN,by omega⟩
  ·rintro⟨h1,h2,h3⟩;rcases Nat.lt_or_ge q d with h4|h4
   ·exact .inl ⟨h1,h2,h4⟩
   ·exact .inr (by omega)
theorem PsI.one {N d:Nat} {ps:List Nat} (h:PsI N d ps) (hl:LfI N 1 d):ps.Pairwise (· < ·)/\Prs N ps:=by
 refine⟨h.1,h.1.imp (fun h=>Nat.ne_of_lt h),fun q=>?_⟩;rw[h.2 q];refine⟨fun h=>⟨h.1,h.2.1⟩,fun⟨h1,h2⟩=>⟨h1,h2,?_⟩⟩;rcases Nat.lt_or_ge q d with h4|h4
 ·exact h4
 ·exact absurd ((hl.pr q h1).2 ⟨h2,h4⟩) h1.not_one
theorem PsI.last {N v d:Nat} {ps:List Nat} (h:PsI N d ps) (hl:LfI N v d) (hp:Pri v):(ps++[v]).Pairwise (· < ·)/\Prs N (ps++[v]):=by
 have hv:=(hl.pr v hp).1 (Nat.dvd_refl v)
 have hpw:(ps++[v]).Pairwise (· < ·):=List.pairwise_append.2 ⟨h.1,List.pairwise_singleton _ _,fun a ha b hb=>by
  rw[List.mem_singleton] at hb;subst hb;have:=((h.2 a).1 ha).2.2;omega⟩
 refine⟨hpw,hpw.imp (fun h=>Nat.ne_of_lt h),fun q=>?_⟩;rw[List.mem_append,h.2 q,List.mem_singleton];constructor
 ·rintro (⟨h1,h2,-⟩|rfl)
  ·exact⟨h1,h2⟩
  ·exact⟨hp,hv.1⟩
 ·rintro⟨h1,h2⟩;rcases Nat.lt_or_ge q d with h4|h4
  ·exact .inl ⟨h1,h2,h4⟩
  ·exact .inr (h1.eq hp ((hl.pr q h1).2 ⟨h2,h4⟩))
structure FqI (N v d out:Nat):Prop where
 sq:SqF out
 o1:1<=out
 eq:∃ k,1<=k/\N=out*v*(k*k)
 lt:∀ q,Pri q->q∣out->q<d
theorem FqI.start (N:Nat):FqI N N 2 1:=⟨SqF.one,Nat.le_refl _,⟨1,Nat.le_refl _,by simp⟩,fun q hq hd=>absurd hd hq.not_one⟩
theorem FqI.skip {N v d out:Nat} (h:FqI N v d out):FqI N v (d+1) out:=⟨h.sq,h.o1,h.eq,fun q hq hd=>Nat.lt_succ_of_lt (h.lt q hq hd)⟩
theorem FqI.take {N v d j v' out:Nat} (h:FqI N v d out) (hp:Pri d) (e:v=d ^ j*v'):FqI N v' (d+1) (if j%2=1 then out*d else out):=by
 obtain⟨k,hk,hN⟩:=h.eq;have hd1:1<=d:=by have:=hp.1;omega
 have hdp:∀ n,1<=d ^ n:=fun n=>Nat.one_le_pow _ _ hd1;by_cases hj:j%2=1
 ·rw[if_pos hj];have hcop:Nat.Coprime out d:=(hp.cop (fun hd=>by have:=h.lt d hp hd;omega)).symm;refine⟨h.sq.mul (SqF.pri hp) hcop,Nat.mul_pos h.o1 hd1,⟨k*d ^ (j/2),Nat.mul_pos hk (hdp _),?_⟩,fun q hq hd=>?_⟩
  ·have ej:j=2*(j/2)+1:=by omega
   rw[hN,e];conv=>lhs;rw[ej,Nat.pow_succ,Nat.two_mul,Nat.pow_add]
   simp only[Nat.mul_assoc,Nat.mul_left_comm,Nat.mul_comm]
  ·rcases hq.dvd_mul hd with h1|h1
   ·exact Nat.lt_succ_of_lt (h.lt q hq h1)
   ·have:=hq.eq hp h1;omega
 ·rw[if_neg hj];refine⟨h.sq,h.o1,⟨k*d ^ (j/2),Nat.mul_pos hk (hdp _),?_⟩,fun q hq hd=>Nat.lt_succ_of_lt (h.lt q hq hd)⟩;have ej:j=2*(j/2):=by omega
  rw[hN,e];conv=>lhs;rw[ej,Nat.two_mul,Nat.pow_add]
  simp only[Nat.mul_assoc,Nat.mul_left_comm,Nat.mul_comm]
theorem FqI.done {N v d out:Nat} (h:FqI N v d out) (hl:LfI N v d) (hs:v<d*d):Sqc N (out*v):=by
 obtain⟨k,hk,hN⟩:=h.eq;refine⟨?_,Nat.mul_pos h.o1 hl.v1,k,hk,hN⟩;by_cases e:v=1
 ·subst e;rw[Nat.mul_one];exact h.sq
 ·have hp:=hl.last hs e;have hd:=((hl.pr v hp).1 (Nat.dvd_refl v)).2;exact h.sq.mul (SqF.pri hp) (hp.cop (fun hv=>by have:=h.lt v hp hv;omega)).symm
open Go.RowKit
attribute [local go_sem ↓] Go.wp_at_zero Go.wp_at_succ
theorem QkK (a b:Nat):(a:Int).tdiv (b:Int)=((a/b:Nat):Int):=by rw[Int.tdiv_eq_ediv_of_nonneg (by omega)];rfl
theorem LfI.next {N v d j u:Nat} (h:LfI N v d) (e:v=d ^ j*u) (hn:¬ d∣u):LfI N u (d+1):=by
 by_cases hd:d∣v
 ·by_cases hj:j=0
  ·subst hj;rw[Nat.pow_zero,Nat.one_mul] at e;exact absurd (e▸hd) hn
  ·exact h.take hd (by omega) e hn
 ·by_cases hj:j=0
  ·subst hj;rw[Nat.pow_zero,Nat.one_mul] at e;exact e▸h.skip hd
  ·refine absurd ⟨d ^ (j-1)*u,?_⟩ hd;rw[e,<- Nat.mul_assoc,<- Nat.pow_succ',show (j-1).succ=j by omega]
theorem FqI.next {N v d j u out:Nat} (h:FqI N v d out) (hl:LfI N v d) (e:v=d ^ j*u):FqI N u (d+1) (if j%2=1 then out*d else out):=by
 by_cases hd:d∣v
 ·exact h.take (hl.pri hd) e
 ·by_cases hj:j=0
  ·subst hj;rw[Nat.pow_zero,Nat.one_mul] at e;rw[if_neg (by decide)];exact e▸h.skip
  ·refine absurd ⟨d ^ (j-1)*u,?_⟩ hd;rw[e,<- Nat.mul_assoc,<- Nat.pow_succ',show (j-1).succ=j by omega]
theorem So.m1 {w:World} {base g:Nat} {x:Int} (hg:w.heap[g]? = some (.cells #[.int .i64 x] 2 (0,0))) (hb:base<=g):So e64 w base (.slice (some ⟨g,0,none⟩) 1 1) [x]:=by
 refine So.ofCells (E:=e64) (l:=[x]) hg hb (by show 1<=maxLen;decide) rfl (fun i hi=>?_) (fun u hu=>?_)
 ·have:i=0:=by simpa using hi
  subst this
  exact⟨[.int .i64 x],rfl,fun j u e=>by
   rcases j with _|j
   ·exact e
   ·simp at e⟩
 ·simp only[List.mem_cons,List.not_mem_nil,or_false] at hu;subst hu;rfl
theorem QjM {N d:Nat} {ps:List Nat} (h:PsI N d ps):ps.length<=d:=by
 have:=Qaf (l:=ps) (m:=List.range d) (h.1.imp (fun h=>Nat.ne_of_lt h)) (fun x hx=>List.mem_range.2 ((h.2 x).1 hx).2.2);rwa [List.length_range] at this
theorem QdA (va:Value) (x:Int) (w:World) (hx:It w va x) (h0:x≠0) (hlt:x.natAbs<1099511627776) :
  Calls Tryz.prog 36 #[va] w fun e w'=>∃ v ps,e=.returned v/\So e64 w' w.heap.size v (zI ps)/\ps.Pairwise (· < ·)/\Prs x.natAbs ps/\Below w.heap.size w w':=by
 have hsx:=Qbw hlt;obtain⟨W,s1,a1,n1,c1,rfl,hW,b,vX,-,p0,p1,hx'⟩:=Qfa w hx;clear hx;go_enter Tryz.func36,Tryz.ntmps36
 go_upto_region 1 with fail;rw[<- hW];clear hW vX;go_wp2_with fail;refine(Jt _ x W hx' (by omega)).mono ?_;rintro e w1 ⟨v,rfl,hv,hb⟩;replace b:=Bl.up b hb;clear hb p0 p1 hx';obtain⟨N,hN⟩:∃ N,x.natAbs=N:=⟨_,rfl⟩;rw[hN] at hlt hv;have hN1:1<=N:=by omega
 go_wp2_with fail;refine(Qb9 _ N w1 hv hlt).mono ?_;rintro e w2 ⟨rfl,hb⟩;replace b:=Bl.up b hb;clear hb hv;have HS0:=Qh (So.lit0 e64 w2 (base:=w2.heap.size) (Nat.le_refl _));have HB0:=Qh (Qa w2 (.cells #[] 2));have HB:=Qh b;clear b;go_upto_region 3 with fail;have HS0:Hid (So e64 (w2.alloc (.cells #[] 2)) w2.heap.size (.slice (some ⟨w2.heap.size,0,none⟩) 0 0) (zI [])):=HS0;have HB0:Hid (Below w2.heap.size w2 (w2.alloc (.cells #[] 2))):=HB0;generalize w2.alloc (.cells #[] 2)=w3 at *;go_wp2_with fail
 go_loopw [3,5,6] (fun s3 s5 s6 wr=>∃ (v d:Nat) (ps:List Nat),s3=.int .i64 (v:Int)/\s6=.int .i64 (d:Int)/\1<=v/\v<=N/\2<=d/\d<=1048577/\Hid (LfI N v d)/\Hid (PsI N d ps)/\Hid (So e64 wr w2.heap.size s5 (zI ps))/\Hid (Below w2.heap.size w2 wr))
  (fun _ _ s6 _=>2000000-(intOf s6).toNat)
 case atStart=>exact⟨N,2,[],rfl,rfl,hN1,Nat.le_refl _,Nat.le_refl _,by decide,Qh (LfI.start hN1),Qh (PsI.start N),HS0,HB0⟩
 case round=>
  clear HS0 HB0;obtain⟨v,d,ps,rfl,rfl,hv1,hvN,hd2,hdl,HL,HP,HS,HBW⟩:=hrel;obtain⟨q,hq⟩:∃ q,d*d=q:=⟨_,rfl⟩;have hqi:(d:Int)*(d:Int)=(q:Int):=by rw[<- hq];simp
  have hqb:q<=1099513724929:=by rw[<- hq];exact Nat.mul_le_mul hdl hdl
  have HQ:=Qh hq;have hlen:=QjM HP.out;have hl1:(zI ps).length+1<=1099511627776:=by rw[Jh];omega
  by_cases hle:q<=v
  ·have c0:(q:Int)<=(v:Int):=by omega
   have hd1:d<=1048576:=by
    rcases Nat.lt_or_ge 1048576 d with h|h
    ·have:=Nat.mul_le_mul (show 1048577<=d from h) (show 1048577<=d from h);rw[hq] at this;omega
    ·exact h
   have dnz:¬ (d:Int)=0:=by omega
   have e1:=Qcj v d;obtain⟨r,hr⟩:∃ r,v%d=r:=⟨_,rfl⟩;rw[hr] at e1;have HR:=Qh hr;clear hq hr hle;by_cases hdv:d∣v
   case' pos=>
    have r0:r=0:=by rw[<- HR.out];exact Nat.mod_eq_zero_of_dvd hdv
    subst r0;have HPN:=Qh (HP.out.take HL.out hdv);clear hdv;have bn:=Qa wr (.cells #[.int .i64 (d:Int)] 2);have hsc:=(So.m1 (base:=0) (x:=(d:Int)) (heap_alloc_new wr (.cells #[.int .i64 (d:Int)] 2)) (Nat.zero_le _)).sc;have hS6:=HS.out.up bn;have HB6:=Qh (Bl.up HBW.out bn);have hbz:=HB6.out.size;clear bn HS HBW;go_upto_region 8 with (at_builtin;go_must (refine JF (E:=e64) rfl (.tmp 25) (.tmp 27) _ rfl Tryz.underlying70 w2.heap.size _ (zI ps) [(d:Int)] rfl hS6 hbz _ 0 1 1 rfl rfl hsc (by decide) hl1 ?_);intro g' cap' w7 hS7 hb7 hg7);have HBN:=Qh (ButS.below HB6.out hb7 HB6.out.size (fun g hg=>(hS6.lt g hg).1));have HSN:=Qh (show So e64 w7 w2.heap.size (.slice (some ⟨g',0,none⟩) ((zI ps).length+1) cap') (zI (ps++[d])) by rw[Jj];exact hS7);clear hS7 hb7 hg7 hsc hS6 HB6 hbz;generalize (Value.slice (some ⟨g',0,none⟩) ((zI ps).length+1) cap')=vs at *;generalize ps++[d]=ps2 at *
   case' neg=>
    have r0:¬ r=0:=by rw[<- HR.out];exact fun h=>hdv (Nat.dvd_of_mod_eq_zero h)
    have HPN:=Qh (HP.out.skip HL.out hdv);have HSN:=HS;have HBN:=HBW;clear hdv HS HBW;go_upto_region 8 with fail;generalize wr=w7 at *;generalize u5=vs at *;generalize ps=ps2 at *
   all_goals
    clear e1 HR hl1 hlen
    go_loopw [3] (fun s3 wy=>∃ (u j:Nat),s3=.int .i64 (u:Int)/\1<=u/\u<=v/\Hid (v=d ^ j*u)/\wy=w7)
     (fun s3 _=>(intOf s3).toNat)
    case atStart=>exact⟨v,0,rfl,hv1,Nat.le_refl _,Qh (by rw[Nat.pow_zero,Nat.one_mul]),rfl⟩
    case round=>
     obtain⟨u,j,rfl,hu1,huv,HE,rfl⟩:=hrel;have e1:=Qcj u d;have e2:=QkK u d;obtain⟨r,hr⟩:∃ r,u%d=r:=⟨_,rfl⟩;obtain⟨t,ht⟩:∃ t,u/d=t:=⟨_,rfl⟩;rw[hr] at e1;rw[ht] at e2;have HR:=Qh (And.intro hr ht);clear hr ht;by_cases hr0:r=0
     ·subst hr0;have hdu:d∣u:=Nat.dvd_of_mod_eq_zero HR.out.1;obtain⟨c,hc⟩:=hdu;have htc:t=c:=by rw[<- HR.out.2,hc];exact Nat.mul_div_cancel_left c (by omega)
      have hcu:1<=c/\c<u:=by
       constructor
       ·exact Nat.pos_of_ne_zero fun e=>by rw[e,Nat.mul_zero] at hc;omega
       ·have h5:=Nat.mul_le_mul_right c hd2;have h6:1<=c:=Nat.pos_of_ne_zero fun e=>by rw[e,Nat.mul_zero] at hc;omega
        omega
      have HEN:=Qh (show v=d ^ (j+1)*c by rw[HE.out,hc,Nat.pow_succ,Nat.mul_assoc]);subst htc;obtain⟨hc1,hc2⟩:=hcu;clear hc HR HE;go_wp2_with fail;refine⟨⟨t,j+1,rfl,hc1,by omega,HEN,by first|rfl|trivial⟩,by simp[intOf];omega⟩
     ·have HLN:=Qh (HL.out.next HE.out (fun h=>hr0 (by rw[<- HR.out.1];exact Nat.mod_eq_zero_of_dvd h)));clear HR HE;go_wp2_with fail;refine⟨⟨u,d+1,ps2,rfl,by go_num,hu1,by omega,by omega,by omega,HLN,HPN,HSN,HBN⟩,by simp[intOf];omega⟩
  ·have c0:¬ (q:Int)<=(v:Int):=by omega
   have HQV:=Qh (show v<d*d by rw[HQ.out];omega);clear hq hle;by_cases hv2:v=1
   ·have c1:¬ (v:Int)>1:=by omega
    have HD:=Qh (HP.out.one (hv2▸HL.out));have HBE:=Qh (Bl.up HB.out HBW.out);have HSE:=Qh (HS.out.base HB.out.size);clear hv2 HB HBW HS;go_wp2_with fail;go_ret
    exact⟨_,rfl,ps,HSE.out,HD.out.1,HD.out.2,HBE.out⟩
   ·have c1:(v:Int)>1:=by omega
    have HD:=Qh (HP.out.last HL.out (HL.out.last HQV.out hv2));have bn:=Qa wr (.cells #[.int .i64 (v:Int)] 2);have hsc:=(So.m1 (base:=0) (x:=(v:Int)) (heap_alloc_new wr (.cells #[.int .i64 (v:Int)] 2)) (Nat.zero_le _)).sc;have hS6:=HS.out.up bn;have HB6:=Qh (Bl.up HBW.out bn);have hbz:=HB6.out.size;clear bn HS HBW hv2;go_wp2_with (at_builtin;go_must (refine JF (E:=e64) rfl (.tmp 38) (.tmp 40) _ rfl Tryz.underlying70 w2.heap.size _ (zI ps) [(v:Int)] rfl hS6 hbz _ 0 1 1 rfl rfl hsc (by decide) hl1 ?_);intro g' cap' w7 hS7 hb7 hg7)
    have HBN:=Qh (Bl.up HB.out (ButS.below HB6.out hb7 HB6.out.size (fun g hg=>(hS6.lt g hg).1)));have HSN:=Qh (show So e64 w7 w2.heap.size (.slice (some ⟨g',0,none⟩) ((zI ps).length+1) cap') (zI (ps++[v])) by rw[Jj];exact hS7);have HSE:=Qh (HSN.out.base HB.out.size);clear hS7 hb7 hg7 hsc hS6 HB6 hbz HB HSN;go_wp2_with fail;go_ret
    exact⟨_,rfl,ps++[v],HSE.out,HD.out.1,HD.out.2,HBN.out⟩
theorem QjF (j:Nat):(!decide (j%2=1))=decide ((j+1)%2=1):=by
 by_cases h:j%2=1
 ·rw[decide_eq_true h,decide_eq_false (by omega)];rfl
 ·rw[decide_eq_false h,decide_eq_true (by omega)];rfl
theorem FqI.le {N v d out:Nat} (h:FqI N v d out) (hv:1<=v):out*v<=N/\out<=N:=by
 obtain⟨k,hk,e⟩:=h.eq;have h1:1<=k*k:=Nat.mul_pos hk hk;have h2:out*v<=N:=by rw[e];exact Nat.le_mul_of_pos_right _ h1
 exact⟨h2,Qt (Nat.le_mul_of_pos_right _ hv) h2⟩
theorem Qia {x:Int} {f:Nat} (h0:x≠0) (h:Sqc x.natAbs f):FrZ x (Qg x 0*(f:Int)):=by
 have h1:=h.2.1;rcases Int.lt_or_gt_of_ne h0 with hx|hx
 ·rw[QH hx];refine⟨by rw[show (-1*(f:Int)).natAbs=f by omega];exact h,⟨fun h=>by omega,fun h=>by omega⟩,by omega⟩
 ·rw[QK hx];refine⟨by rw[show (1*(f:Int)).natAbs=f by omega];exact h,⟨fun h=>by omega,fun h=>hx⟩,by omega⟩
theorem Qfl (va:Value) (x:Int) (w:World) (hx:It w va x) (h0:x≠0) (hlt:x.natAbs<1099511627776) :
  Calls Tryz.prog 31 #[va] w fun e w'=>∃ v f,e=.returned v/\It w' v f/\FrZ x f/\Below w.heap.size w w':=by
 have hsx:=Qbw hlt;obtain⟨s1,a1,n1,k1,rfl⟩:=hx.shape;have b0:=Qa w (.cells #[.bool s1,.slice a1 n1 k1] 33);have b1:=Qa (w.alloc (.cells #[.bool s1,.slice a1 n1 k1] 33)) (.cells #[.bool false,.slice none 0 0] 33);have d0:=heap_alloc_new w (.cells #[.bool s1,.slice a1 n1 k1] 33);have d1:=heap_alloc_new (w.alloc (.cells #[.bool s1,.slice a1 n1 k1] 33)) (.cells #[.bool false,.slice none 0 0] 33);rw[show (w.alloc (.cells #[.bool s1,.slice a1 n1 k1] 33)).heap.size=w.heap.size+1 by simp only[World.size_alloc]] at d1;have kF:Kp fun w'=>w'.heap[w.heap.size]? = some (.cells #[.bool s1,.slice a1 n1 k1] 33)/\w'.heap[w.heap.size+1]? = some (.cells #[.bool false,.slice none 0 0] 33)/\It w' (.agg #[.bool s1,.slice a1 n1 k1]) x/\Below w.heap.size w w':=kpf;have HF:=Qh (And.intro ((Kp.blk _ _).up d0 b1) (And.intro d1 (And.intro (hx.up (Bl.up b0 b1)) (Bl.up b0 b1))));clear hx b0 b1 d0 d1;go_enter Tryz.func31,Tryz.ntmps31
 go_upto_region 1 with fail;generalize (w.alloc (.cells #[.bool s1,.slice a1 n1 k1] 33)).alloc (.cells #[.bool false,.slice none 0 0] 33)=W at *;obtain⟨p0,p1⟩:=Qq HF.out.1;go_wp2_with fail;refine(Jt _ x W HF.out.2.2.1 (by omega)).mono ?_;rintro e w1 ⟨v,rfl,hv,hb⟩;replace HF:=Qh (kF.up HF.out hb);clear hb p0 p1;obtain⟨N,hN⟩:∃ N,x.natAbs=N:=⟨_,rfl⟩;rw[hN] at hlt hv;have HN:=Qh hN;have hN1:1<=N:=by omega
 clear hN;go_wp2_with fail;refine(Qb9 _ N w1 hv hlt).mono ?_;rintro e w2 ⟨rfl,hb⟩;replace HF:=Qh (kF.up HF.out hb);clear hb hv;go_wp2_with fail
 go_loopw [3,5,6,7] (fun s3 s5 s6 _ wr=>∃ (v d out:Nat),s3=.int .i64 (v:Int)/\s5=.int .i64 (out:Int)/\s6=.int .i64 (d:Int)/\1<=v/\v<=N/\2<=d/\d<=1048577/\Hid (LfI N v d)/\Hid (FqI N v d out)/\wr=w2)
  (fun _ _ s6 _ _=>2000000-(intOf s6).toNat)
 case atStart=>exact⟨N,2,1,rfl,rfl,rfl,hN1,Nat.le_refl _,Nat.le_refl _,by decide,Qh (LfI.start hN1),Qh (FqI.start N),rfl⟩
 case round=>
  obtain⟨v,d,out,rfl,rfl,rfl,hv1,hvN,hd2,hdl,HL,HP,rfl⟩:=hrel;obtain⟨q,hq⟩:∃ q,d*d=q:=⟨_,rfl⟩;have hqi:(d:Int)*(d:Int)=(q:Int):=by rw[<- hq];simp
  have hqb:q<=1099513724929:=by rw[<- hq];exact Nat.mul_le_mul hdl hdl
  have HQ:=Qh hq;obtain⟨hov,hoN⟩:=HP.out.le hv1;by_cases hle:q<=v
  ·have c0:(q:Int)<=(v:Int):=by omega
   have hd1:d<=1048576:=by
    rcases Nat.lt_or_ge 1048576 d with h|h
    ·have:=Nat.mul_le_mul (show 1048577<=d from h) (show 1048577<=d from h);rw[hq] at this;omega
    ·exact h
   have dnz:¬ (d:Int)=0:=by omega
   clear hq hle hov;go_wp2_with fail
   go_loopw [3,7] (fun s3 s7 wy=>∃ (u j:Nat),s3=.int .i64 (u:Int)/\s7=.bool (decide (j%2=1))/\1<=u/\u<=v/\Hid (v=d ^ j*u)/\wy=wr)
    (fun s3 _ _=>(intOf s3).toNat)
   case atStart=>exact⟨v,0,rfl,rfl,hv1,Nat.le_refl _,Qh (by rw[Nat.pow_zero,Nat.one_mul]),rfl⟩
   case round=>
    obtain⟨u,j,rfl,rfl,hu1,huv,HE,rfl⟩:=hrel;have e1:=Qcj u d;have e2:=QkK u d;obtain⟨r,hr⟩:∃ r,u%d=r:=⟨_,rfl⟩;obtain⟨t,ht⟩:∃ t,u/d=t:=⟨_,rfl⟩;rw[hr] at e1;rw[ht] at e2;have HR:=Qh (And.intro hr ht);clear hr ht;by_cases hr0:r=0
    ·subst hr0;have hdu:d∣u:=Nat.dvd_of_mod_eq_zero HR.out.1;obtain⟨c,hc⟩:=hdu;have htc:t=c:=by rw[<- HR.out.2,hc];exact Nat.mul_div_cancel_left c (by omega)
     have hcu:1<=c/\c<u:=by
      constructor
      ·exact Nat.pos_of_ne_zero fun e=>by rw[e,Nat.mul_zero] at hc;omega
      ·have h5:=Nat.mul_le_mul_right c hd2;have h6:1<=c:=Nat.pos_of_ne_zero fun e=>by rw[e,Nat.mul_zero] at hc;omega
       omega
     have HEN:=Qh (show v=d ^ (j+1)*c by rw[HE.out,hc,Nat.pow_succ,Nat.mul_assoc]);subst htc;obtain⟨hc1,hc2⟩:=hcu;have HON:=Qh (QjF j);obtain⟨bb,hbb⟩:∃ b,decide (j%2=1)=b:=⟨_,rfl⟩;rw[hbb] at HON |-;clear hc HR HE hbb;go_wp2_with fail;refine⟨⟨t,j+1,rfl,by rw[HON.out],hc1,by omega,HEN,by first|rfl|trivial⟩,by simp[intOf];omega⟩
    ·have hnd:¬ d∣u:=fun h=>hr0 (by rw[<- HR.out.1];exact Nat.mod_eq_zero_of_dvd h);have HLN:=Qh (HL.out.next HE.out hnd);have hFN:=HP.out.next HL.out HE.out;clear HR HE hnd;by_cases hj:j%2=1
     ·rw[if_pos hj] at hFN;rw[decide_eq_true hj];have hom:=(hFN.le hu1).2;obtain⟨o2,ho2⟩:∃ o,out*d=o:=⟨_,rfl⟩;rw[ho2] at hFN hom;have hoi:(out:Int)*(d:Int)=(o2:Int):=by rw[<- ho2];simp
      have HFN:=Qh hFN;clear hj hFN ho2;go_wp2_with fail;refine⟨⟨u,d+1,o2,rfl,rfl,by go_num,hu1,by omega,by omega,by omega,HLN,HFN,by first|rfl|trivial⟩,by simp[intOf];omega⟩
     ·rw[if_neg hj] at hFN;rw[decide_eq_false hj];have HFN:=Qh hFN;clear hj hFN;go_wp2_with fail;refine⟨⟨u,d+1,out,rfl,rfl,by go_num,hu1,by omega,by omega,by omega,HLN,HFN,by first|rfl|trivial⟩,by simp[intOf];omega⟩
  ·have c0:¬ (q:Int)<=(v:Int):=by omega
   have HSQ:=Qh (show Sqc N (out*v) from HP.out.done HL.out (by rw[HQ.out];omega));obtain⟨f,hf⟩:∃ f,out*v=f:=⟨_,rfl⟩;have hfi:(out:Int)*(v:Int)=(f:Int):=by rw[<- hf];simp
   rw[hf] at HSQ hov;have HFR:=Qh (show FrZ x (Qg x 0*(f:Int)) from Qia h0 (by rw[HN.out];exact HSQ.out));clear hq hle hf;obtain⟨p0,p1⟩:=Qq HF.out.1;go_wp2_with fail;refine(QP _ x wr HF.out.2.2.1).mono ?_;rintro e w3 ⟨rfl,hb⟩;replace HF:=Qh (kF.up HF.out hb);obtain⟨g1,g2⟩:=Yx x 0;obtain⟨cc,hcc⟩:∃ c,Qg x 0=c:=⟨_,rfl⟩;rw[hcc] at g1 g2 HFR |-;have hsc:sz cc<=2:=Qbw (by omega);have hsf:sz (f:Int)<=2:=Qbw (by omega);clear hb p0 p1 hcc;go_wp2_with fail;refine(Qn cc w3 (by omega) (by omega)).mono ?_;rintro e w4 ⟨v4,rfl,hv4,hb⟩;replace HF:=Qh (kF.up HF.out hb);have H4:=Qh hv4;clear hb hv4;go_wp2_with fail;refine(Qn (f:Int) w4 (by omega) (by omega)).mono ?_;rintro e w5 ⟨v5,rfl,hv5,hb⟩;replace HF:=Qh (kF.up HF.out hb);replace H4:=Qh (H4.out.up hb);have H5:=Qh hv5;clear hb hv5;go_wp2_with fail;refine(Ys _ _ cc (f:Int) w5 H4.out H5.out (by omega) (by omega)).mono ?_;rintro e w6 ⟨v6,rfl,hv6,hb⟩;obtain⟨s6,a6,n6,k6,rfl⟩:=hv6.shape;replace HF:=Qh (kF.up HF.out hb);have H6:=Qh hv6;clear hb hv6 H4 H5;have HBZ:=Qh HF.out.2.1;obtain⟨z0,z1⟩:=Qq HBZ.out;obtain⟨y0,y1⟩:=QeZ HBZ.out;go_wp2_with fail;have hbt:=(ButS.set w6 (w.heap.size+1) 0 (.bool s6)).trans (ButS.set _ (w.heap.size+1) 1 (.slice a6 n6 k6));exact Q0 (B:=w.heap.size+1) rfl rfl rfl (Vx.put (Qgw HBZ.out) H6.out) (fun v hv=>⟨v,_,rfl,hv,HFR.out,ButS.below HF.out.2.2.2 hbt HF.out.2.2.2.size (fun g e=>by omega)⟩)
