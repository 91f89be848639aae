/-
  R29.Free: the walk.
-/
import Derived.Test.YteidokhjmbihlaaGreatDM
import Derived.Test.YteidokhjmbihlaaGreatDR
import Derived.Test.YteidokhjmbihlaaGreatFSB
import Derived.Test.YteidokhjmbihlaaGreatFM
set_option linter.all false
set_option maxRecDepth 100000
set_option maxHeartbeats 4000000
namespace Go.Proofs.YteidokhjmbihlaaGreat
structure LfI (N v d:Nat):Prop where
 v1:1<=v
 d2:2<=d
 pr:∀ q,Pri q->(q∣v↔q∣N/\d<=q)
theorem Pri.not_one {p:Nat} (h:Pri p):¬ p∣1:=fun hd=>by
 have:=Nat.le_of_dvd (by decide) hd;have:=h.1;omega
theorem LfI.start {N:Nat} (h:1<=N):LfI N N 2:=⟨h,Nat.le_refl _,fun q hq=>⟨fun hd=>⟨hd,hq.1⟩,fun hd=>hd.1⟩⟩
theorem LfI.skip {N v d:Nat} (h:LfI N v d) (hd:¬ d∣v):LfI N v (d+1):=by
 refine⟨h.v1,Nat.le_succ_of_le h.d2,fun q hq=>?_⟩;rw[h.pr q hq];refine⟨fun⟨h1,h2⟩=>⟨h1,?_⟩,fun⟨h1,h2⟩=>⟨h1,by omega⟩⟩;rcases Nat.lt_or_ge d q with h3|h3
 ·exact h3
 ·have e:q=d:=by omega
  subst e;exact absurd ((h.pr q hq).2 ⟨h1,h2⟩) hd
theorem LfI.pri {N v d:Nat} (h:LfI N v d) (hd:d∣v):Pri d:=by
 obtain⟨q,hq,aA⟩:=QU h.d2;have h1:=((h.pr q hq).1 (Nat.dvd_trans aA hd)).2;have h2:=Nat.le_of_dvd (by have:=h.d2;omega) aA;have e:q=d:=by omega
 exact e▸hq
theorem LfI.take {N v d j v':Nat} (h:LfI N v d) (hd:d∣v) (hj:1<=j) (e:v=d ^ j*v') (hn:¬ d∣v'):LfI N v' (d+1):=by
 have hp:=h.pri hd
 have aA:1<=v':=Nat.pos_of_ne_zero fun e0=>by
  subst e0;have:=h.v1;rw[e,Nat.mul_zero] at this;omega
 refine⟨aA,Nat.le_succ_of_le h.d2,fun q hq=>?_⟩;constructor
 ·intro h1;have h2:=(h.pr q hq).1 (e▸Nat.dvd_trans h1 (Nat.dvd_mul_left _ _));refine⟨h2.1,?_⟩;rcases Nat.lt_or_ge d q with h3|h3
  ·exact h3
  ·have e2:q=d:=by omega
   subst e2;exact absurd h1 hn
 ·rintro⟨h1,h2⟩;have h3:=(h.pr q hq).2 ⟨h1,by omega⟩;rw[e] at h3;rcases hq.dvd_mul h3 with h4|h4
  ·have:=hq.eq hp (hq.dvd_pow h4);omega
  ·exact h4
theorem LfI.last {N v d:Nat} (h:LfI N v d) (hs:v<d*d) (h1:v≠1):Pri v:=by
 refine⟨by have:=h.v1;omega,fun x hx1 hx2 hxd=>?_⟩;obtain⟨y,hy⟩:=hxd
 have aC:2<=y:=by
  rcases Nat.lt_or_ge y 2 with h2|h2
  ·have:y=0\/y=1:=by omega
   rcases this with rfl|rfl
   ·have:=h.v1;omega
   ·omega
  ·exact h2
 have aB:∀ z,2<=z->z∣v->d<=z:=fun z hz hzd=>by
  obtain⟨q,hq,aA⟩:=QU hz;have:=((h.pr q hq).1 (Nat.dvd_trans aA hzd)).2;have:=Nat.le_of_dvd (by omega) aA;omega
 have b1:=aB x hx1 ⟨y,hy⟩;have b2:=aB y aC ⟨x,by rw[Nat.mul_comm];exact hy⟩;have:=Nat.mul_le_mul b1 b2;omega
def PsI (N d:Nat) (ps:List Nat):Prop:=ps.Pairwise (· < ·)/\∀ q,q∈ps↔Pri q/\q∣N/\q<d
theorem PsI.start (N:Nat):PsI N 2 []:=⟨List.Pairwise.nil,fun q=>⟨fun h=>(List.not_mem_nil h).elim,fun h=>absurd h.2.2 (by have:=h.1.1;omega)⟩⟩
theorem PsI.skip {N v d:Nat} {ps:List Nat} (h:PsI N d ps) (hl:LfI N v d) (hd:¬ d∣v):PsI N (d+1) ps:=by
 refine⟨h.1,fun q=>?_⟩;rw[h.2 q];refine⟨fun⟨h1,h2,h3⟩=>⟨h1,h2,by omega⟩,fun⟨h1,h2,h3⟩=>⟨h1,h2,?_⟩⟩;rcases Nat.lt_or_ge q d with h4|h4
 ·exact h4
 ·have e:q=d:=by omega
  subst e;exact absurd ((hl.pr q h1).2 ⟨h2,h4⟩) hd
theorem PsI.take {N v d:Nat} {ps:List Nat} (h:PsI N d ps) (hl:LfI N v d) (hd:d∣v):PsI N (d+1) (ps++[d]):=by
 have hp:=hl.pri hd;have aA:=((hl.pr d hp).1 hd).1;refine⟨List.pairwise_append.2 ⟨h.1,List.pairwise_singleton _ _,fun a ha b hb=>?_⟩,fun q=>?_⟩
 ·rw[List.mem_singleton] at hb;subst hb;exact((h.2 a).1 ha).2.2
 ·rw[List.mem_append,h.2 q,List.mem_singleton];constructor
  ·rintro (⟨h1,h2,h3⟩|rfl)
   ·exact⟨h1,h2,by omega⟩
   ·exact⟨hp,aA,by omega⟩
  ·rintro⟨h1,h2,h3⟩;rcases Nat.lt_or_ge q d with h4|h4
   ·exact .inl ⟨h1,h2,h4⟩
   ·exact .inr (by omega)
theorem PsI.one {N d:Nat} {ps:List Nat} (h:PsI N d ps) (hl:LfI N 1 d):ps.Pairwise (· < ·)/\Prs N ps:=by
 refine⟨h.1,h.1.imp (fun h=>Nat.ne_of_lt h),fun q=>?_⟩;rw[h.2 q];refine⟨fun h=>⟨h.1,h.2.1⟩,fun⟨h1,h2⟩=>⟨h1,h2,?_⟩⟩;rcases Nat.lt_or_ge q d with h4|h4
 ·exact h4
 ·exact absurd ((hl.pr q h1).2 ⟨h2,h4⟩) h1.not_one
theorem PsI.last {N v d:Nat} {ps:List Nat} (h:PsI N d ps) (hl:LfI N v d) (hp:Pri v):(ps++[v]).Pairwise (· < ·)/\Prs N (ps++[v]):=by
 have hv:=(hl.pr v hp).1 (Nat.dvd_refl v)
 have aA:(ps++[v]).Pairwise (· < ·):=List.pairwise_append.2 ⟨h.1,List.pairwise_singleton _ _,fun a ha b hb=>by
  rw[List.mem_singleton] at hb;subst hb;have:=((h.2 a).1 ha).2.2;omega⟩
 refine⟨aA,aA.imp (fun h=>Nat.ne_of_lt h),fun q=>?_⟩;rw[List.mem_append,h.2 q,List.mem_singleton];constructor
 ·rintro (⟨h1,h2,-⟩|rfl)
  ·exact⟨h1,h2⟩
  ·exact⟨hp,hv.1⟩
 ·rintro⟨h1,h2⟩;rcases Nat.lt_or_ge q d with h4|h4
  ·exact .inl ⟨h1,h2,h4⟩
  ·exact .inr (h1.eq hp ((hl.pr q h1).2 ⟨h2,h4⟩))
structure FqI (N v d out:Nat):Prop where
 sq:SqF out
 o1:1<=out
 eq:∃ k,1<=k/\N=out*v*(k*k)
 lt:∀ q,Pri q->q∣out->q<d
theorem FqI.start (N:Nat):FqI N N 2 1:=⟨SqF.one,Nat.le_refl _,⟨1,Nat.le_refl _,by simp⟩,fun q hq hd=>absurd hd hq.not_one⟩
theorem FqI.skip {N v d out:Nat} (h:FqI N v d out):FqI N v (d+1) out:=⟨h.sq,h.o1,h.eq,fun q hq hd=>Nat.lt_succ_of_lt (h.lt q hq hd)⟩
theorem FqI.take {N v d j v' out:Nat} (h:FqI N v d out) (hp:Pri d) (e:v=d ^ j*v'):FqI N v' (d+1) (if j%2=1 then out*d else out):=by
 obtain⟨k,hk,hN⟩:=h.eq;have aC:1<=d:=by have:=hp.1;omega
 have aB:∀ n,1<=d ^ n:=fun n=>Nat.one_le_pow _ _ aC;by_cases hj:j%2=1
 ·rw[if_pos hj];have aA:Nat.Coprime out d:=(hp.cop (fun hd=>by have:=h.lt d hp hd;omega)).symm;refine⟨h.sq.mul (SqF.pri hp) aA,Nat.mul_pos h.o1 aC,⟨k*d ^ (j/2),Nat.mul_pos hk (aB _),?_⟩,fun q hq hd=>?_⟩
  ·have ej:j=2*(j/2)+1:=by omega
   rw[hN,e];conv=>lhs;rw[ej,Nat.pow_succ,Nat.two_mul,Nat.pow_add]
   simp only[Nat.mul_assoc,Nat.mul_left_comm,Nat.mul_comm]
  ·rcases hq.dvd_mul hd with h1|h1
   ·exact Nat.lt_succ_of_lt (h.lt q hq h1)
   ·have:=hq.eq hp h1;omega
 ·rw[if_neg hj];refine⟨h.sq,h.o1,⟨k*d ^ (j/2),Nat.mul_pos hk (aB _),?_⟩,fun q hq hd=>Nat.lt_succ_of_lt (h.lt q hq hd)⟩;have ej:j=2*(j/2):=by omega
  rw[hN,e];conv=>lhs;rw[ej,Nat.two_mul,Nat.pow_add]
  simp only[Nat.mul_assoc,Nat.mul_left_comm,Nat.mul_comm]
theorem FqI.done {N v d out:Nat} (h:FqI N v d out) (hl:LfI N v d) (hs:v<d*d):Sqc N (out*v):=by
 obtain⟨k,hk,hN⟩:=h.eq;refine⟨?_,Nat.mul_pos h.o1 hl.v1,k,hk,hN⟩;by_cases e:v=1
 ·subst e;rw[Nat.mul_one];exact h.sq
 ·have hp:=hl.last hs e;have hd:=((hl.pr v hp).1 (Nat.dvd_refl v)).2;exact h.sq.mul (SqF.pri hp) (hp.cop (fun hv=>by have:=h.lt v hp hv;omega)).symm
open Go.RowKit
attribute [local go_sem ↓] Go.wp_at_zero Go.wp_at_succ
theorem Qk2 (a b:Nat):(a:Int).tdiv (b:Int)=((a/b:Nat):Int):=by rw[Int.tdiv_eq_ediv_of_nonneg (by omega)];rfl
theorem LfI.next {N v d j u:Nat} (h:LfI N v d) (e:v=d ^ j*u) (hn:¬ d∣u):LfI N u (d+1):=by
 by_cases hd:d∣v
 ·by_cases hj:j=0
  ·subst hj;rw[Nat.pow_zero,Nat.one_mul] at e;exact absurd (e▸hd) hn
  ·exact h.take hd (by omega) e hn
 ·by_cases hj:j=0
  ·subst hj;rw[Nat.pow_zero,Nat.one_mul] at e;exact e▸h.skip hd
  ·refine absurd ⟨d ^ (j-1)*u,?_⟩ hd;rw[e,<- Nat.mul_assoc,<- Nat.pow_succ',show (j-1).succ=j by omega]
theorem FqI.next {N v d j u out:Nat} (h:FqI N v d out) (hl:LfI N v d) (e:v=d ^ j*u):FqI N u (d+1) (if j%2=1 then out*d else out):=by
 by_cases hd:d∣v
 ·exact h.take (hl.pri hd) e
 ·by_cases hj:j=0
  ·subst hj;rw[Nat.pow_zero,Nat.one_mul] at e;rw[if_neg (by decide)];exact e▸h.skip
  ·refine absurd ⟨d ^ (j-1)*u,?_⟩ hd;rw[e,<- Nat.mul_assoc,<- Nat.pow_succ',show (j-1).succ=j by omega]
theorem So.m1 {w:World} {base g:Nat} {x:Int} (hg:w.heap[g]? = some (.cells #[.int .i64 x] 2 (0,0))) (hb:base<=g):So e64 w base (.slice (some ⟨g,0,none⟩) 1 1) [x]:=by
 refine So.ofCells (E:=e64) (l:=[x]) hg hb (by show 1<=maxLen;decide) rfl (fun i hi=>?_) (fun u hU=>?_)
 ·have:i=0:=by simpa using hi
  subst this
  exact⟨[.int .i64 x],rfl,fun j u e=>by
   rcases j with _|j
   ·exact e
   ·simp at e⟩
 ·simp only[List.mem_cons,List.not_mem_nil,or_false] at hU;subst hU;rfl
theorem QjJ {N d:Nat} {ps:List Nat} (h:PsI N d ps):ps.length<=d:=by
 have:=Qaa (l:=ps) (m:=List.range d) (h.1.imp (fun h=>Nat.ne_of_lt h)) (fun x hx=>List.mem_range.2 ((h.2 x).1 hx).2.2);rwa [List.length_range] at this
theorem Qdz (va:Value) (x:Int) (w:World) (hx:It w va x) (h0:x≠0) (hlt:x.natAbs<1099511627776) :
  Calls Tryz.prog 36 #[va] w fun e w'=>∃ v ps,e=.returned v/\So e64 w' w.heap.size v (zI ps)/\ps.Pairwise (· < ·)/\Prs x.natAbs ps/\Below w.heap.size w w':=by
 have a9:=QbF hlt;obtain⟨W,s1,a1,n1,c1,rfl,hW,b,vX,-,p0,p1,aR⟩:=QfO w hx;clear hx;go_enter Tryz.func36,Tryz.ntmps36
 go_upto_region 1 with fail;rw[<- hW];clear hW vX;go_wp2_with fail;refine mn (Jv _ x W aR (by omega)) fun v w1 hv hb=>?_;replace b:=Bl.up b hb;clear hb p0 p1 aR;obtain⟨N,hN⟩:∃ N,x.natAbs=N:=⟨_,rfl⟩;rw[hN] at hlt hv;have aT:1<=N:=by omega
 go_wp2_with fail;refine mz (Qcd _ N w1 hv hlt) fun w2 hb=>?_;replace b:=Bl.up b hb;clear hb hv;have aJ:=Qh (So.lit0 e64 w2 (base:=w2.heap.size) (Nat.le_refl _));have aL:=Qh (Qa w2 (.cells #[] 2));have HB:=Qh b;clear b;go_upto_region 3 with fail;have aJ:Hid (So e64 (w2.alloc (.cells #[] 2)) w2.heap.size (.slice (some ⟨w2.heap.size,0,none⟩) 0 0) (zI [])):=aJ;have aL:Hid (Below w2.heap.size w2 (w2.alloc (.cells #[] 2))):=aL;generalize w2.alloc (.cells #[] 2)=w3 at *;go_wp2_with fail
 go_loopw [3,5,6] (fun s3 s5 s6 wr=>∃ (v d:Nat) (ps:List Nat),s3=.int .i64 (v:Int)/\s6=.int .i64 (d:Int)/\1<=v/\v<=N/\2<=d/\d<=1048577/\Hid (LfI N v d)/\Hid (PsI N d ps)/\Hid (So e64 wr w2.heap.size s5 (zI ps))/\Hid (Below w2.heap.size w2 wr))
  (fun _ _ s6 _=>2000000-(intOf s6).toNat)
 case atStart=>exact⟨N,2,[],rfl,rfl,aT,Nat.le_refl _,Nat.le_refl _,by decide,Qh (LfI.start aT),Qh (PsI.start N),aJ,aL⟩
 case round=>
  clear aJ aL;obtain⟨v,d,ps,rfl,rfl,aV,a7,aZ,aS,HL,HP,HS,aC⟩:=hrel;obtain⟨q,hq⟩:∃ q,d*d=q:=⟨_,rfl⟩;have bA:(d:Int)*(d:Int)=(q:Int):=by rw[<- hq];simp
  have bB:q<=1099513724929:=by rw[<- hq];exact Nat.mul_le_mul aS aS
  have HQ:=Qh hq;have aM:=QjJ HP.out;have aO:(zI ps).length+1<=1099511627776:=by rw[Jg];omega
  by_cases hle:q<=v
  ·have c0:(q:Int)<=(v:Int):=by omega
   have bC:d<=1048576:=by
    rcases Nat.lt_or_ge 1048576 d with h|h
    ·have:=Nat.mul_le_mul (show 1048577<=d from h) (show 1048577<=d from h);rw[hq] at this;omega
    ·exact h
   have bE:¬ (d:Int)=0:=by omega
   have e1:=Qb5 v d;obtain⟨r,hr⟩:∃ r,v%d=r:=⟨_,rfl⟩;rw[hr] at e1;have HR:=Qh hr;clear hq hr hle;by_cases hdv:d∣v
   case' pos=>
    have r0:r=0:=by rw[<- HR.out];exact Nat.mod_eq_zero_of_dvd hdv
    subst r0;have aU:=Qh (HP.out.take HL.out hdv);clear hdv;have bn:=Qa wr (.cells #[.int .i64 (d:Int)] 2);have aE:=(So.m1 (base:=0) (x:=(d:Int)) (Zk1 wr (.cells #[.int .i64 (d:Int)] 2)) (Nat.zero_le _)).sc;have aD:=HS.out.up bn;have aB:=Qh (Bl.up aC.out bn);have aF:=aB.out.size;clear bn HS aC;go_upto_region 8 with (at_builtin;go_must (refine YX (E:=e64) rfl (.tmp 25) (.tmp 27) _ rfl Tryz.underlying70 w2.heap.size _ (zI ps) [(d:Int)] rfl aD aF _ 0 1 1 rfl rfl aE (by decide) aO ?_);intro g' aA w7 aH aG aP);have aK:=Qh (ButS.below aB.out aG aB.out.size (fun g hg=>(aD.lt g hg).1));have aI:=Qh (show So e64 w7 w2.heap.size (.slice (some ⟨g',0,none⟩) ((zI ps).length+1) aA) (zI (ps++[d])) by rw[Jt];exact aH);clear aH aG aP aE aD aB aF;generalize (Value.slice (some ⟨g',0,none⟩) ((zI ps).length+1) aA)=vs at *;generalize ps++[d]=ps2 at *
   case' neg=>
    have r0:¬ r=0:=by rw[<- HR.out];exact fun h=>hdv (Nat.dvd_of_mod_eq_zero h)
    have aU:=Qh (HP.out.skip HL.out hdv);have aI:=HS;have aK:=aC;clear hdv HS aC;go_upto_region 8 with fail;generalize wr=w7 at *;generalize u5=vs at *;generalize ps=ps2 at *
   all_goals
    clear e1 HR aO aM
    go_loopw [3] (fun s3 wy=>∃ (u j:Nat),s3=.int .i64 (u:Int)/\1<=u/\u<=v/\Hid (v=d ^ j*u)/\wy=w7)
     (fun s3 _=>(intOf s3).toNat)
    case atStart=>exact⟨v,0,rfl,aV,Nat.le_refl _,Qh (by rw[Nat.pow_zero,Nat.one_mul]),rfl⟩
    case round=>
     obtain⟨u,j,rfl,aW,a8,HE,rfl⟩:=hrel;have e1:=Qb5 u d;have e2:=Qk2 u d;obtain⟨r,hr⟩:∃ r,u%d=r:=⟨_,rfl⟩;obtain⟨t,ht⟩:∃ t,u/d=t:=⟨_,rfl⟩;rw[hr] at e1;rw[ht] at e2;have HR:=Qh (And.intro hr ht);clear hr ht;by_cases hr0:r=0
     ·subst hr0;have aY:d∣u:=Nat.dvd_of_mod_eq_zero HR.out.1;obtain⟨c,hc⟩:=aY;have aX:t=c:=by rw[<- HR.out.2,hc];exact Nat.mul_div_cancel_left c (by omega)
      have a0:1<=c/\c<u:=by
       constructor
       ·exact Nat.pos_of_ne_zero fun e=>by rw[e,Nat.mul_zero] at hc;omega
       ·have h5:=Nat.mul_le_mul_right c aZ;have h6:1<=c:=Nat.pos_of_ne_zero fun e=>by rw[e,Nat.mul_zero] at hc;omega
        omega
      have a5:=Qh (show v=d ^ (j+1)*c by rw[HE.out,hc,Nat.pow_succ,Nat.mul_assoc]);subst aX;obtain⟨a2,bD⟩:=a0;clear hc HR HE;go_wp2_with fail;refine⟨⟨t,j+1,rfl,a2,by omega,a5,by first|rfl|trivial⟩,by simp[intOf];omega⟩
     ·have a4:=Qh (HL.out.next HE.out (fun h=>hr0 (by rw[<- HR.out.1];exact Nat.mod_eq_zero_of_dvd h)));clear HR HE;go_wp2_with fail;refine⟨⟨u,d+1,ps2,rfl,by go_num,aW,by omega,by omega,by omega,a4,aU,aI,aK⟩,by simp[intOf];omega⟩
  ·have c0:¬ (q:Int)<=(v:Int):=by omega
   have a3:=Qh (show v<d*d by rw[HQ.out];omega);clear hq hle;by_cases hv2:v=1
   ·have c1:¬ (v:Int)>1:=by omega
    have HD:=Qh (HP.out.one (hv2▸HL.out));have a6:=Qh (Bl.up HB.out aC.out);have aQ:=Qh (HS.out.base HB.out.size);clear hv2 HB aC HS;go_wp2_with fail;go_ret
    exact⟨_,rfl,ps,aQ.out,HD.out.1,HD.out.2,a6.out⟩
   ·have c1:(v:Int)>1:=by omega
    have HD:=Qh (HP.out.last HL.out (HL.out.last a3.out hv2));have bn:=Qa wr (.cells #[.int .i64 (v:Int)] 2);have aE:=(So.m1 (base:=0) (x:=(v:Int)) (Zk1 wr (.cells #[.int .i64 (v:Int)] 2)) (Nat.zero_le _)).sc;have aD:=HS.out.up bn;have aB:=Qh (Bl.up aC.out bn);have aF:=aB.out.size;clear bn HS aC hv2;go_wp2_with (at_builtin;go_must (refine YX (E:=e64) rfl (.tmp 38) (.tmp 40) _ rfl Tryz.underlying70 w2.heap.size _ (zI ps) [(v:Int)] rfl aD aF _ 0 1 1 rfl rfl aE (by decide) aO ?_);intro g' aA w7 aH aG aP)
    have aK:=Qh (Bl.up HB.out (ButS.below aB.out aG aB.out.size (fun g hg=>(aD.lt g hg).1)));have aI:=Qh (show So e64 w7 w2.heap.size (.slice (some ⟨g',0,none⟩) ((zI ps).length+1) aA) (zI (ps++[v])) by rw[Jt];exact aH);have aQ:=Qh (aI.out.base HB.out.size);clear aH aG aP aE aD aB aF HB aI;go_wp2_with fail;go_ret
    exact⟨_,rfl,ps++[v],aQ.out,HD.out.1,HD.out.2,aK.out⟩
theorem Qkl (j:Nat):(!decide (j%2=1))=decide ((j+1)%2=1):=by
 by_cases h:j%2=1
 ·rw[decide_eq_true h,decide_eq_false (by omega)];rfl
 ·rw[decide_eq_false h,decide_eq_true (by omega)];rfl
theorem FqI.le {N v d out:Nat} (h:FqI N v d out) (hv:1<=v):out*v<=N/\out<=N:=by
 obtain⟨k,hk,e⟩:=h.eq;have h1:1<=k*k:=Nat.mul_pos hk hk;have h2:out*v<=N:=by rw[e];exact Nat.le_mul_of_pos_right _ h1
 exact⟨h2,Qt (Nat.le_mul_of_pos_right _ hv) h2⟩
theorem QiT {x:Int} {f:Nat} (h0:x≠0) (h:Sqc x.natAbs f):FrZ x (Qg x 0*(f:Int)):=by
 have h1:=h.2.1;rcases Int.lt_or_gt_of_ne h0 with hx|hx
 ·rw[QF hx];refine⟨by rw[show (-1*(f:Int)).natAbs=f by omega];exact h,⟨fun h=>by omega,fun h=>by omega⟩,by omega⟩
 ·rw[QL hx];refine⟨by rw[show (1*(f:Int)).natAbs=f by omega];exact h,⟨fun h=>by omega,fun h=>hx⟩,by omega⟩
theorem QbH (va:Value) (x:Int) (w:World) (hx:It w va x) (h0:x≠0) (hlt:x.natAbs<1099511627776) :
  Calls Tryz.prog 31 #[va] w fun e w'=>∃ v f,e=.returned v/\It w' v f/\FrZ x f/\Below w.heap.size w w':=by
 have a5:=QbF hlt;obtain⟨s1,a1,n1,k1,rfl⟩:=hx.shape;have b0:=Qa w (Qma 33 s1 a1 n1 k1);have b1:=Qa (w.alloc (Qma 33 s1 a1 n1 k1)) (Qma 33 false none 0 0);have d0:=Zk1 w (Qma 33 s1 a1 n1 k1);have d1:=Zk1 (w.alloc (Qma 33 s1 a1 n1 k1)) (Qma 33 false none 0 0);rw[show (w.alloc (Qma 33 s1 a1 n1 k1)).heap.size=w.heap.size+1 by simp only[Zk2]] at d1;have kF:Kp fun w'=>w'.heap[w.heap.size]? = some (Qma 33 s1 a1 n1 k1)/\w'.heap[w.heap.size+1]? = some (Qma 33 false none 0 0)/\It w' (Qme s1 a1 n1 k1) x/\Below w.heap.size w w':=kpf;have HF:=Qh (And.intro ((Kp.blk _ _).up d0 b1) (And.intro d1 (And.intro (hx.up (Bl.up b0 b1)) (Bl.up b0 b1))));clear hx b0 b1 d0 d1;go_enter Tryz.func31,Tryz.ntmps31
 go_upto_region 1 with fail;generalize (w.alloc (Qma 33 s1 a1 n1 k1)).alloc (Qma 33 false none 0 0)=W at *;obtain⟨p0,p1⟩:=Qz HF.out.1;go_wp2_with fail;refine mn (Jv _ x W HF.out.2.2.1 (by omega)) fun v w1 hv hb=>?_;replace HF:=hu hb HF;clear hb p0 p1;obtain⟨N,hN⟩:∃ N,x.natAbs=N:=⟨_,rfl⟩;rw[hN] at hlt hv;have HN:=Qh hN;have aP:1<=N:=by omega
 clear hN;go_wp2_with fail;refine mz (Qcd _ N w1 hv hlt) fun w2 hb=>?_;replace HF:=hu hb HF;clear hb hv;go_wp2_with fail
 go_loopw [3,5,6,7] (fun s3 s5 s6 _ wr=>∃ (v d out:Nat),s3=.int .i64 (v:Int)/\s5=.int .i64 (out:Int)/\s6=.int .i64 (d:Int)/\1<=v/\v<=N/\2<=d/\d<=1048577/\Hid (LfI N v d)/\Hid (FqI N v d out)/\wr=w2)
  (fun _ _ s6 _ _=>2000000-(intOf s6).toNat)
 case atStart=>exact⟨N,2,1,rfl,rfl,rfl,aP,Nat.le_refl _,Nat.le_refl _,by decide,Qh (LfI.start aP),Qh (FqI.start N),rfl⟩
 case round=>
  obtain⟨v,d,out,rfl,rfl,rfl,aI,a3,aX,aL,HL,HP,rfl⟩:=hrel;obtain⟨q,hq⟩:∃ q,d*d=q:=⟨_,rfl⟩;have a9:(d:Int)*(d:Int)=(q:Int):=by rw[<- hq];simp
  have bA:q<=1099513724929:=by rw[<- hq];exact Nat.mul_le_mul aL aL
  have HQ:=Qh hq;obtain⟨aJ,bC⟩:=HP.out.le aI;by_cases hle:q<=v
  ·have c0:(q:Int)<=(v:Int):=by omega
   have bE:d<=1048576:=by
    rcases Nat.lt_or_ge 1048576 d with h|h
    ·have:=Nat.mul_le_mul (show 1048577<=d from h) (show 1048577<=d from h);rw[hq] at this;omega
    ·exact h
   have bG:¬ (d:Int)=0:=by omega
   clear hq hle aJ;go_wp2_with fail
   go_loopw [3,7] (fun s3 s7 wy=>∃ (u j:Nat),s3=.int .i64 (u:Int)/\s7=.bool (decide (j%2=1))/\1<=u/\u<=v/\Hid (v=d ^ j*u)/\wy=wr)
    (fun s3 _ _=>(intOf s3).toNat)
   case atStart=>exact⟨v,0,rfl,rfl,aI,Nat.le_refl _,Qh (by rw[Nat.pow_zero,Nat.one_mul]),rfl⟩
   case round=>
    obtain⟨u,j,rfl,rfl,aC,a4,HE,rfl⟩:=hrel;have e1:=Qb5 u d;have e2:=Qk2 u d;obtain⟨r,hr⟩:∃ r,u%d=r:=⟨_,rfl⟩;obtain⟨t,ht⟩:∃ t,u/d=t:=⟨_,rfl⟩;rw[hr] at e1;rw[ht] at e2;have HR:=Qh (And.intro hr ht);clear hr ht;by_cases hr0:r=0
    ·subst hr0;have aW:d∣u:=Nat.dvd_of_mod_eq_zero HR.out.1;obtain⟨c,hc⟩:=aW;have aU:t=c:=by rw[<- HR.out.2,hc];exact Nat.mul_div_cancel_left c (by omega)
     have aY:1<=c/\c<u:=by
      constructor
      ·exact Nat.pos_of_ne_zero fun e=>by rw[e,Nat.mul_zero] at hc;omega
      ·have h5:=Nat.mul_le_mul_right c aX;have h6:1<=c:=Nat.pos_of_ne_zero fun e=>by rw[e,Nat.mul_zero] at hc;omega
       omega
     have a2:=Qh (show v=d ^ (j+1)*c by rw[HE.out,hc,Nat.pow_succ,Nat.mul_assoc]);subst aU;obtain⟨aZ,bF⟩:=aY;have aR:=Qh (Qkl j);obtain⟨bb,aO⟩:∃ b,decide (j%2=1)=b:=⟨_,rfl⟩;rw[aO] at aR |-;clear hc HR HE aO;go_wp2_with fail;refine⟨⟨t,j+1,rfl,by rw[aR.out],aZ,by omega,a2,by first|rfl|trivial⟩,by simp[intOf];omega⟩
    ·have aK:¬ d∣u:=fun h=>hr0 (by rw[<- HR.out.1];exact Nat.mod_eq_zero_of_dvd h);have aS:=Qh (HL.out.next HE.out aK);have aA:=HP.out.next HL.out HE.out;clear HR HE aK;by_cases hj:j%2=1
     ·rw[if_pos hj] at aA;rw[decide_eq_true hj];have aV:=(aA.le aC).2;obtain⟨o2,aD⟩:∃ o,out*d=o:=⟨_,rfl⟩;rw[aD] at aA aV;have bB:(out:Int)*(d:Int)=(o2:Int):=by rw[<- aD];simp
      have aE:=Qh aA;clear hj aA aD;go_wp2_with fail;refine⟨⟨u,d+1,o2,rfl,rfl,by go_num,aC,by omega,by omega,by omega,aS,aE,by first|rfl|trivial⟩,by simp[intOf];omega⟩
     ·rw[if_neg hj] at aA;rw[decide_eq_false hj];have aE:=Qh aA;clear hj aA;go_wp2_with fail;refine⟨⟨u,d+1,out,rfl,rfl,by go_num,aC,by omega,by omega,by omega,aS,aE,by first|rfl|trivial⟩,by simp[intOf];omega⟩
  ·have c0:¬ (q:Int)<=(v:Int):=by omega
   have aQ:=Qh (show Sqc N (out*v) from HP.out.done HL.out (by rw[HQ.out];omega));obtain⟨f,hf⟩:∃ f,out*v=f:=⟨_,rfl⟩;have bD:(out:Int)*(v:Int)=(f:Int):=by rw[<- hf];simp
   rw[hf] at aQ aJ;have aT:=Qh (show FrZ x (Qg x 0*(f:Int)) from QiT h0 (by rw[HN.out];exact aQ.out));clear hq hle hf;obtain⟨p0,p1⟩:=Qz HF.out.1;go_wp2_with fail;refine mz (QZ _ x wr HF.out.2.2.1) fun w3 hb=>?_;replace HF:=hu hb HF;obtain⟨g1,g2⟩:=YB x 0;obtain⟨cc,aM⟩:∃ c,Qg x 0=c:=⟨_,rfl⟩;rw[aM] at g1 g2 aT |-;have a8:sz cc<=2:=QbF (by omega);have a7:sz (f:Int)<=2:=QbF (by omega);clear hb p0 p1 aM;go_wp2_with fail;refine(Qm cc w3 (by omega) (by omega)).mono ?_;rintro e w4 ⟨v4,rfl,aH,hb⟩;replace HF:=hu hb HF;have H4:=Qh aH;clear hb aH;go_wp2_with fail;refine(Qm (f:Int) w4 (by omega) (by omega)).mono ?_;rintro e w5 ⟨v5,rfl,aG,hb⟩;replace HF:=hu hb HF;replace H4:=hu hb H4;have H5:=Qh aG;clear hb aG;go_wp2_with fail;refine(QI _ _ cc (f:Int) w5 H4.out H5.out (by omega) (by omega)).mono ?_;rintro e w6 ⟨v6,rfl,aB,hb⟩;obtain⟨s6,a6,n6,k6,rfl⟩:=aB.shape;replace HF:=hu hb HF;have H6:=Qh aB;clear hb aB H4 H5;have aF:=Qh HF.out.2.1;obtain⟨z0,z1⟩:=Qz aF.out;obtain⟨y0,y1⟩:=Qfo aF.out;go_wp2_with fail;have a0:=(ButS.set w6 (w.heap.size+1) 0 (.bool s6)).trans (ButS.set _ (w.heap.size+1) 1 (.slice a6 n6 k6));exact Q5 (B:=w.heap.size+1) rfl rfl rfl (Vx.put (Qkw aF.out) H6.out) (fun v hv=>⟨v,_,rfl,hv,aT.out,ButS.below HF.out.2.2.2 a0 HF.out.2.2.2.size (fun g e=>by omega)⟩)
