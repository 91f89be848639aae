/-
  nat.div: the product of the guess is taken away.
-/
import Derived.Shelf.Small.Bits
import Derived.Shelf.Small.Wraps
import Derived.Lib.ItoaNum
import Derived.Test.YteidokhjmbihlaaGreatFA
import Derived.Test.YteidokhjmbihlaaGreatProg
set_option linter.all false
set_option maxHeartbeats 4000000
namespace Go.Proofs.YteidokhjmbihlaaGreat
def W:Nat:=4294967296
def sh (f:Nat->Nat) (j:Nat):Nat->Nat:=fun i=>f (j+i)
theorem QiC (V X vt v2 vl first u2 xl g rest w qd P:Nat) (hV:V=(vt*w+v2)*P+vl) (hX:X=(first*w+u2)*P+xl) (hxl:xl<P)
  (hg:g*vt+rest=first) (hc:rest*w+u2<g*v2) (hq:qd*V<=X):qd<g:=by
 have h1:first*w+u2+1<=g*(vt*w+v2):=by
  rw[<- hg,Nat.add_mul,Nat.mul_add,Nat.mul_assoc];omega
 have h2:(first*w+u2+1)*P<=g*(vt*w+v2)*P:=Nat.mul_le_mul_right _ h1
 have h3:X<g*V:=by
  rw[hV,Nat.mul_add,<- Nat.mul_assoc,hX];rw[Nat.add_mul,Nat.one_mul] at h2;omega
 have h4:qd*V<g*V:=Nat.lt_of_le_of_lt hq h3;exact Nat.lt_of_mul_lt_mul_right h4
theorem QiT (V X vt v2 vl first u2 xl g rest w qd P:Nat) (hV:V=(vt*w+v2)*P+vl) (hX:X=(first*w+u2)*P+xl) (hvl:vl<P)
  (hg:g*vt+rest=first) (hc:g*v2<=rest*w+u2) (hgw:g<w) (hvt:0<vt) (hq:X<(qd+1)*V):g<=qd+1:=by
 have h1:g*(vt*w+v2)<=first*w+u2:=by
  rw[<- hg,Nat.add_mul,Nat.mul_add,Nat.mul_assoc];omega
 have h2:g*(vt*w+v2)*P<=(first*w+u2)*P:=Nat.mul_le_mul_right _ h1;have h3:g*vl<=w*P:=Nat.mul_le_mul (Nat.le_of_lt hgw) (Nat.le_of_lt hvl)
 have h4:w*P<=V:=by
  rw[hV,Nat.add_mul];have:1*(w*P)<=vt*(w*P):=Nat.mul_le_mul_right _ hvt;rw[Nat.one_mul,<- Nat.mul_assoc] at this;omega
 have h5:g*V<=X+V:=by
  have e:g*V=g*(vt*w+v2)*P+g*vl:=by rw[hV,Nat.mul_add,Nat.mul_assoc]
  rw[e,hX];rw[hX] at *;omega
 rcases Nat.lt_or_ge (qd+1) g with h|h
 ·have h6:(qd+2)*V<=g*V:=Nat.mul_le_mul_right _ h;have h7:(qd+2)*V=(qd+1)*V+V:=by rw[show qd+2=qd+1+1 from rfl,Nat.add_mul (qd+1),Nat.one_mul]
  omega
 ·exact h
theorem Qde (u' U0 v:Nat->Nat) (g i cn bn r q t:Nat) (ht:t=g*v i+cn) (hr:(r:Int)=(U0 i:Int)-(t%4294967296:Nat)-bn+q*4294967296)
  (e:nv u' i+g*nv v i=nv U0 i+(bn+cn)*4294967296 ^ i) :
  nv (upd u' i r) (i+1)+g*nv v (i+1)=nv U0 (i+1)+(q+t/4294967296)*4294967296 ^ (i+1):=by
 simp only[nv,QaZ,QbN _ _ _ (Nat.le_refl _),Nat.pow_succ];have hd:=Nat.div_add_mod t 4294967296;have aA:r+t%4294967296+bn=U0 i+q*4294967296:=by omega
 generalize t%4294967296=m at *;generalize t/4294967296=d at *;have e1:(r+m+bn)*4294967296 ^ i=(U0 i+q*4294967296)*4294967296 ^ i:=by rw[aA]
 have e2:(4294967296*d+m)*4294967296 ^ i=(g*v i+cn)*4294967296 ^ i:=by rw[hd,ht]
 have e3:(q+d)*(4294967296 ^ i*4294967296)=q*4294967296*4294967296 ^ i+4294967296*d*4294967296 ^ i:=by
  rw[Nat.add_mul];congr 1 <;> simp only[Nat.mul_assoc,Nat.mul_comm,Nat.mul_left_comm]
 rw[e3,Nat.mul_add,<- Nat.mul_assoc g];simp only[Nat.add_mul] at e1 e2 e;omega
theorem Qec (u' U0 v:Nat->Nat) (g n cn bn r q V:Nat) (hc:cn<4294967296) (hV:V=nv v n) (hr:(r:Int)=(U0 n:Int)-cn-bn+q*4294967296)
  (e:nv u' n+g*nv v n=nv U0 n+(bn+cn)*4294967296 ^ n) :
  nv (upd u' n r) (n+1)+g*V=nv U0 (n+1)+q*4294967296 ^ (n+1):=by
 simp only[nv,QaZ,QbN _ _ _ (Nat.le_refl _),Nat.pow_succ];have aA:r+cn+bn=U0 n+q*4294967296:=by omega
 have e1:(r+cn+bn)*4294967296 ^ n=(U0 n+q*4294967296)*4294967296 ^ n:=by rw[aA]
 have e3:q*(4294967296 ^ n*4294967296)=q*4294967296*4294967296 ^ n:=by simp only[Nat.mul_assoc,Nat.mul_comm,Nat.mul_left_comm]
 rw[e3,hV];simp only[Nat.add_mul] at e1 e;omega
theorem Qdf (u' U0 v:Nat->Nat) (i c r q:Nat) (hr:r+q*4294967296=U0 i+v i+c) (e:nv u' i+c*4294967296 ^ i=nv U0 i+nv v i) :
  nv (upd u' i r) (i+1)+q*4294967296 ^ (i+1)=nv U0 (i+1)+nv v (i+1):=by
 simp only[nv,QaZ,QbN _ _ _ (Nat.le_refl _),Nat.pow_succ];have e1:(r+q*4294967296)*4294967296 ^ i=(U0 i+v i+c)*4294967296 ^ i:=by rw[hr]
 have e3:q*(4294967296 ^ i*4294967296)=q*4294967296*4294967296 ^ i:=by simp only[Nat.mul_assoc,Nat.mul_comm,Nat.mul_left_comm]
 rw[e3];simp only[Nat.add_mul] at e1;omega
theorem QdS (u' U0:Nat->Nat) (n c V:Nat) (hc:c<=1) (hU:U0 n<4294967296) (e:nv u' n+c*4294967296 ^ n=nv U0 n+V) :
  ∃ k,nv (upd u' n ((U0 n+c)%4294967296)) (n+1)+k*4294967296 ^ (n+1)=nv U0 (n+1)+V:=by
 refine⟨(U0 n+c)/4294967296,?_⟩;simp only[nv,QaZ,QbN _ _ _ (Nat.le_refl _),Nat.pow_succ];have hd:=Nat.div_add_mod (U0 n+c) 4294967296;generalize (U0 n+c)/4294967296=q at *;generalize (U0 n+c)%4294967296=m at *;have e1:(4294967296*q+m)*4294967296 ^ n=(U0 n+c)*4294967296 ^ n:=by rw[hd]
 have e3:q*(4294967296 ^ n*4294967296)=4294967296*q*4294967296 ^ n:=by simp only[Nat.mul_assoc,Nat.mul_comm,Nat.mul_left_comm]
 rw[e3];simp only[Nat.add_mul] at e1;omega
theorem QeU (X V g Y:Nat) (hV:0<V) (e:Y+g*V=X) (hg:X/V<=g):g=X/V/\Y=X%V:=by
 have h1:g<=X/V:=(Nat.le_div_iff_mul_le hV).2 (by omega);have h2:g=X/V:=Nat.le_antisymm h1 hg;refine⟨h2,?_⟩;have h3:=Nat.div_add_mod X V;rw[<- h2,Nat.mul_comm] at h3;omega
theorem Qgb (X V g Y Z M k:Nat) (hV:0<V) (hVM:V<=M) (hY:Y<M) (hZ:Z<M) (e:Y+g*V=X+M) (hg:g<=X/V+1) (e2:Z+k*M=Y+V):g=X/V+1/\Z=X%V:=by
 have h3:=Nat.div_add_mod X V;have h4:=Nat.mod_lt X hV
 have h5:g=X/V+1:=by
  rcases Nat.lt_or_ge g (X/V+1) with h|h
  ·have:g*V<=X/V*V:=Nat.mul_le_mul_right _ (by omega);rw[Nat.mul_comm V] at h3;omega
  ·omega
 refine⟨h5,?_⟩;rw[h5,Nat.add_mul,Nat.one_mul] at e;rw[Nat.mul_comm V] at h3
 have hk:k=1:=by
  rcases Nat.lt_trichotomy k 1 with c|c|c
  ·obtain rfl:k=0:=by omega
   omega
  ·exact c
  ·have:2*M<=k*M:=Nat.mul_le_mul_right _ c;omega
 subst hk;omega
theorem QbO (f:Nat->Nat) (k i:Nat):sh f k i=f (k+i):=rfl
theorem QdC (u:Nat->Nat) (k n:Nat):nv (sh u k) (n+1)=u k+4294967296*nv (sh u (k+1)) n:=by
 rw[QhK];simp only[sh,Nat.add_zero];congr 2
 exact Qbg (fun i _=>by show u (k+(i+1))=u (k+1+i);congr 1;omega)
theorem QbA (u:Nat->Nat) (k n:Nat):nv u (k+n)=nv u k+4294967296 ^ k*nv (sh u k) n:=Qc8 u k n
theorem QfZ (u:Nat->Nat) (k i r:Nat):sh (upd u (k+i) r) k=upd (sh u k) i r:=by
 funext j
 unfold sh upd;by_cases h:j=i
 ·subst h;simp
 ·rw[if_neg (by omega),if_neg h]
theorem Qg0 {u:Nat->Nat} {k n N:Nat} (h:Wf u N) (hk:k+n<=N):Wf (sh u k) n:=fun i hi=>h (k+i) (by omega)
theorem Qk8 (u:Nat->Nat) (k n:Nat) (hn:2<=n):nv (sh u k) (n+1)=((u (k+n)*4294967296+u (k+n-1))*4294967296+u (k+n-2))*4294967296 ^ (n-2)+nv (sh u k) (n-2):=by
 obtain⟨m,rfl⟩:=Nat.exists_eq_add_of_le hn;rw[show 2+m+1=m+1+1+1 by omega,show 2+m-2=m by omega,show k+(2+m)-1=k+(m+1) by omega,show k+(2+m)-2=k+m by omega,show k+(2+m)=k+(m+1+1) by omega];simp only[nv,sh,Nat.pow_succ,Nat.add_mul];have e1:u (k+(m+1+1))*(4294967296 ^ m*4294967296*4294967296)=u (k+(m+1+1))*4294967296*4294967296*4294967296 ^ m:=by simp only[Nat.mul_assoc,Nat.mul_comm,Nat.mul_left_comm]
 have e2:u (k+(m+1))*(4294967296 ^ m*4294967296)=u (k+(m+1))*4294967296*4294967296 ^ m:=by simp only[Nat.mul_assoc,Nat.mul_comm,Nat.mul_left_comm]
 rw[e1,e2];omega
theorem QkX (v:Nat->Nat) (n:Nat) (hn:2<=n):nv v n=(v (n-1)*4294967296+v (n-2))*4294967296 ^ (n-2)+nv v (n-2):=by
 obtain⟨m,rfl⟩:=Nat.exists_eq_add_of_le hn;rw[show 2+m-2=m by omega,show 2+m-1=m+1 by omega,show 2+m=m+1+1 by omega];simp only[nv,Nat.pow_succ,Nat.add_mul];have e2:v (m+1)*(4294967296 ^ m*4294967296)=v (m+1)*4294967296*4294967296 ^ m:=by simp only[Nat.mul_assoc,Nat.mul_comm,Nat.mul_left_comm]
 rw[e2];omega
theorem QhR (v:Nat->Nat) (n:Nat) (hn:2<=n) (hv:Wf v n) (h:2147483648*4294967296 ^ (n-1)<=nv v n):2147483648<=v (n-1):=by
 have h1:=Qbk (hv.mono (m:=n-1) (by omega))
 have e:nv v n=nv v (n-1)+v (n-1)*4294967296 ^ (n-1):=by
  rw[show n=n-1+1 by omega];rfl
 rcases Nat.lt_or_ge (v (n-1)) 2147483648 with c|c
 ·have:(v (n-1)+1)*4294967296 ^ (n-1)<=2147483648*4294967296 ^ (n-1):=Nat.mul_le_mul_right _ c;rw[Nat.add_mul,Nat.one_mul] at this;omega
 ·exact c
theorem QiF (u v:Nat->Nat) (k n:Nat) (hn:2<=n) (hu:u k<4294967296) (hv:Wf v n) (htop:nv (sh u (k+1)) n<nv v n) :
  u (k+n)*4294967296+u (k+n-1)<(v (n-1)+1)*4294967296:=by
 have hX:nv (sh u k) (n+1)<nv v n*4294967296:=by rw[QdC];omega
 rw[Qk8 u k n hn] at hX;have hV:=QkX v n hn;have h2:=hv (n-2) (by omega);have h3:=Qbk (hv.mono (m:=n-2) (by omega));generalize nv v (n-2)=vl at *;generalize 4294967296 ^ (n-2)=P at *;generalize nv (sh u k) (n-2)=xl at *;obtain⟨F,hF⟩:∃ F,F=u (k+n)*4294967296+u (k+n-1):=⟨_,rfl⟩;rw[<- hF] at hX |-
 have h4:nv v n<(v (n-1)+1)*4294967296*P:=by
  have h5:(v (n-2)+1)*P<=4294967296*P:=Nat.mul_le_mul_right _ h2;rw[hV];simp only[Nat.add_mul,Nat.one_mul] at h5 |-;omega
 have h6:F*4294967296*P<(v (n-1)+1)*4294967296*P*4294967296:=by
  have:F*4294967296*P<=(F*4294967296+u (k+n-2))*P+xl:=by rw[Nat.add_mul];omega
  omega
 clear hF
 have h7:F*(4294967296*P)<(v (n-1)+1)*4294967296*(4294967296*P):=by
  have e1:F*(4294967296*P)=F*4294967296*P:=by rw[Nat.mul_assoc]
  have e2:(v (n-1)+1)*4294967296*(4294967296*P)=(v (n-1)+1)*4294967296*P*4294967296:=by simp only[Nat.mul_assoc,Nat.mul_comm,Nat.mul_left_comm]
  omega
 exact Nat.lt_of_mul_lt_mul_right h7
theorem QiY (F vt g r:Nat) (hF:F<(vt+1)*4294967296) (hg:g*vt+r=F) (hr:4294967296<=r):g<4294967296:=by
 rcases Nat.lt_or_ge g 4294967296 with c|c
 ·exact c
 ·have:4294967296*vt<=g*vt:=Nat.mul_le_mul_right _ c;rw[Nat.add_mul] at hF;omega
theorem Qgg (F vt:Nat) (X V:Nat) (u v:Nat->Nat) (k n:Nat) (hn:2<=n) (hFe:F=u (k+n)*4294967296+u (k+n-1)) (hX:X=nv (sh u k) (n+1)) (hV:V=nv v n) (hvt:vt=v (n-1)) (h0:0<vt) (hu:Wf (sh u k) (n+1)) :
  X/V<=F/vt:=by
 have h1:=Qk8 u k n hn;have h2:=QkX v n hn;rw[Nat.le_div_iff_mul_le h0];have hx:=Qbk (hu.mono (m:=n-2) (by omega));have aA:u (k+n-2)<4294967296:=by have:=hu (n-2) (by omega);rw[QbO,show k+(n-2)=k+n-2 by omega] at this;exact this
 rw[<- hFe,<- hX] at h1;rw[<- hV,<- hvt] at h2;have h3:X/V*V<=X:=Nat.div_mul_le_self _ _;generalize X/V=q at *;generalize nv (sh u k) (n-2)=xl at *;generalize 4294967296 ^ (n-2)=P at *
 have h4:q*vt*(4294967296*P)<=q*V:=by
  rw[h2,Nat.mul_assoc];apply Nat.mul_le_mul_left
  rw[Nat.add_mul,Nat.mul_assoc];omega
 have h5:X<(F+1)*(4294967296*P):=by
  have:(u (k+n-2)+1)*P<=4294967296*P:=Nat.mul_le_mul_right _ aA;rw[h1];simp only[Nat.add_mul,Nat.one_mul,Nat.mul_assoc] at this |-;omega
 have h6:q*vt*(4294967296*P)<(F+1)*(4294967296*P):=by omega
 have:=Nat.lt_of_mul_lt_mul_right h6;omega
theorem Qez (A V:Nat) (q u u2:Nat->Nat) (k n N L qd:Nat) (hN:k+n+1<=N) (hL:k<L)
  (hlow:∀ j,j<k->u2 j=u j) (hhigh:∀ j,k+n<j->u2 j=u j) (hz:∀ i,k+1+n<=i->i<N->u i=0) (hV:V<4294967296 ^ n) (hV0:0<V)
  (hX:nv (sh u2 k) (n+1)=nv (sh u k) (n+1)%V) (hq:qd=nv (sh u k) (n+1)/V)
  (e:A=hv q (k+1) L*V*4294967296 ^ (k+1)+nv u N) :
  nv (sh u2 k) n<V/\(∀ i,k+n<=i->i<N->u2 i=0)/\A=hv (upd q k qd) k L*V*4294967296 ^ k+nv u2 N:=by
 have aC:nv (sh u2 k) (n+1)<V:=by rw[hX];exact Nat.mod_lt _ hV0
 have e1:nv (sh u2 k) (n+1)=nv (sh u2 k) n+u2 (k+n)*4294967296 ^ n:=rfl
 have aA:u2 (k+n)=0:=by
  rcases Nat.eq_zero_or_pos (u2 (k+n)) with c|c
  ·exact c
  ·have:1*4294967296 ^ n<=u2 (k+n)*4294967296 ^ n:=Nat.mul_le_mul_right _ c;omega
 refine⟨by omega,?_,?_⟩
 ·intro i h1 h2;by_cases c:i=k+n
  ·subst c;exact aA
  ·rw[hhigh i (by omega)];exact hz i (by omega) h2
 ·obtain⟨d,rfl⟩:=Nat.exists_eq_add_of_le hN
  have s1:nv u (k+n+1+d)=nv u k+4294967296 ^ k*nv (sh u k) (n+1):=by
   rw[QbA u (k+n+1) d,QbR (f:=sh u (k+n+1)) (n:=d) (fun i hi=>hz (k+n+1+i) (by omega) (by omega)),Nat.mul_zero,Nat.add_zero,show k+n+1=k+(n+1) by omega,QbA]
  have s2:nv u2 (k+n+1+d)=nv u k+4294967296 ^ k*nv (sh u2 k) (n+1):=by
   rw[QbA u2 (k+n+1) d,QbR (f:=sh u2 (k+n+1)) (n:=d) (fun i hi=>by rw[QbO,hhigh _ (by omega)];exact hz (k+n+1+i) (by omega) (by omega)),Nat.mul_zero,Nat.add_zero,show k+n+1=k+(n+1) by omega,QbA];rw[Qbg (f:=u2) (g:=u) hlow]
  rw[e,s1,s2,Qcy (upd q k qd) k L hL,QaZ,QdR (f:=upd q k qd) (g:=q) (fun j a b=>QaU _ _ _ _ (by omega)),hX,hq];have aB:=Nat.div_add_mod (nv (sh u k) (n+1)) V;generalize nv (sh u k) (n+1)=X at *;generalize hv q (k+1) L=Q at *;generalize X/V=qq at *;generalize X%V=r at *;rw[<- aB];rw[Nat.add_mul,Nat.add_mul,Nat.mul_add,Nat.pow_succ];have a1:Q*V*(4294967296 ^ k*4294967296)=4294967296*Q*V*4294967296 ^ k:=by simp only[Nat.mul_assoc,Nat.mul_comm,Nat.mul_left_comm]
  have a2:4294967296 ^ k*(V*qq)=qq*V*4294967296 ^ k:=by simp only[Nat.mul_assoc,Nat.mul_comm,Nat.mul_left_comm]
  rw[a1,a2];omega
end Go.Proofs.YteidokhjmbihlaaGreat
namespace Go.Proofs
open Go.Shelf
def Tryz.lays128_ren:Go.Shelf.Ren:=⟨fun|128=>210|n=>n,fun|51=>139|3=>3|4=>4|46=>100|5=>5|9=>9|n=>n,fun|n=>n⟩
theorem Tryz.lays128:Go.Proofs.Lays.n128 Tryz.prog Tryz.lays128_ren:={
 mixed:=by kernel_rfl
 f128:=Tryz.func210.trans (congrArg some (by kernel_rfl))
 t3:=Tryz.underlying3
 a3:=Tryz.isAgg3
 z3:=Tryz.sizeOf3
 v3:=Tryz.zeroValue3
 t4:=Tryz.underlying4
 a4:=Tryz.isAgg4
 z4:=Tryz.sizeOf4
 v4:=Tryz.zeroValue4
 t5:=Tryz.underlying5
 a5:=Tryz.isAgg5
 z5:=Tryz.sizeOf5
 v5:=Tryz.zeroValue5
 t9:=Tryz.underlying9
 a9:=Tryz.isAgg9
 z9:=Tryz.sizeOf9
 v9:=Tryz.zeroValue9
 t46:=Tryz.underlying100
 a46:=Tryz.isAgg100
 z46:=Tryz.sizeOf100
 v46:=Tryz.zeroValue100
 t51:=Tryz.underlying139
 a51:=Tryz.isAgg139
 z51:=Tryz.sizeOf139
 v51:=Tryz.zeroValue139 }
theorem Tryz.bits_Len32 (x:Int) (w:World) (h0:0<=x) (h1:x<=4294967295) :
  Calls Tryz.prog 210 #[.int .u32 x] w fun e w'=>e=.returned (.int .i64 (Lib.bitLen x.toNat))/\w'=w:=Any.bits_Len32 Tryz.lays128 x w h0 h1
def Tryz.lays133_ren:Go.Shelf.Ren:=⟨fun|133=>232|128=>210|n=>n,fun|51=>139|3=>3|4=>4|46=>100|5=>5|9=>9|n=>n,fun|n=>n⟩
theorem Tryz.lays133:Go.Proofs.Lays.n133 Tryz.prog Tryz.lays133_ren:={
 mixed:=by kernel_rfl
 f128:=Tryz.func210.trans (congrArg some (by kernel_rfl))
 f133:=Tryz.func232.trans (congrArg some (by kernel_rfl))
 t3:=Tryz.underlying3
 a3:=Tryz.isAgg3
 z3:=Tryz.sizeOf3
 v3:=Tryz.zeroValue3
 t4:=Tryz.underlying4
 a4:=Tryz.isAgg4
 z4:=Tryz.sizeOf4
 v4:=Tryz.zeroValue4
 t5:=Tryz.underlying5
 a5:=Tryz.isAgg5
 z5:=Tryz.sizeOf5
 v5:=Tryz.zeroValue5
 t9:=Tryz.underlying9
 a9:=Tryz.isAgg9
 z9:=Tryz.sizeOf9
 v9:=Tryz.zeroValue9
 t46:=Tryz.underlying100
 a46:=Tryz.isAgg100
 z46:=Tryz.sizeOf100
 v46:=Tryz.zeroValue100
 t51:=Tryz.underlying139
 a51:=Tryz.isAgg139
 z51:=Tryz.sizeOf139
 v51:=Tryz.zeroValue139 }
theorem Tryz.bits_LeadingZeros32 (x:Int) (w:World) (h0:0<=x) (h1:x<=4294967295) :
  Calls Tryz.prog 232 #[.int .u32 x] w fun e w'=>e=.returned (.int .i64 (32-(Lib.bitLen x.toNat:Int)))/\w'=w:=Any.bits_LeadingZeros32 Tryz.lays133 x w h0 h1
end Go.Proofs
namespace Go.Proofs.YteidokhjmbihlaaGreat
open Go.RowKit
theorem QkJ (x:Int) (X:Nat) (w:World) (hx:x=X) (h0:0<X) (h1:X<4294967296) :
  Calls Tryz.prog 232 #[.int .u32 x] w fun e w'=>∃ s:Nat,e=.returned (.int .i64 s)/\s<32/\2147483648<=X*2 ^ s/\X*2 ^ s<4294967296/\w=w':=by
 subst hx;refine(Tryz.bits_LeadingZeros32 (X:Int) w (by omega) (by omega)).mono ?_;rintro e w' ⟨rfl,rfl⟩;have hb:=Lib.bitLenAux_bounds 64 X (Nat.lt_of_lt_of_le h1 (by decide)) (by omega);have aA:=Lib.bitLen_le X 32 (by decide) h1;unfold Lib.bitLen at aA |-;rw[Int.toNat_natCast];generalize Lib.bitLenAux 64 X=b at *;obtain⟨b1,b2,b3⟩:=hb;have e1:2 ^ (b-1)*2 ^ (32-b)=2147483648:=by rw[<- Nat.pow_add,show b-1+(32-b)=31 by omega]
 have e2:2 ^ b*2 ^ (32-b)=4294967296:=by rw[<- Nat.pow_add,show b+(32-b)=32 by omega]
 refine⟨32-b,?_,by omega,?_,?_,rfl⟩
 ·have:((32-b:Nat):Int)=32-(b:Int):=by omega
  rw[this]
 ·rw[<- e1];exact Nat.mul_le_mul_right _ b2
 ·rw[<- e2];exact Nat.mul_lt_mul_of_pos_right b3 (Nat.pow_pos (by decide))
def Qj (id:Nat):Code->Option Code
 | .block j c=>if j=id then some (.block j c) else Qj id c
 | .loop c=>Qj id c
 | .seq a b => match Qj id a with
   | some c=>some c
   | none=>Qj id b
 | .scope c=>Qj id c
 | .cond _ a b => match Qj id a with
   | some c=>some c
   | none=>Qj id b
 | _=>none
noncomputable def divBlk (id:Nat):Code:=((Tryz.f212.body.bind (Qj id)).getD .skip)
theorem QfA {g r vt F:Nat} (h:g*vt+r=F) (hg:1<=g):(g-1)*vt+(r+vt)=F:=by
 obtain⟨m,rfl⟩:=Nat.exists_eq_add_of_le hg;rw[Nat.add_sub_cancel_left];rw[Nat.add_mul,Nat.one_mul] at h;omega
theorem QfP {g v2 r u2:Nat} (h2:v2<4294967296) (hg:g<4294967296) (hr:4294967296<=r):g*v2<=r*4294967296+u2:=by
 have h1:g*v2<=4294967295*4294967295:=Nat.mul_le_mul (by omega) (by omega);omega
set_option maxRecDepth 1000000 in
theorem Qhf {x0 x1 x2 x3 x4 x5 x6 x7 x8 x12 x17 x18 x19 x20 x21 x22 x23 x24 x25 x26 x27 x28 x29 x30 x31 x32 x33 x34 x35 x36 x37 x38 x39 x40 x41 x42 x43 x44 x45 x46 x47 x48 x49 x50 x51 x52 x53 x54 x55 x56 x57 x58 x59 x60 x61 x62 x63 x64 x65 x66 x67 x68 x69 x70 x71 x72 x73 x74 x75 x76 x77 x78 x79 x80 x81 x82 x83 x84 x85 x86 x87 x88 x89 x90 x91 x92 x93 x94 x95 x96 x97 x98 x99 x100 x101 x102 x103 x104 x105 x106 x107 x108 x109 x110 x111 x112 x113 x114 x115 x116 x117 x118 x119 x120 x121 x122 x123 x124 x125 x126 x127 x128 x129 x130 x131 x132 x133 x134 x135 x136 x137 x138 x139 x140 x141 x142 x143 x144 x145 x146 x147 x148 x149 x150 x151 x152 x153 x154 x155 x156 x157 x158 x159 x160 x161 x162 x163 x164 x165 x166 x167 x168 x169 x170 x171 x172 x173 x174 x175 x176 x177 x178 x179 x180 x181 x182 x183 x184 x185 x186 x187 x188 x189 x190 x191 x192 x193 x194 x195 x196 x197 x198 x199 x200 x201 x202 x203 x204 x205 x206 x207 x208 x209 x210 x211 x212 x213 x214 x215 x216 x217 x218 x219 x220 x221 x222 x223 x224 x225 x226 x227 x228 x229 x230 x231 x232 x233 x234 x235 x236 x237 x238 x239 x240 x241 x242 x243 x244 x245 x246 x247 x248 x249:Value} {bv ov cv gu lu nV k F g0 r0:Nat} {u v:Nat->Nat} {X V:Nat} {w:World} {K:Act->World->Prop} {Q:Exit->Act->World->Prop}
  (hm2:2<=nV) (hk:k+nV<lu) (hlu:lu<=4398046511104) (hou:Own w gu 139 lu (wv u)) (hwv:∀ i,i<nV->w.cell? ⟨bv,ov+i,none⟩=some (.int .u32 (v i:Int))) (hwu:Wf u lu) (Hv:Wf v nV)
  (hX:X=nv (sh u k) (nV+1)) (hV:V=nv v nV) (hF:F=u (k+nV)*4294967296+u (k+nV-1)) (hFlt:F<(v (nV-1)+1)*4294967296) (hvt:2147483648<=v (nV-1))
  (hg:g0*v (nV-1)+r0=F) (hg64:g0<18446744073709551616) (hr0:r0<4294967296) (hge:X/V<=g0) (hXW:X/V<4294967296)
  (hK:∀ (y16 y111 y112 y113 y114 y115 y116 y117 y118 y119 y120 y121 y122 y123 y124 y125 y126 y127 y128 y129 y130 y131 y132 y133 y134 y135 y136 y137 y138 y139 y140 y141 y142 y143 y144 y145 y146:Value) (gn q:Nat),gn<4294967296->X/V<=gn->gn<=X/V+1->K ⟨#[x0,x1,x2,x3,x4,x5,x6,x7,x8,.slice (some ⟨bv,ov,none⟩) nV cv,.int .i64 nV,.slice (some ⟨gu,0,none⟩) lu lu,x12,.int .i64 k,.int .u64 F,.int .u64 gn,y16,x17,x18,x19,x20,x21,x22,x23,x24,x25,x26,x27,x28,x29,x30,x31,x32,x33,x34,x35,x36,x37,x38,x39,x40,x41,x42,x43,x44,x45,x46,x47,x48,x49,x50,x51,x52,x53,x54,x55,x56,x57,x58,x59,x60,x61,x62,x63,x64,x65,x66,x67,x68,x69,x70,x71,x72,x73,x74,x75,x76,x77,x78,x79,x80,x81,x82,x83,x84,x85,x86,x87,x88,x89,x90,x91,x92,x93,x94,x95,x96,x97,x98,x99,x100,x101,x102,x103,x104,x105,x106,x107,x108,x109,x110,y111,y112,y113,y114,y115,y116,y117,y118,y119,y120,y121,y122,y123,y124,y125,y126,y127,y128,y129,y130,y131,y132,y133,y134,y135,y136,y137,y138,y139,y140,y141,y142,y143,y144,y145,y146,x147,x148,x149,x150,x151,x152,x153,x154,x155,x156,x157,x158,x159,x160,x161,x162,x163,x164,x165,x166,x167,x168,x169,x170,x171,x172,x173,x174,x175,x176,x177,x178,x179,x180,x181,x182,x183,x184,x185,x186,x187,x188,x189,x190,x191,x192,x193,x194,x195,x196,x197,x198,x199,x200,x201,x202,x203,x204,x205,x206,x207,x208,x209,x210,x211,x212,x213,x214,x215,x216,x217,x218,x219,x220,x221,x222,x223,x224,x225,x226,x227,x228,x229,x230,x231,x232,x233,x234,x235,x236,x237,x238,x239,x240,x241,x242,x243,x244,x245,x246,x247,x248,x249],[]⟩ (w.drewN q)) :
  (divBlk 2).wp Tryz.prog (Exit.then K Q) ⟨#[x0,x1,x2,x3,x4,x5,x6,x7,x8,.slice (some ⟨bv,ov,none⟩) nV cv,.int .i64 nV,.slice (some ⟨gu,0,none⟩) lu lu,x12,.int .i64 k,.int .u64 F,.int .u64 g0,.int .u64 r0,x17,x18,x19,x20,x21,x22,x23,x24,x25,x26,x27,x28,x29,x30,x31,x32,x33,x34,x35,x36,x37,x38,x39,x40,x41,x42,x43,x44,x45,x46,x47,x48,x49,x50,x51,x52,x53,x54,x55,x56,x57,x58,x59,x60,x61,x62,x63,x64,x65,x66,x67,x68,x69,x70,x71,x72,x73,x74,x75,x76,x77,x78,x79,x80,x81,x82,x83,x84,x85,x86,x87,x88,x89,x90,x91,x92,x93,x94,x95,x96,x97,x98,x99,x100,x101,x102,x103,x104,x105,x106,x107,x108,x109,x110,x111,x112,x113,x114,x115,x116,x117,x118,x119,x120,x121,x122,x123,x124,x125,x126,x127,x128,x129,x130,x131,x132,x133,x134,x135,x136,x137,x138,x139,x140,x141,x142,x143,x144,x145,x146,x147,x148,x149,x150,x151,x152,x153,x154,x155,x156,x157,x158,x159,x160,x161,x162,x163,x164,x165,x166,x167,x168,x169,x170,x171,x172,x173,x174,x175,x176,x177,x178,x179,x180,x181,x182,x183,x184,x185,x186,x187,x188,x189,x190,x191,x192,x193,x194,x195,x196,x197,x198,x199,x200,x201,x202,x203,x204,x205,x206,x207,x208,x209,x210,x211,x212,x213,x214,x215,x216,x217,x218,x219,x220,x221,x222,x223,x224,x225,x226,x227,x228,x229,x230,x231,x232,x233,x234,x235,x236,x237,x238,x239,x240,x241,x242,x243,x244,x245,x246,x247,x248,x249],[]⟩ w:=by
 have aX:0<V:=by
  have h1:=QkX v nV hm2;have h2:1*4294967296 ^ (nV-2)<=(v (nV-1)*4294967296+v (nV-2))*4294967296 ^ (nV-2):=Nat.mul_le_mul_right _ (by omega);have:=QdE (nV-2);omega
 have a0:u (k+nV-2)<4294967296:=hwu _ (by omega);have aZ:=Hv (nV-1) (by omega);have aI:=Hv (nV-2) (by omega);have h3:=Qk8 u k nV hm2;have h2:=QkX v nV hm2;rw[<- hX,<- hF] at h3;rw[<- hV] at h2;have aP:=Qbk ((Qg0 hwu (by omega):Wf (sh u k) (nV+1)).mono (m:=nV-2) (by omega));have aQ:=Qbk (Hv.mono (m:=nV-2) (by omega));have aR:X/V*V<=X:=Nat.div_mul_le_self _ _
 have aF:X<(X/V+1)*V:=by
  have:=Nat.lt_div_mul_add aX (a:=X);rw[Nat.add_mul,Nat.one_mul];exact this
 have aL:∀ g r:Nat,g*v (nV-1)+r=F->r*4294967296+u (k+nV-2)<g*v (nV-2)->X/V<g:=fun g r e c=>QiC V X (v (nV-1)) (v (nV-2)) _ F (u (k+nV-2)) _ g r 4294967296 (X/V) _ h2 h3 aP e c aR;have aG:∀ g r:Nat,g*v (nV-1)+r=F->g*v (nV-2)<=r*4294967296+u (k+nV-2)->g<4294967296->g<=X/V+1:=fun g r e c hg=>QiT V X (v (nV-1)) (v (nV-2)) _ F (u (k+nV-2)) _ g r 4294967296 (X/V) _ h2 h3 aQ e c hg (by omega) aF;have aT:∀ g r:Nat,g*v (nV-1)+r=F->4294967296<=r->g<4294967296:=fun g r e c=>QiY F (v (nV-1)) g r hFlt e c;have aO:=hwv (nV-1) (by omega);have aM:=hwv (nV-2) (by omega);have aJ:=hou.cell (i:=k+nV-2) (by omega);unfold wv at aJ;have aY:=Qh aL;have aC:=Qh aG;have aU:=Qh aT;have HG:=Qh hg;clear aL aG aT hg h2 h3 hX hV hF aR aF aP aQ hwv;generalize X/V=qd at *;have p0:(0:Int)<=(nV:Int)-2:=by omega
 have p1:(nV:Int)-2<(nV:Int):=by omega
 have p2:(0:Int)<=(k:Int)+nV-2:=by omega
 have p3:(k:Int)+nV-2<(lu:Int):=by omega
 conv=>arg 2;whnf
 go_wp2_with fail
 go_loopw [15,16] (fun g r wq=>∃ gn rn q:Nat,g=.int .u64 gn/\r=.int .u64 rn/\gn<18446744073709551616/\rn<4294967296/\gn*v (nV-1)+rn=F/\qd<=gn/\wq=w.drewN q)
  (fun g _ _=>(intOf g).toNat)
 case atStart=>exact⟨g0,r0,0,rfl,rfl,hg64,hr0,HG.out,hge,rfl⟩
 case round=>
  obtain⟨gn,rn,q,rfl,rfl,a3,a1,aS,aK,aE⟩:=hrel;have aH:=Qh aE;have aD:=Qh aS;have c1:wr.cell? ⟨bv,ov+(nV-1),none⟩=some (.int .u32 (v (nV-1):Int)):=by rw[aE];exact aO
  have c2:wr.cell? ⟨bv,ov+(nV-2),none⟩=some (.int .u32 (v (nV-2):Int)):=by rw[aE];exact aM
  have c3:wr.cell? ⟨gu,k+nV-2,none⟩=some (.int .u32 (u (k+nV-2):Int)):=by rw[aE];exact aJ
  clear aE aS aO aM aJ;by_cases h1:4294967295<gn
  ·have hd:decide ((4294967295:Int)<(gn:Int))=true:=by simp;omega
   have e1:(gn:Int)-1=((gn-1:Nat):Int):=by omega
   have E1:=Qh e1;clear e1;go_wp2_with fail;go_quiet (fail)
   go_wp2_with fail
   ·have hb:(4294967295:Int)<(rn:Int)+(v (nV-1):Int):=by assumption
    have aA:(gn-1)*v (nV-1)+(rn+v (nV-1))=F:=QfA aD.out (by omega);have aB:=aU.out (gn-1) (rn+v (nV-1)) aA (by omega);rw[E1.out,aH.out,World.drewN_drewN];refine hK _ _ _ _ _ _ _ _ _ _ _ _ _ _ _ _ _ _ _ _ _ _ _ _ _ _ _ _ _ _ _ _ _ _ _ _ _ (gn-1) (q+nq) aB (by omega) (aC.out _ _ aA (QfP aI aB (by omega)) aB)
   ·have hb:(rn:Int)+(v (nV-1):Int)<=4294967295:=by assumption
    go_roundw
    case rel=>exact⟨gn-1,rn+v (nV-1),q+nq,by rw[E1.out],by go_num,by omega,by omega,QfA aD.out (by omega),by omega,by rw[aH.out,World.drewN_drewN]⟩
    case measure=>simp[intOf];omega
  ·have hd:decide ((4294967295:Int)<(gn:Int))=false:=by simp;omega
   have a4:=Qb4 gn (v (nV-2)) 0 0 (by omega) aI (by decide) (by decide);have a2:bits BinOp.or IntKind.u64 ((rn:Int)*4294967296) (u (k+nV-2):Int)=(rn:Int)*4294967296+u (k+nV-2):=Qeb _ _ (by omega) (by omega) (by omega) (by omega);by_cases h2:rn*4294967296+u (k+nV-2)<gn*v (nV-2)
   ·have aW:decide ((rn:Int)*4294967296+(u (k+nV-2):Int)<(gn:Int)*(v (nV-2):Int))=true:=by simp;omega
    have aV:=aY.out gn rn aD.out h2;have e1:(gn:Int)-1=((gn-1:Nat):Int):=by omega
    have E1:=Qh e1;clear e1;go_wp2_with fail;go_quiet (fail)
    go_wp2_with fail
    ·have hb:(4294967295:Int)<(rn:Int)+(v (nV-1):Int):=by assumption
     have aA:(gn-1)*v (nV-1)+(rn+v (nV-1))=F:=QfA aD.out (by omega);have aB:=aU.out (gn-1) (rn+v (nV-1)) aA (by omega);rw[E1.out,aH.out,World.drewN_drewN];refine hK _ _ _ _ _ _ _ _ _ _ _ _ _ _ _ _ _ _ _ _ _ _ _ _ _ _ _ _ _ _ _ _ _ _ _ _ _ (gn-1) (q+nq) aB (by omega) (aC.out _ _ aA (QfP aI aB (by omega)) aB)
    ·have hb:(rn:Int)+(v (nV-1):Int)<=4294967295:=by assumption
     go_roundw
     case rel=>exact⟨gn-1,rn+v (nV-1),q+nq,by rw[E1.out],by go_num,by omega,by omega,QfA aD.out (by omega),by omega,by rw[aH.out,World.drewN_drewN]⟩
     case measure=>simp[intOf];omega
   ·have aW:decide ((rn:Int)*4294967296+(u (k+nV-2):Int)<(gn:Int)*(v (nV-2):Int))=false:=by simp;omega
    go_wp2_with fail;go_quiet (fail)
    go_wp2_with fail;rw[aH.out,World.drewN_drewN];exact hK _ _ _ _ _ _ _ _ _ _ _ _ _ _ _ _ _ _ _ _ _ _ _ _ _ _ _ _ _ _ _ _ _ _ _ _ _ gn (q+nq) (by omega) aK (aC.out _ _ aD.out (by omega) (by omega))
set_option maxRecDepth 1000000 in
theorem Qki {x0 x1 x2 x3 x4 x5 x6 x7 x8 x12 x14 x16 x19 x20 x21 x22 x23 x24 x25 x26 x27 x28 x29 x30 x31 x32 x33 x34 x35 x36 x37 x38 x39 x40 x41 x42 x43 x44 x45 x46 x47 x48 x49 x50 x51 x52 x53 x54 x55 x56 x57 x58 x59 x60 x61 x62 x63 x64 x65 x66 x67 x68 x69 x70 x71 x72 x73 x74 x75 x76 x77 x78 x79 x80 x81 x82 x83 x84 x85 x86 x87 x88 x89 x90 x91 x92 x93 x94 x95 x96 x97 x98 x99 x100 x101 x102 x103 x104 x105 x106 x107 x108 x109 x110 x111 x112 x113 x114 x115 x116 x117 x118 x119 x120 x121 x122 x123 x124 x125 x126 x127 x128 x129 x130 x131 x132 x133 x134 x135 x136 x137 x138 x139 x140 x141 x142 x143 x144 x145 x146 x150 x151 x152 x153 x154 x155 x156 x157 x158 x159 x160 x161 x162 x163 x164 x165 x166 x167 x168 x169 x170 x171 x172 x173 x174 x175 x176 x177 x178 x179 x180 x181 x182 x183 x184 x185 x186 x187 x188 x189 x190 x191 x192 x193 x194 x195 x196 x197 x198 x199 x200 x201 x202 x203 x204 x205 x206 x207 x208 x209 x210 x211 x212 x213 x214 x215 x216 x217 x218 x219 x220 x221 x222 x223 x224 x225 x226 x227 x228 x229 x230 x231 x232 x233 x234 x235 x236 x237 x238 x239 x240 x241 x242 x243 x244 x245 x246 x247 x248 x249:Value} {bv ov cv gu lu nV k gn:Nat} {u v:Nat->Nat} {w:World} {K:Act->World->Prop} {Q:Exit->Act->World->Prop}
  (hm2:2<=nV) (hk:k+nV<lu) (hlu:lu<=4398046511104) (hne:bv≠gu) (hou:Own w gu 139 lu (wv u)) (hwv:∀ i,i<nV->w.cell? ⟨bv,ov+i,none⟩=some (.int .u32 (v i:Int))) (hwu:Wf u lu) (Hv:Wf v nV) (hgn:gn<4294967296)
  (hK:∀ (y19 y20 y21 y149 y150 y151 y152 y153 y154 y155 y156 y157 y158 y159 y160 y161 y162 y163 y164 y165 y166 y167 y168 y169 y170 y171 y172 y173 y174 y175 y176 y177 y178 y179 y180:Value) (w':World) (cn bn:Nat) (o:Nat->Nat),cn<4294967296->bn<=1->Own w' gu 139 lu (wv o)->Wf o lu->(∀ j,j<k->o j=u j)->(∀ j,k+nV<=j->o j=u j)->nv (sh o k) nV+gn*nv v nV=nv (sh u k) nV+(bn+cn)*4294967296 ^ nV->Only gu w w'->K ⟨#[x0,x1,x2,x3,x4,x5,x6,x7,x8,.slice (some ⟨bv,ov,none⟩) nV cv,.int .i64 nV,.slice (some ⟨gu,0,none⟩) lu lu,x12,.int .i64 k,x14,.int .u64 gn,x16,.int .u64 cn,.int .u32 bn,y19,y20,y21,x22,x23,x24,x25,x26,x27,x28,x29,x30,x31,x32,x33,x34,x35,x36,x37,x38,x39,x40,x41,x42,x43,x44,x45,x46,x47,x48,x49,x50,x51,x52,x53,x54,x55,x56,x57,x58,x59,x60,x61,x62,x63,x64,x65,x66,x67,x68,x69,x70,x71,x72,x73,x74,x75,x76,x77,x78,x79,x80,x81,x82,x83,x84,x85,x86,x87,x88,x89,x90,x91,x92,x93,x94,x95,x96,x97,x98,x99,x100,x101,x102,x103,x104,x105,x106,x107,x108,x109,x110,x111,x112,x113,x114,x115,x116,x117,x118,x119,x120,x121,x122,x123,x124,x125,x126,x127,x128,x129,x130,x131,x132,x133,x134,x135,x136,x137,x138,x139,x140,x141,x142,x143,x144,x145,x146,.slice (some ⟨bv,ov,none⟩) nV cv,.int .i64 nV,y149,y150,y151,y152,y153,y154,y155,y156,y157,y158,y159,y160,y161,y162,y163,y164,y165,y166,y167,y168,y169,y170,y171,y172,y173,y174,y175,y176,y177,y178,y179,y180,x181,x182,x183,x184,x185,x186,x187,x188,x189,x190,x191,x192,x193,x194,x195,x196,x197,x198,x199,x200,x201,x202,x203,x204,x205,x206,x207,x208,x209,x210,x211,x212,x213,x214,x215,x216,x217,x218,x219,x220,x221,x222,x223,x224,x225,x226,x227,x228,x229,x230,x231,x232,x233,x234,x235,x236,x237,x238,x239,x240,x241,x242,x243,x244,x245,x246,x247,x248,x249],[]⟩ w') :
  (divBlk 4).wp Tryz.prog (Exit.then K Q) ⟨#[x0,x1,x2,x3,x4,x5,x6,x7,x8,.slice (some ⟨bv,ov,none⟩) nV cv,.int .i64 nV,.slice (some ⟨gu,0,none⟩) lu lu,x12,.int .i64 k,x14,.int .u64 gn,x16,.int .u64 0,.int .u32 0,x19,x20,x21,x22,x23,x24,x25,x26,x27,x28,x29,x30,x31,x32,x33,x34,x35,x36,x37,x38,x39,x40,x41,x42,x43,x44,x45,x46,x47,x48,x49,x50,x51,x52,x53,x54,x55,x56,x57,x58,x59,x60,x61,x62,x63,x64,x65,x66,x67,x68,x69,x70,x71,x72,x73,x74,x75,x76,x77,x78,x79,x80,x81,x82,x83,x84,x85,x86,x87,x88,x89,x90,x91,x92,x93,x94,x95,x96,x97,x98,x99,x100,x101,x102,x103,x104,x105,x106,x107,x108,x109,x110,x111,x112,x113,x114,x115,x116,x117,x118,x119,x120,x121,x122,x123,x124,x125,x126,x127,x128,x129,x130,x131,x132,x133,x134,x135,x136,x137,x138,x139,x140,x141,x142,x143,x144,x145,x146,.slice (some ⟨bv,ov,none⟩) nV cv,.int .i64 nV,.int .i64 0,x150,x151,x152,x153,x154,x155,x156,x157,x158,x159,x160,x161,x162,x163,x164,x165,x166,x167,x168,x169,x170,x171,x172,x173,x174,x175,x176,x177,x178,x179,x180,x181,x182,x183,x184,x185,x186,x187,x188,x189,x190,x191,x192,x193,x194,x195,x196,x197,x198,x199,x200,x201,x202,x203,x204,x205,x206,x207,x208,x209,x210,x211,x212,x213,x214,x215,x216,x217,x218,x219,x220,x221,x222,x223,x224,x225,x226,x227,x228,x229,x230,x231,x232,x233,x234,x235,x236,x237,x238,x239,x240,x241,x242,x243,x244,x245,x246,x247,x248,x249],[]⟩ w:=by
 have aO:=Qh hwv;clear hwv;conv=>arg 2;whnf
 go_wp2_with fail
 go_loopw [17,18,149] (fun c b s wr=>∃ (i cn bn:Nat) (o:Nat->Nat),i<=nV/\c=.int .u64 cn/\b=.int .u32 bn/\s=.int .i64 i/\cn<4294967296/\bn<=1/\Own wr gu 139 lu (wv o)/\Wf o lu /\
   (∀ j,j<k->o j=u j)/\(∀ j,k+i<=j->o j=u j)/\nv (sh o k) i+gn*nv v i=nv (sh u k) i+(bn+cn)*4294967296 ^ i/\Only gu w wr)
  (fun _ _ s _=>nV-(intOf s).toNat)
 case atStart=>exact⟨0,0,0,u,Nat.zero_le _,rfl,rfl,rfl,by decide,by decide,hou,hwu,fun _ _=>rfl,fun _ _=>rfl,by simp[nv],Only.refl _ _⟩
 case round=>
  obtain⟨i,cn,bn,o,hi,rfl,rfl,rfl,aJ,aM,aB,aD,aG,aH,aC,aA⟩:=hrel;have HV:=Qh aC;have aK:=Qh aG;have aE:=Qh aH;clear aC aG aH;by_cases hlt:i<nV
  ·have hy:=(aA.cell (o:=ov+i) hne).trans (aO.out i hlt);have hx:=aB.cell (i:=i+k) (by omega);have aS:=aB.free (i+k);have aL:=Hv i hlt;have aR:=aD (i+k) (by omega);have aT:=Qb4 gn (v i) 0 cn (by omega) aL (by decide) aJ;have aI:o (i+k)=sh u k i:=by rw[aE.out _ (by omega),QbO,Nat.add_comm]
   have aQ:=Qh aI;clear aI;unfold wv at hx;go_wp2_with (go_at_call 225;refine(Qct _ _ _ _ (by omega) (by omega) (by omega) (by omega) (by omega) (by omega)).mono ?_;rintro e w' ⟨r,q,rfl,hr,hq,aF,rfl⟩;have aP:=Qh aF;clear aF)
   go_roundw
   case rel=>
    refine⟨i+1,(gn*v i+cn)/4294967296,q,upd o (i+k) r,by omega,?_,rfl,by go_num,by omega,hq,aB.setw (by omega) r,aD.upd _ _ hr,?_,?_,?_,aA.set _ _⟩
    ·rw[Int.natCast_ediv,Int.natCast_add,Int.natCast_mul];rfl
    ·intro j hj;rw[QaU _ _ _ _ (by omega)];exact aK.out j hj
    ·intro j hj;rw[QaU _ _ _ _ (by omega)];exact aE.out j (by omega)
    ·rw[Nat.add_comm i k,QfZ];refine Qde (sh o k) (sh u k) v gn i cn bn r q (gn*v i+cn) rfl ?_ HV.out;rw[<- aQ.out,Int.natCast_emod,Int.natCast_add,Int.natCast_mul];exact aP.out
   case measure=>simp[intOf];omega
  ·obtain rfl:i=nV:=by omega
   go_wp2_with fail;exact hK _ _ _ _ _ _ _ _ _ _ _ _ _ _ _ _ _ _ _ _ _ _ _ _ _ _ _ _ _ _ _ _ _ _ _ _ cn bn o aJ aM aB aD aK.out aE.out HV.out aA
set_option maxRecDepth 1000000 in
theorem Qjb {x0 x1 x2 x3 x4 x5 x6 x7 x8 x12 x14 x15 x16 x17 x18 x19 x20 x21 x23 x24 x25 x26 x27 x28 x29 x30 x31 x32 x33 x34 x35 x36 x37 x38 x39 x40 x41 x42 x43 x44 x45 x46 x47 x48 x49 x50 x51 x52 x53 x54 x55 x56 x57 x58 x59 x60 x61 x62 x63 x64 x65 x66 x67 x68 x69 x70 x71 x72 x73 x74 x75 x76 x77 x78 x79 x80 x81 x82 x83 x84 x85 x86 x87 x88 x89 x90 x91 x92 x93 x94 x95 x96 x97 x98 x99 x100 x101 x102 x103 x104 x105 x106 x107 x108 x109 x110 x111 x112 x113 x114 x115 x116 x117 x118 x119 x120 x121 x122 x123 x124 x125 x126 x127 x128 x129 x130 x131 x132 x133 x134 x135 x136 x137 x138 x139 x140 x141 x142 x143 x144 x145 x146 x147 x148 x149 x150 x151 x152 x153 x154 x155 x156 x157 x158 x159 x160 x161 x162 x163 x164 x165 x166 x167 x168 x169 x170 x171 x172 x173 x174 x175 x176 x177 x178 x179 x180 x181 x182 x183 x184 x185 x186 x187 x188 x189 x190 x191 x192 x193 x194 x195 x196 x197 x198 x199 x200 x201 x202 x206 x207 x208 x209 x210 x211 x212 x213 x214 x215 x216 x217 x218 x219 x220 x221 x222 x223 x224 x225 x226 x227 x228 x229 x230 x231 x232 x233 x234 x235 x236 x237 x238 x239 x240 x241 x242 x243 x244 x245 x246 x247 x248 x249:Value} {bv ov cv gu lu nV k  : Nat} {u v:Nat->Nat} {w:World} {K:Act->World->Prop} {Q:Exit->Act->World->Prop}
  (hm2:2<=nV) (hk:k+nV<lu) (hlu:lu<=4398046511104) (hne:bv≠gu) (hou:Own w gu 139 lu (wv u)) (hwv:∀ i,i<nV->w.cell? ⟨bv,ov+i,none⟩=some (.int .u32 (v i:Int))) (hwu:Wf u lu) (Hv:Wf v nV)
  (hK:∀ (y23 y24 y205 y206 y207 y208 y209 y210 y211 y212 y213 y214 y215 y216 y217 y218 y219 y220 y221 y222 y223 y224 y225 y226 y227:Value) (w':World) (cn:Nat) (o:Nat->Nat),cn<=1->Own w' gu 139 lu (wv o)->Wf o lu->(∀ j,j<k->o j=u j)->(∀ j,k+nV<=j->o j=u j)->nv (sh o k) nV+cn*4294967296 ^ nV=nv (sh u k) nV+nv v nV->Only gu w w'->K ⟨#[x0,x1,x2,x3,x4,x5,x6,x7,x8,.slice (some ⟨bv,ov,none⟩) nV cv,.int .i64 nV,.slice (some ⟨gu,0,none⟩) lu lu,x12,.int .i64 k,x14,x15,x16,x17,x18,x19,x20,x21,.int .u32 cn,y23,y24,x25,x26,x27,x28,x29,x30,x31,x32,x33,x34,x35,x36,x37,x38,x39,x40,x41,x42,x43,x44,x45,x46,x47,x48,x49,x50,x51,x52,x53,x54,x55,x56,x57,x58,x59,x60,x61,x62,x63,x64,x65,x66,x67,x68,x69,x70,x71,x72,x73,x74,x75,x76,x77,x78,x79,x80,x81,x82,x83,x84,x85,x86,x87,x88,x89,x90,x91,x92,x93,x94,x95,x96,x97,x98,x99,x100,x101,x102,x103,x104,x105,x106,x107,x108,x109,x110,x111,x112,x113,x114,x115,x116,x117,x118,x119,x120,x121,x122,x123,x124,x125,x126,x127,x128,x129,x130,x131,x132,x133,x134,x135,x136,x137,x138,x139,x140,x141,x142,x143,x144,x145,x146,x147,x148,x149,x150,x151,x152,x153,x154,x155,x156,x157,x158,x159,x160,x161,x162,x163,x164,x165,x166,x167,x168,x169,x170,x171,x172,x173,x174,x175,x176,x177,x178,x179,x180,x181,x182,x183,x184,x185,x186,x187,x188,x189,x190,x191,x192,x193,x194,x195,x196,x197,x198,x199,x200,x201,x202,.slice (some ⟨bv,ov,none⟩) nV cv,.int .i64 nV,y205,y206,y207,y208,y209,y210,y211,y212,y213,y214,y215,y216,y217,y218,y219,y220,y221,y222,y223,y224,y225,y226,y227,x228,x229,x230,x231,x232,x233,x234,x235,x236,x237,x238,x239,x240,x241,x242,x243,x244,x245,x246,x247,x248,x249],[]⟩ w') :
  (divBlk 6).wp Tryz.prog (Exit.then K Q) ⟨#[x0,x1,x2,x3,x4,x5,x6,x7,x8,.slice (some ⟨bv,ov,none⟩) nV cv,.int .i64 nV,.slice (some ⟨gu,0,none⟩) lu lu,x12,.int .i64 k,x14,x15,x16,x17,x18,x19,x20,x21,.int .u32 0,x23,x24,x25,x26,x27,x28,x29,x30,x31,x32,x33,x34,x35,x36,x37,x38,x39,x40,x41,x42,x43,x44,x45,x46,x47,x48,x49,x50,x51,x52,x53,x54,x55,x56,x57,x58,x59,x60,x61,x62,x63,x64,x65,x66,x67,x68,x69,x70,x71,x72,x73,x74,x75,x76,x77,x78,x79,x80,x81,x82,x83,x84,x85,x86,x87,x88,x89,x90,x91,x92,x93,x94,x95,x96,x97,x98,x99,x100,x101,x102,x103,x104,x105,x106,x107,x108,x109,x110,x111,x112,x113,x114,x115,x116,x117,x118,x119,x120,x121,x122,x123,x124,x125,x126,x127,x128,x129,x130,x131,x132,x133,x134,x135,x136,x137,x138,x139,x140,x141,x142,x143,x144,x145,x146,x147,x148,x149,x150,x151,x152,x153,x154,x155,x156,x157,x158,x159,x160,x161,x162,x163,x164,x165,x166,x167,x168,x169,x170,x171,x172,x173,x174,x175,x176,x177,x178,x179,x180,x181,x182,x183,x184,x185,x186,x187,x188,x189,x190,x191,x192,x193,x194,x195,x196,x197,x198,x199,x200,x201,x202,.slice (some ⟨bv,ov,none⟩) nV cv,.int .i64 nV,.int .i64 0,x206,x207,x208,x209,x210,x211,x212,x213,x214,x215,x216,x217,x218,x219,x220,x221,x222,x223,x224,x225,x226,x227,x228,x229,x230,x231,x232,x233,x234,x235,x236,x237,x238,x239,x240,x241,x242,x243,x244,x245,x246,x247,x248,x249],[]⟩ w:=by
 have aL:=Qh hwv;clear hwv;conv=>arg 2;whnf
 go_wp2_with fail
 go_loopw [22,205] (fun c s wr=>∃ (i cn:Nat) (o:Nat->Nat),i<=nV/\c=.int .u32 cn/\s=.int .i64 i/\cn<=1/\Own wr gu 139 lu (wv o)/\Wf o lu /\
   (∀ j,j<k->o j=u j)/\(∀ j,k+i<=j->o j=u j)/\nv (sh o k) i+cn*4294967296 ^ i=nv (sh u k) i+nv v i/\Only gu w wr)
  (fun _ s _=>nV-(intOf s).toNat)
 case atStart=>exact⟨0,0,u,Nat.zero_le _,rfl,rfl,by decide,hou,hwu,fun _ _=>rfl,fun _ _=>rfl,by simp[nv],Only.refl _ _⟩
 case round=>
  obtain⟨i,cn,o,hi,rfl,rfl,aK,aB,aD,aG,aH,aC,aA⟩:=hrel;have HV:=Qh aC;have aJ:=Qh aG;have aE:=Qh aH;clear aC aG aH;by_cases hlt:i<nV
  ·have hy:=(aA.cell (o:=ov+i) hne).trans (aL.out i hlt);have hx:=aB.cell (i:=i+k) (by omega);have aR:=aB.free (i+k);have aP:=Hv i hlt;have aQ:=aD (i+k) (by omega);have aI:o (i+k)=sh u k i:=by rw[aE.out _ (by omega),QbO,Nat.add_comm]
   have aO:=Qh aI;clear aI;unfold wv at hx;go_wp2_with (go_at_call 224;refine(QbZ _ _ _ _ (by omega) (by omega) (by omega) (by omega) (by omega) (by omega)).mono ?_;rintro e w' ⟨r,q,rfl,hr,hq,aF,rfl⟩;have aM:=Qh aF;clear aF)
   go_roundw
   case rel=>
    refine⟨i+1,q,upd o (i+k) r,by omega,rfl,by go_num,hq,aB.setw (by omega) r,aD.upd _ _ hr,?_,?_,?_,aA.set _ _⟩
    ·intro j hj;rw[QaU _ _ _ _ (by omega)];exact aJ.out j hj
    ·intro j hj;rw[QaU _ _ _ _ (by omega)];exact aE.out j (by omega)
    ·rw[Nat.add_comm i k,QfZ];refine Qdf (sh o k) (sh u k) v i cn r q ?_ HV.out;rw[<- aO.out];have:=aM.out;omega
   case measure=>simp[intOf];omega
  ·obtain rfl:i=nV:=by omega
   go_wp2_with fail;exact hK _ _ _ _ _ _ _ _ _ _ _ _ _ _ _ _ _ _ _ _ _ _ _ _ _ _ cn o aK aB aD aJ.out aE.out HV.out aA
