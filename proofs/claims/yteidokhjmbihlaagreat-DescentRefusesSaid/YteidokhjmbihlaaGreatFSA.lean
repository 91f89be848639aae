/-
  What factor.Search leaves: plain.
-/
import Derived.Test.YteidokhjmbihlaaGreatFH1
set_option linter.all false
namespace Go.Proofs.YteidokhjmbihlaaGreat
structure DvD (n0 n d:Nat) (out:List Nat):Prop where
 n1:1<=n
 dv:n∣n0
 fr:Free d n
 d2:2<=d
 nd:out.Nodup
 pr:∀ q∈out,Pri q/\q∣n0/\q<d
 al:∀ q,Pri q->q∣n0->q∈out\/q∣n
theorem DvD.start {n0:Nat} (h:1<=n0):DvD n0 n0 2 []:=⟨h,Nat.dvd_refl _,Jt _,Nat.le_refl _,List.nodup_nil,(fun _ h=>nomatch h),fun _ _ h=>.inr h⟩
theorem DvD.no {n0 n d:Nat} {out:List Nat} (h:DvD n0 n d out) (hd:¬ d∣n):DvD n0 n (d+1) out:=
 ⟨h.n1,h.dv,fun x h2 hx hdv=>by
  by_cases e:x=d
  ·exact hd (e▸hdv)
  ·exact h.fr x h2 (by omega) hdv,by have:=h.d2;omega,h.nd,fun q hq=>by
  obtain⟨h1,h2,h3⟩:=h.pr q hq;exact⟨h1,h2,by omega⟩,h.al⟩
theorem DvD.yes {n0 n d:Nat} {out:List Nat} (h:DvD n0 n d out) (hd:d∣n):DvD n0 (cof d n) (d+1) (out++[d]):=by
 have hp:=h.fr.pri h.d2 hd;obtain⟨e,k1,k2⟩:=QC h.d2 h.n1;have hc:cof d n∣n:=⟨d ^ mlt d n,by rw[Nat.mul_comm];exact e⟩;refine⟨k2,Nat.dvd_trans hc h.dv,fun x h2 hx hdv=>?_,by have:=h.d2;omega,?_,fun q hq=>?_,fun q hq hdv=>?_⟩
 ·by_cases e:x=d
  ·exact k1 (e▸hdv)
  ·exact h.fr x h2 (by omega) (Nat.dvd_trans hdv hc)
 ·rw[List.nodup_append];refine⟨h.nd,by simp,fun a ha b hb e=>?_⟩;rw[List.mem_singleton.1 hb] at e;have:=(h.pr a ha).2.2;omega
 ·rcases List.mem_append.1 hq with hq|hq
  ·obtain⟨h1,h2,h3⟩:=h.pr q hq;exact⟨h1,h2,by omega⟩
  ·rw[List.mem_singleton.1 hq];exact⟨hp,Nat.dvd_trans hd h.dv,by omega⟩
 ·rcases h.al q hq hdv with k|k
  ·exact .inl (List.mem_append_left _ k)
  ·rw[e] at k;rcases hq.dvd_mul k with k|k
   ·have:q=d:=hq.eq hp (hq.dvd_pow k);exact .inl (List.mem_append_right _ (by rw[this];exact List.mem_singleton.2 rfl))
   ·exact .inr k
theorem DvD.len {n0 n d:Nat} {out:List Nat} (h:DvD n0 n d out):out.length<=d:=by
 have:=Yg (m:=List.range d) h.nd (fun x hx=>List.mem_range.2 (h.pr x hx).2.2);rwa [List.length_range] at this
theorem DvD.done {n0 n d:Nat} {out:List Nat} (h:DvD n0 n d out) (hd:n<d*d):Prm n0 (if 1<n then out++[n] else out):=by
 by_cases h1:1<n
 ·rw[if_pos h1]
  have hp:Pri n:=by
   have aA:d-1+1=d:=by have:=h.d2;omega
   refine Yo (b:=d-1) h1 (fun x h2 hx=>h.fr x h2 (by have:=h.d2;omega)) ?_;rw[aA];exact hd
  refine⟨?_,fun q=>⟨fun hq=>?_,fun⟨hq,hdv⟩=>?_⟩⟩
  ·rw[List.nodup_append];refine⟨h.nd,by simp,fun a ha b hb e=>?_⟩;rw[List.mem_singleton.1 hb] at e;obtain⟨p1,-,p3⟩:=h.pr a ha;exact h.fr a p1.1 p3 (e▸Nat.dvd_refl _)
  ·rcases List.mem_append.1 hq with hq|hq
   ·exact⟨(h.pr q hq).1,(h.pr q hq).2.1⟩
   ·rw[List.mem_singleton.1 hq];exact⟨hp,h.dv⟩
  ·rcases h.al q hq hdv with k|k
   ·exact List.mem_append_left _ k
   ·exact List.mem_append_right _ (by rw[hq.eq hp k];exact List.mem_singleton.2 rfl)
 ·rw[if_neg h1];refine⟨h.nd,fun q=>⟨fun hq=>⟨(h.pr q hq).1,(h.pr q hq).2.1⟩,fun⟨hq,hdv⟩=>?_⟩⟩;rcases h.al q hq hdv with k|k
  ·exact k
  ·have:=Nat.le_of_dvd h.n1 k;have:=hq.1;have:=h.n1;omega
theorem RefinesN.refl {f:Fn} (h:RightN f):RefinesN f f:=
 ⟨rfl,fun p hp=>by
  have hc:=h.cob;have:=Jb hc (YN p.1);rwa [Qm hc.nodup (Qw hp)] at this⟩
open Classical in
noncomputable def pds (r:Nat):List Nat:=(List.range (r+1)).filter fun q=>decide (Pri q/\q∣r)
theorem QhL {r:Nat} (h:1<=r):Prm r (pds r):=by
 refine⟨List.Pairwise.filter _ List.nodup_range,fun q=>?_⟩;unfold pds;rw[List.mem_filter,List.mem_range];simp only[decide_eq_true_eq];exact⟨fun h=>h.2,fun hq=>⟨by have:=Nat.le_of_dvd h hq.2;omega,hq⟩⟩
theorem Prm.perm {n:Nat} {l l':List Nat} (h:Prm n l) (h':Prm n l'):l.Perm l':=
 (List.perm_ext_iff_of_nodup h.1 h'.1).2 fun q=>(h.2 q).trans (h'.2 q).symm
noncomputable def srP (f:Fn) (i:Nat):List (Nat×Nat):=f.P++(((ks f.R).take i).filter Ye).flatMap fun r=>Qk f.N (pds r)
def srR (f:Fn) (i:Nat):List (Nat×Nat):=(f.R.take i).filter fun p=>!Ye p.1
theorem Qjp {l:List (Nat×Nat)} {i:Nat} (h:i<l.length):(ks l)[i]'(by unfold ks;rw[List.length_map];exact h)=l[i].1:=by unfold ks;rw[List.getElem_map]
theorem QkH {f:Fn} {i:Nat} (hi:i<f.R.length) (h:Ye f.R[i].1=true):srP f (i+1)=srP f i++Qk f.N (pds f.R[i].1)/\srR f (i+1)=srR f i:=by
 unfold srP srR;rw[List.take_succ_eq_append_getElem (by unfold ks;rw[List.length_map];exact hi),List.take_succ_eq_append_getElem hi,Qjp hi,List.filter_append,List.filter_append,List.flatMap_append];simp[h]
theorem Qkj {f:Fn} {i:Nat} (hi:i<f.R.length) (h:¬ Ye f.R[i].1=true):srP f (i+1)=srP f i/\srR f (i+1)=srR f i++[f.R[i]]:=by
 unfold srP srR;rw[List.take_succ_eq_append_getElem (by unfold ks;rw[List.length_map];exact hi),List.take_succ_eq_append_getElem hi,Qjp hi,List.filter_append,List.filter_append,List.flatMap_append];simp[h]
theorem QkD {f g:Fn} (h1:g.N=f.N) (h2:g.B=f.B) (hP:Srt (srP f f.R.length) g.P) (hR:Srt (srR f f.R.length) g.R):SearchTo f pds g:=by
 unfold srP at hP;unfold srR at hR;rw[List.take_of_length_le (by unfold ks;rw[List.length_map];exact Nat.le_refl _)] at hP;rw[List.take_length] at hR;exact⟨h1,h2,hP,hR⟩
theorem QjY {x b:Nat} (h1:x<2 ^ b) (h2:0<b->2 ^ (b-1)<=x):b<=40↔Ye x=true:=by
 have e:(2:Nat) ^ 40=1099511627776:=by decide
 unfold Ye;rw[decide_eq_true_eq,<- e];constructor
 ·intro h;exact Nat.lt_of_lt_of_le h1 (Nat.pow_le_pow_right (by decide) h)
 ·intro h;rcases Nat.lt_or_ge 40 b with hb|hb
  ·have:=h2 (by omega);have h3:2 ^ 40<=2 ^ (b-1):=Nat.pow_le_pow_right (by decide) (by omega);omega
  ·exact hb
