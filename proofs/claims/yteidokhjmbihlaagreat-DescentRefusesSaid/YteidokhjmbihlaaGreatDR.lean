/-
  Sizes of what Make makes.
-/
import Derived.Test.YteidokhjmbihlaaGreatDQ
import Derived.Test.YteidokhjmbihlaaGreatDK
import Derived.Test.YteidokhjmbihlaaGreatDM
set_option linter.all false
set_option maxRecDepth 100000
set_option maxHeartbeats 1000000
namespace Go.Proofs.YteidokhjmbihlaaGreat
open Go.RowKit
attribute [local go_sem ↓] Go.wp_at_zero Go.wp_at_succ
theorem Sc.n64 {w:World} {b off:Nat} {l:List Int} (h:Sc e64 w b off l) {i:Nat} (hi:i<l.length):w.cell? ⟨b,off+i,none⟩=some (.int .i64 (l.getD i 0)):=by
 obtain⟨cs,hc,h2⟩:=h i hi;have e:l.getD i 0=l[i]:=by simp[Zk3,Zk4 hi]
 have aB:cs=[.int .i64 l[i]]:=hc;have:=h2 0 (.int .i64 l[i]) (by rw[aB];rfl);have aA:(e64:Elt Int).k=1:=rfl;rw[aA,Nat.mul_one,Nat.add_zero] at this;rw[e];exact this
theorem QgW {α : Type} {l:List α} {i:Nat} (hi:i<l.length) (d : α):l.take (i+1)=l.take i++[l.getD i d]:=by
 rw[Zk3,Zk4 hi];exact(List.take_append_getElem hi).symm
theorem Qfb (va:Value) (l:List Int) (w:World) (h:Sr e64 w va l) (hl:l.length<=1000) (hs:∀ x∈l,-9223372036854775808<=x/\x<=9223372036854775807) :
  Calls Tryz.prog 51 #[va] w fun e w'=>∃ v,e=.returned v/\Sr eI w' v l/\Below w.heap.size w w':=by
 obtain⟨aL,cL,rfl,-⟩:=id h;have HH:=Qh h;clear h;go_enter Tryz.func51,Tryz.ntmps51
 go_upto_region 2 with fail;have aB:=Qh (So.lit0 eI w (base:=w.heap.size) (Nat.le_refl _));have aM:=Qh (Qc w (.cells #[] 33));obtain⟨B,hB⟩:∃ B,w.heap.size=B:=⟨_,rfl⟩;have aB:Hid (So eI (w.alloc (.cells #[] 33)) w.heap.size (.slice (some ⟨w.heap.size,0,none⟩) 0 0) []):=aB;clear hB;generalize w.alloc (.cells #[] 33)=w1 at *;go_wp2_with fail
 go_loopw [3,4] (fun s3 s4 wr=>∃ i:Nat,s4=.int .i64 (i:Int)/\i<=l.length/\Hid (So eI wr w.heap.size s3 (l.take i))/\Hid (Below w.heap.size w wr))
  (fun _ s4 _=>l.length-(intOf s4).toNat)
 case atStart=>exact⟨0,rfl,Nat.zero_le _,aB,aM⟩
 case round=>
  clear aB aM;obtain⟨i,rfl,hi,HS,HB⟩:=hrel;by_cases hlt:i<l.length
  ·obtain⟨b,aT,rfl,-,aI⟩:=(HH.out.up HB.out).at hlt;have p0:=aI.n64 hlt;have hm:=hs _ (Ji hlt 0);have aA:=Qh (QgW hlt 0);have aD:(l.take i).length+1<=1099511627776:=by rw[List.length_take];omega
   obtain⟨x,hx⟩:∃ x,l.getD i 0=x:=⟨_,rfl⟩;obtain⟨m,aH⟩:∃ m,l.take i=m:=⟨_,rfl⟩;rw[hx] at p0 hm aA;rw[aH] at aD aA HS;obtain⟨h1,h2⟩:=hm;have i0:(0:Int)<=(i:Int):=by omega
   have i1:(i:Int)<(l.length:Int):=by omega
   clear hx aH aI;go_wp2_with fail;refine mn (QaX x wr h1 h2) fun v w2 hv hb=>?_;obtain⟨s1,a1,n1,k1,rfl⟩:=hv.shape;have bn:=Qc w2 (Qlr 33 s1 a1 n1 k1);have aF:=(HS.out.up hb).up bn;have aG:=(So.ints1 (base:=0) (Zk1 w2 (Qlr 33 s1 a1 n1 k1)) (Nat.zero_le _) (hv.up bn)).sc;have aC:=Qh (Bl.up (Bl.up HB.out hb) bn);have aJ:=aC.out.size;clear bn hb hv HS HB p0;go_wp2_with (at_builtin;go_must (refine Qc3 (E:=eI) rfl (.tmp 12) (.tmp 18) _ rfl Tryz.underlying46 w.heap.size _ m [x] rfl aF aJ _ 0 1 1 rfl rfl aG (by decide) aD ?_);intro g' aQ w7 aE aK aP)
   have aS:=Qh (ButS.below aC.out aK aC.out.size (fun g hg=>(aF.lt g hg).1));rw[<- aA.out] at aE;have aR:=Qh aE;clear aE aK aP aG aF aC aJ aD aA;go_wp2_with fail;refine⟨⟨i+1,by go_num,by omega,aR,aS⟩,by simp[intOf];omega⟩
  ·have aO:i=l.length:=by omega
   subst aO;rw[List.take_length] at HS;go_wp2_with fail;go_ret
   exact⟨_,rfl,HS.out.sr,HB.out⟩
theorem Qgo (va vb:Value) (l m:List Int) (w:World) (h:Sr eI w va l) (h':Sr eI w vb m) (hl:l.length<=1099511627776) (hm:m.length<=1099511627776) (hs:∀ x∈l,sz x<=1000000) (hs':∀ x∈m,sz x<=1000000) :
  Calls Tryz.prog 21 #[va,vb] w fun e w'=>e=.returned (.bool (decide (l=m)))/\Below w.heap.size w w':=by
 obtain⟨aL,cL,rfl,-⟩:=id h;obtain⟨aM,cM,rfl,-⟩:=id h';have HH:=Qh h;have HM:=Qh h';clear h h';go_enter Tryz.func21,Tryz.ntmps21
 by_cases hlm:l.length=m.length
 ·have e0:((l.length:Int) != (m.length:Int))=false:=by rw[bne_eq_false_iff_eq];omega
  have aJ:=Qh hlm;clear hlm;go_wp2_with fail;clear e0
  go_loopw [4,5] (fun _ s5 wr=>∃ i:Nat,s5=.int .i64 (i:Int)/\i<=l.length/\Hid (∀ j,j<i->l.getD j 0=m.getD j 0)/\Hid (Below w.heap.size w wr))
   (fun _ s5 _=>l.length-(intOf s5).toNat)
  case atStart=>exact⟨0,rfl,Nat.zero_le _,Qh (fun j h=>absurd h (Nat.not_lt_zero _)),Qh (Below.refl _ _)⟩
  case round=>
   obtain⟨i,rfl,hi,HE,HB⟩:=hrel;by_cases hlt:i<l.length
   ·have aF:i<m.length:=by have:=aJ.out;omega
    obtain⟨b,aK,rfl,-,aH⟩:=(HH.out.up HB.out).at hlt;obtain⟨b',aC,rfl,-,aG⟩:=(HM.out.up HB.out).at aF;obtain⟨s1,a1,n1,k1,p0,p1,hx⟩:=aH.int hlt;obtain⟨s2,a2,n2,k2,q0,q1,hy⟩:=aG.int aF;have aP:=hs _ (Ji hlt 0);have aO:=hs' _ (Ji aF 0);obtain⟨x,aE⟩:∃ x,l.getD i 0=x:=⟨_,rfl⟩;obtain⟨y,aD⟩:∃ y,m.getD i 0=y:=⟨_,rfl⟩;rw[aE] at hx aP;rw[aD] at hy aO;have aB:=Qh (And.intro aE aD);have i0:(0:Int)<=(i:Int):=by omega
    have i1:(i:Int)<(l.length:Int):=by omega
    have i2:(i:Int)<(m.length:Int):=by omega
    clear aH aG aE aD;go_upto_region 6 with fail;refine QaT (by kernel_rfl) [] (S:=fun w'=>rc2 w' b (aK+i*2) (.bool s1) (.slice a1 n1 k1)/\rc2 w' b' (aC+i*2) (.bool s2) (.slice a2 n2 k2)) ⟨⟨p0,p1⟩,⟨q0,q1⟩⟩ (fun aA=>?_);clear p0 p1 q0 q1;have HX:=Qh hx.drew;have HY:=Qh hy.drew;replace HB:=Qh (Bl.drew HB.out);generalize wr.drew=wa at *;clear hx hy;(refine tS 0 rfl ?_;refine tS 1 rfl ?_;refine tS 2 rfl ?_;refine tS 3 rfl ?_;refine tS 4 rfl ?_;refine tS 5 rfl ?_;refine tS 6 rfl ?_;refine tS 7 rfl ?_)
    (refine oL 8 rfl fun K hK=>tL ?_;go_simp);refine mz (Qc6 _ _ x y wa HX.out HY.out (by omega) (by omega)) fun w2 hb=>?_;have aI:=nu hb aA;replace HB:=hu hb HB;clear hb HX HY;(go_wp2_with fail;clear aA;refine nxL hK aI fun aA=>tL ?_;clear hK);clear aI;by_cases hxy:x=y
    ·rw[QhQ.2 hxy]
     have aQ:=Qh (show ∀ j,j<i+1->l.getD j 0=m.getD j 0 from fun j hj=>by
      by_cases e:j=i
      ·subst e;rw[aB.out.1,aB.out.2,hxy]
      ·exact HE.out j (by omega))
     clear hxy aB;(refine tS 9 rfl ?_)
     refine dT ?_;clear aA;go_wp2_with fail;refine⟨⟨i+1,by go_num,by omega,aQ,HB⟩,by simp[intOf];omega⟩
    ·rw[show Qdd x y=false from decide_eq_false hxy];have HN:=Qh (show decide (l=m)=false from decide_eq_false (fun e=>hxy (by rw[<- aB.out.1,<- aB.out.2,e])));clear hxy aB;(refine tS 9 rfl ?_)
     refine dT ?_;clear aA;go_wp2_with fail;go_ret
     exact⟨by rw[HN.out];rfl,HB.out⟩
   ·have HN:=Qh (show decide (l=m)=true from decide_eq_true (List.ext_getElem aJ.out fun j h1 h2=>by
     have:=HE.out j (by omega);rwa [Zk3,Zk4 h1,Zk3,Zk4 h2] at this))
    go_wp2_with fail;go_ret
    exact⟨by rw[HN.out];rfl,HB.out⟩
 ·have e0:((l.length:Int) != (m.length:Int))=true:=by rw[bne_iff_ne];omega
  have HN:=Qh (show decide (l=m)=false from decide_eq_false (fun e=>hlm (by rw[e])));clear hlm;go_wp2_with fail;go_ret
  exact⟨by rw[HN.out];rfl,Below.refl _ _⟩
def PtB (x y z:Int) (bd:Nat):Prop:=∃ m e n:Nat,m<=bd/\e<=bd/\gdP x y z m e n
def ObB (x y z:Int) (ps:List Nat):Prop:=Qau x y z=false\/∃ p,p∈ps/\∃ k,Qat x y z p k
theorem HasR.yes {a b:Int} {bd:Nat} {c:Int} {q:Int×Int×Int×Int} (h:HasR a b bd c (some q)):PtB c a (b/c) bd:=by
 obtain⟨m,e,n,h,-⟩:=h;rcases h with ⟨-,h1,h2,h3,-⟩|⟨h,-⟩
 ·exact⟨m,e,n,h1,h2,h3⟩
 ·cases h
theorem HasR.not {a b:Int} {bd:Nat} {c:Int} (h:HasR a b bd c none):¬ PtB c a (b/c) bd:=by
 obtain⟨m,e,n,h⟩:=h;rcases h with ⟨h,-⟩|⟨-,-,-,-,h⟩
 ·cases h
 ·rintro⟨m',e',n',h1,h2,h3⟩;exact h m' e' h1 h2 n' h3
theorem NotR.yes {a b:Int} {ps:List Nat} {c:Int} {q:Int×Int×Int} (h:NotR a b ps c (some q)):ObB c a (b/c) ps:=by
 obtain⟨p,k,h,-⟩:=h;rcases h with ⟨h,-⟩|⟨-,-,-,h3,-,i,h5,h6,-⟩|⟨-,-,-,-,h,-⟩
 ·exact .inl h
 ·exact .inr ⟨p,by rw[<- h6];exact Ji h5 0,k,h3⟩
 ·cases h
theorem NotR.not {a b:Int} {ps:List Nat} {c:Int} (h:NotR a b ps c none):¬ ObB c a (b/c) ps:=by
 obtain⟨b',p,k,h⟩:=h;rcases h with ⟨-,-,-,-,h⟩|⟨-,-,h,-⟩|⟨h0,-,-,-,-,h⟩
 ·cases h
 ·cases h
 ·rintro (h'|⟨p,hp,k,hk⟩)
  ·rw[h0] at h';cases h'
  ·obtain⟨i,hi,e⟩:=List.mem_iff_getElem.1 hp;have:=h i hi k;rw[Zk3,Zk4 hi] at this;exact this (e▸hk)
theorem Qc4 {α : Type} {R:Int->Option α -> Prop} {f : α -> Int} {P:Int->Prop} (hf:∀ c q,R c (some q)->f q=c/\P c) (hn:∀ c,R c none->¬ P c) (H:List Int) :
  ∀ (C:List Int) (os:List (Option α)),os.length=C.length->(∀ i,i<C.length->R (C.getD i 0) (os.getD i none))->(∀ c∈C,P c↔c∈H)->(os.filterMap id).map f=C.filter (fun c=>decide (c∈H))
 | [], os, h1, _, _ => by
   have:os=[]:=List.eq_nil_of_length_eq_zero h1;subst this;rfl
 | c :: C,[],h1,_,_=>by simp at h1
 | c :: C, o :: os, h1, h2, h3 => by
   have ih:=Qc4 hf hn H C os (by simpa using h1) (fun i hi=>by
    have:=h2 (i+1) (by simp only[List.length_cons];omega);simpa using this) (fun c hc=>h3 c (List.mem_cons_of_mem _ hc))
   have h0:R c o:=by
    have:=h2 0 (by simp);simpa using this
   have h4:=h3 c List.mem_cons_self
   cases o with
   | none =>
     rw[List.filterMap_cons_none (f:=id) rfl,ih,List.filter_cons_of_neg (by rw[decide_eq_true_iff];exact fun h=>hn c h0 (h4.2 h))]
   | some q =>
     obtain⟨e1,e2⟩:=hf c q h0;rw[List.filterMap_cons_some (f:=id) (b:=q) rfl,List.map_cons,ih,e1,List.filter_cons_of_pos (by rw[decide_eq_true_iff];exact h4.1 e2)]
theorem Qdv {a b:Int} {bd:Nat} {C:List Int} {l:List (Int×Int×Int×Int)} (h:LsTo (HasR a b bd) C l) {H:List Int} (hH:∀ c∈C,PtB c a (b/c) bd↔c∈H):l.map Prod.fst=C.filter (fun c=>decide (c∈H)):=by
 obtain⟨os,h1,h2,rfl⟩:=h;exact Qc4 (P:=fun c=>PtB c a (b/c) bd) (fun c q h=>⟨HasR.fst c q h,h.yes⟩) (fun c h=>h.not) H C os h1 h2 hH
theorem QdA {a b:Int} {ps:List Nat} {C:List Int} {l:List (Int×Int×Int)} (h:LsTo (NotR a b ps) C l) {H:List Int} (hH:∀ c∈C,ObB c a (b/c) ps↔c∈H):l.map Prod.fst=C.filter (fun c=>decide (c∈H)):=by
 obtain⟨os,h1,h2,rfl⟩:=h;exact Qc4 (P:=fun c=>ObB c a (b/c) ps) (fun c q h=>⟨NotR.fst c q h,h.yes⟩) (fun c h=>h.not) H C os h1 h2 hH
theorem QkO {x y z:Int} {m e n:Nat} (h:gdP x y z m e n) (hx:x≠0) (hz:z≠0) {ps:List Nat} (hp:∀ p∈ps,Pri p/\p<=4096):¬ ObB x y z ps:=by
 obtain⟨h1,-,h3⟩:=h;have h4:(n:Int)*n=x*((m:Int)*m)*((m:Int)*m)+y*((m:Int)*m)*((e:Int)*e)+z*((e:Int)*e)*((e:Int)*e):=h3.symm;rintro (h|⟨p,aA,k,aC,aD,aB⟩)
 ·have:=QeH (B1:=x) (A:=y) (B2:=z) (m:=m) (e:=e) (n:=n) (by
   rintro⟨e1,e2⟩;have e3:m=0:=by omega
   have e4:e=0:=by omega
   rw[e3,e4] at h1;exact absurd h1 (by decide)) hx hz h4
  rw[h] at this;cases this
 ·have:=Qhy (hp p aA).1 aC (m:=m) (e:=e) (n:=n) h1 h4;rw[aB] at this;cases this
theorem QfV {x y z:Int} (h:Qau x y z=false) (hx:x≠0) (hz:z≠0) (bd:Nat) (ps:List Nat):¬ PtB x y z bd/\ObB x y z ps:=by
 refine⟨?_,.inl h⟩;rintro⟨m,e,n,-,-,h1,-,h3⟩;have h4:(n:Int)*n=x*((m:Int)*m)*((m:Int)*m)+y*((m:Int)*m)*((e:Int)*e)+z*((e:Int)*e)*((e:Int)*e):=h3.symm
 have:=QeH (B1:=x) (A:=y) (B2:=z) (m:=m) (e:=e) (n:=n) (by
   rintro⟨e1,e2⟩;have e3:m=0:=by omega
   have e4:e=0:=by omega
   rw[e3,e4] at h1;exact absurd h1 (by decide)) hx hz h4
 rw[h] at this;cases this
theorem Qhg {a b bd:Int} {l0 l1:List (Int×Int×Int×Int)} {m0 m1:List (Int×Int×Int)} {low high code:Int} (hm:MkTo a b bd l0 l1 m0 m1 0) (hb:BndTo a b l0 l1 m0 m1 low high code)
  {f0 f1:Int} {C0 C1 H0 H1 N0 N1:List Int} (hf0:FrZ b f0) (hf1:FrZ (a*a-4*b) f1) (hC0:Cand b.natAbs C0) (hC1:Cand (a*a-4*b).natAbs C1)
  (hH:∀ ps:List Nat,(∀ p∈ps,Pri p/\p<=4096)->(∀ c∈C0,(PtB c a (b/c) bd.toNat↔c∈H0)/\(ObB c a (b/c) ps↔c∈N0))/\∀ c∈C1,(PtB c (-2*a) ((a*a-4*b)/c) bd.toNat↔c∈H1)/\(ObB c (-2*a) ((a*a-4*b)/c) ps↔c∈N1)) :
  code=0/\low=max (-2+(rkF (f0 :: C0.filter (fun c=>decide (c∈H0))):Int)+(rkF (f1 :: C1.filter (fun c=>decide (c∈H1))):Int)) 0 /\
   high = -2+(Nat.log2 ((C0.length:Int)-(C0.filter (fun c=>decide (c∈N0))).length).toNat:Int)+(Nat.log2 ((C1.length:Int)-(C1.filter (fun c=>decide (c∈N1))).length).toNat:Int):=by
 have hc:code=0:=hb.1.uniq hm.chk;refine⟨hc,?_⟩;rcases hm with ⟨h1,h2,-⟩|⟨-,-,h,-⟩|⟨-,-,-,D0,D1,ps,c0,c1,hp,a0,a1,b0,b1⟩
 ·exact absurd h2.symm h1
 ·cases h
 ·have e0:=c0.uniq hC0;have e1:=c1.uniq hC1;subst e0 e1;obtain⟨k0,k1⟩:=hH ps (fun p h=>hp.pri h);have x0:=Qdv a0 (fun c hc=>(k0 c hc).1);have x1:=Qdv a1 (fun c hc=>(k1 c hc).1);have y0:=QdA b0 (fun c hc=>(k0 c hc).2);have y1:=QdA b1 (fun c hc=>(k1 c hc).2);rcases hb.2 with ⟨h,-⟩|⟨-,g0,g1,E0,E1,e1,e2,e3,e4,e5,e6⟩
  ·exact absurd hc h
  ·have q1:=e1.uniq hf0;have q2:=e2.uniq hf1;have q3:=e3.uniq c0;have q4:=e4.uniq c1;subst q1 q2 q3 q4;rw[x0,x1] at e5;rw[show (m0.length:Int)=((m0.map Prod.fst).length:Int) by rw[List.length_map],show (m1.length:Int)=((m1.map Prod.fst).length:Int) by rw[List.length_map],y0,y1] at e6;exact⟨e5,e6⟩
def sqB (n:Nat):Bool:=decide (1<=n) && (List.range (n+1)).all fun d=>decide (d<2) || decide (n%(d*d)≠0)
theorem QhX {n:Nat}:sqB n=true↔1<=n/\SqF n:=by
 unfold sqB;rw[Bool.and_eq_true,decide_eq_true_iff,List.all_eq_true];refine and_congr_right fun h1=>⟨fun h d h2 hd=>?_,fun h d _=>?_⟩
 ·have aA:d*d<=n:=Nat.le_of_dvd h1 hd;have aB:d<=n:=Qt (Nat.le_mul_of_pos_left d (by omega)) aA;have:=h d (List.mem_range.2 (by omega));rw[Bool.or_eq_true,decide_eq_true_iff,decide_eq_true_iff] at this;rcases this with h3|h3
  ·omega
  ·exact h3 (Nat.mod_eq_zero_of_dvd hd)
 ·rw[Bool.or_eq_true,decide_eq_true_iff,decide_eq_true_iff];by_cases e:d<2
  ·exact .inl e
  ·exact .inr fun h0=>h d (by omega) (Nat.dvd_of_mod_eq_zero h0)
def Qiu (n:Nat):List Int:=((List.range (2*n+1)).map fun (i:Nat)=>(i:Int)-(n:Int)).filter fun d=>sqB d.natAbs && decide (n%d.natAbs=0)
theorem QfJ {n:Nat} (hn:1<=n):Cand n (Qiu n):=by
 refine⟨?_,fun d=>?_⟩
 ·refine List.Pairwise.filter _ (List.pairwise_map.2 (List.Pairwise.imp ?_ List.pairwise_lt_range));intro a b h;omega
 ·unfold Qiu;rw[List.mem_filter,Bool.and_eq_true,QhX,decide_eq_true_iff,List.mem_map];constructor
  ·rintro⟨-,⟨h1,h2⟩,h3⟩;exact⟨h1,h2,Nat.dvd_of_mod_eq_zero h3⟩
  ·rintro⟨h1,h2,h3⟩;have:=Nat.le_of_dvd hn h3;exact⟨⟨(d+n).toNat,List.mem_range.2 (by omega),by omega⟩,⟨h1,h2⟩,Nat.mod_eq_zero_of_dvd h3⟩
theorem QeN {n f k:Int} (h:sqB f.natAbs=true) (hk:k≠0) (e:n=f*(k*k)):FrZ n f:=by
 obtain⟨h1,h2⟩:=QhX.1 h;have aA:=JE hk;refine⟨⟨h2,h1,k.natAbs,by omega,by rw[e,Int.natAbs_mul,Int.natAbs_mul]⟩,?_,by omega⟩;rw[e];constructor
 ·intro hp;rcases Int.lt_trichotomy f 0 with hf|hf|hf
  ·have:=Int.mul_neg_of_neg_of_pos hf aA;omega
  ·omega
  ·exact hf
 ·intro hf;exact Int.mul_pos hf aA
instance (x y z:Int) (m e n:Nat):Decidable (gdP x y z m e n):=by unfold gdP;infer_instance
theorem QkF {l:List Int} {code:Int} (h:CanTo 4 l code):l=[-2,-1,1,2]/\code=0:=by
 have hc:Cand 4 [-2,-1,1,2]:=by have:=QfJ (n:=4) (by decide);rwa [show Qiu 4=[-2,-1,1,2] by decide +kernel] at this
 exact h.uniq (.inr (.inr ⟨by decide,by decide,hc,rfl⟩))
theorem QkP {f code:Int} (h:ClsTo (-12*5) f code):f = -15/\code=0:=
 h.uniq (.inr (.inr ⟨by decide,by decide,QeN (k:=2) (by decide +kernel) (by decide) (by decide),rfl⟩))
theorem QkB {bd:Nat} (hbd:5=bd):∀ ps:List Nat,(∀ p∈ps,Pri p/\p<=4096)->(∀ c∈([-1,1]:List Int),(PtB c 0 (-1/c) bd↔c∈([-1,1]:List Int))/\(ObB c 0 (-1/c) ps↔c∈([]:List Int))) /\
  ∀ c∈([-2,-1,1,2]:List Int),(PtB c 0 (4/c) bd↔c∈([1,2]:List Int))/\(ObB c 0 (4/c) ps↔c∈([-2,-1]:List Int)):=by
 subst hbd;intro ps hp
 have aA:∀ {x z:Int} {H N:List Int} (m e n:Nat),gdP x 0 z m e n->m<=5->e<=5->x≠0->z≠0->x∈H->x∉N->(PtB x 0 z 5↔x∈H)/\(ObB x 0 z ps↔x∈N):=fun m e n h h1 h2 hx hz hH hN=>
  ⟨⟨fun _=>hH,fun _=>⟨m,e,n,h1,h2,h⟩⟩,⟨fun ho=>absurd ho (QkO h hx hz hp),fun h=>absurd h hN⟩⟩
 have no:∀ {x z:Int} {H N:List Int},Qau x 0 z=false->x≠0->z≠0->x∉H->x∈N->(PtB x 0 z 5↔x∈H)/\(ObB x 0 z ps↔x∈N):=fun h hx hz hH hN=>
  ⟨⟨fun hp=>absurd hp (QfV h hx hz 5 ps).1,fun h=>absurd h hH⟩,⟨fun _=>hN,fun _=>(QfV h hx hz 5 ps).2⟩⟩
 refine⟨fun c hc=>?_,fun c hc=>?_⟩
 ·simp only[List.mem_cons,List.not_mem_nil,or_false] at hc;rcases hc with rfl|rfl
  ·exact aA 0 1 1 (by decide +kernel) (by decide) (by decide) (by decide) (by decide) (by decide) (by decide)
  ·exact aA 1 0 1 (by decide +kernel) (by decide) (by decide) (by decide) (by decide) (by decide) (by decide)
 ·simp only[List.mem_cons,List.not_mem_nil,or_false] at hc;rcases hc with rfl|rfl|rfl|rfl
  ·exact no (by decide) (by decide) (by decide) (by decide) (by decide)
  ·exact no (by decide) (by decide) (by decide) (by decide) (by decide)
  ·exact aA 1 0 1 (by decide +kernel) (by decide) (by decide) (by decide) (by decide) (by decide) (by decide)
  ·exact aA 1 1 2 (by decide +kernel) (by decide) (by decide) (by decide) (by decide) (by decide) (by decide)
theorem QkG {bd:Nat} (hbd:5=bd):∀ ps:List Nat,(∀ p∈ps,Pri p/\p<=4096)->(∀ c∈([-2,-1,1,2]:List Int),(PtB c 0 (-2/c) bd↔c∈([-2,-1,1,2]:List Int))/\(ObB c 0 (-2/c) ps↔c∈([]:List Int))) /\
  ∀ c∈([-2,-1,1,2]:List Int),(PtB c 0 (8/c) bd↔c∈([1,2]:List Int))/\(ObB c 0 (8/c) ps↔c∈([-2,-1]:List Int)):=by
 subst hbd;intro ps hp
 have aA:∀ {x z:Int} {H N:List Int} (m e n:Nat),gdP x 0 z m e n->m<=5->e<=5->x≠0->z≠0->x∈H->x∉N->(PtB x 0 z 5↔x∈H)/\(ObB x 0 z ps↔x∈N):=fun m e n h h1 h2 hx hz hH hN=>
  ⟨⟨fun _=>hH,fun _=>⟨m,e,n,h1,h2,h⟩⟩,⟨fun ho=>absurd ho (QkO h hx hz hp),fun h=>absurd h hN⟩⟩
 have no:∀ {x z:Int} {H N:List Int},Qau x 0 z=false->x≠0->z≠0->x∉H->x∈N->(PtB x 0 z 5↔x∈H)/\(ObB x 0 z ps↔x∈N):=fun h hx hz hH hN=>
  ⟨⟨fun hp=>absurd hp (QfV h hx hz 5 ps).1,fun h=>absurd h hH⟩,⟨fun _=>hN,fun _=>(QfV h hx hz 5 ps).2⟩⟩
 refine⟨fun c hc=>?_,fun c hc=>?_⟩
 ·simp only[List.mem_cons,List.not_mem_nil,or_false] at hc;rcases hc with rfl|rfl|rfl|rfl
  ·exact aA 0 1 1 (by decide +kernel) (by decide) (by decide) (by decide) (by decide) (by decide) (by decide)
  ·exact aA 1 1 1 (by decide +kernel) (by decide) (by decide) (by decide) (by decide) (by decide) (by decide)
  ·exact aA 1 0 1 (by decide +kernel) (by decide) (by decide) (by decide) (by decide) (by decide) (by decide)
  ·exact aA 1 1 1 (by decide +kernel) (by decide) (by decide) (by decide) (by decide) (by decide) (by decide)
 ·simp only[List.mem_cons,List.not_mem_nil,or_false] at hc;rcases hc with rfl|rfl|rfl|rfl
  ·exact no (by decide) (by decide) (by decide) (by decide) (by decide)
  ·exact no (by decide) (by decide) (by decide) (by decide) (by decide)
  ·exact aA 1 0 1 (by decide +kernel) (by decide) (by decide) (by decide) (by decide) (by decide) (by decide)
  ·exact aA 0 1 2 (by decide +kernel) (by decide) (by decide) (by decide) (by decide) (by decide) (by decide)
theorem Qh1 {n:Nat} {l:List Int} (hn:1<=n) (h:Qiu n=l):Cand n l:=h▸QfJ hn
theorem Qko {l0 l1:List (Int×Int×Int×Int)} {m0 m1:List (Int×Int×Int)} {low high code:Int} (hm:MkTo 0 (-1) 5 l0 l1 m0 m1 0) (hb:BndTo 0 (-1) l0 l1 m0 m1 low high code):code=0/\low=0/\high=0:=by
 have h:=Qhg hm hb (f0:=-1) (f1:=1) (C0:=[-1,1]) (C1:=[-2,-1,1,2]) (H0:=[-1,1]) (H1:=[1,2]) (N0:=[]) (N1:=[-2,-1])
  (QeN (k:=1) (by decide +kernel) (by decide) (by decide)) (QeN (k:=2) (by decide +kernel) (by decide) (by decide)) (Qh1 (by decide) (by decide +kernel)) (Qh1 (by decide) (by decide +kernel)) (QkB rfl)
 refine⟨h.1,h.2.1.trans (by decide +kernel),h.2.2.trans (by decide +kernel)⟩
theorem QjV {l0 l1:List (Int×Int×Int×Int)} {m0 m1:List (Int×Int×Int)} {low high code:Int} (hm:MkTo 0 (-2) 5 l0 l1 m0 m1 0) (hb:BndTo 0 (-2) l0 l1 m0 m1 low high code):code=0/\low=1/\high=1:=by
 have h:=Qhg hm hb (f0:=-2) (f1:=2) (C0:=[-2,-1,1,2]) (C1:=[-2,-1,1,2]) (H0:=[-2,-1,1,2]) (H1:=[1,2]) (N0:=[]) (N1:=[-2,-1])
  (QeN (k:=1) (by decide +kernel) (by decide) (by decide)) (QeN (k:=2) (by decide +kernel) (by decide) (by decide)) (Qh1 (by decide) (by decide +kernel)) (Qh1 (by decide) (by decide +kernel)) (QkG rfl)
 refine⟨h.1,h.2.1.trans (by decide +kernel),h.2.2.trans (by decide +kernel)⟩
theorem Jv {x y z m e:Int} (hx:sz x<=2) (hy:sz y<=2) (hz:sz z<=2) (hm:sz m<=2) (he:sz e<=2):sz (JH x y z m e)<=100:=by
 unfold JH;have h1:=JI (x*(m*m)*(m*m)+y*(m*m)*(e*e)) (z*(e*e)*(e*e));have h2:=JI (x*(m*m)*(m*m)) (y*(m*m)*(e*e));have h3:=QM (x*(m*m)) (m*m);have h4:=QM x (m*m);have h5:=QM m m;have h6:=QM (y*(m*m)) (e*e);have h7:=QM y (m*m);have h8:=QM e e;have h9:=QM (z*(e*e)) (e*e);have aA:=QM z (e*e);omega
theorem JG {a b:Int} {bd:Nat} {C:List Int} {l:List (Int×Int×Int×Int)} (hb:b≠0) (hbl:b.natAbs<1099511627776) (ha:sz a<=2) (hbd:bd<=100) (hC:Cand b.natAbs C) (h:LsTo (HasR a b bd) C l):SzF l:=by
 refine⟨Qt h.len (Qt (YF hC (by omega) hbl) (by decide)),fun q hq=>?_⟩;obtain⟨c,hc,m,e,n,hp,rfl⟩:=(h.pw Prod.fst HasR.fst hC.1).2 q hq;have aD:=QZ (by omega) hbl (fun d hd=>((hC.2 d).1 hd).2.2) c hc;rcases hp with ⟨-,hm,he,hg,-⟩|⟨h,-⟩
 ·have aA:sz (m:Int)<=2:=J2 (by omega);have aB:sz (e:Int)<=2:=J2 (by omega);have aC:sz (b/c)<=2:=Qt (Qan b c) (J2 hbl);have hv:=Jv aD ha aC aA aB;rw[hg.2.2] at hv
  have hn:sz (n:Int)<=sz ((n:Int)*(n:Int)):=Y2 (by
   rw[Int.natAbs_mul];by_cases e0:n=0
   ·subst e0;exact Nat.zero_le _
   ·exact Nat.le_mul_of_pos_left _ (by omega))
  exact⟨by show sz c<=_;omega,by show sz (m:Int)<=_;omega,by show sz (e:Int)<=_;omega,by show sz (n:Int)<=_;omega⟩
 ·cases h
theorem JJ {a b:Int} {ps:List Nat} {C:List Int} {l:List (Int×Int×Int)} (hb:b≠0) (hbl:b.natAbs<1099511627776) (hps:∀ p∈ps,Pri p/\p<=4096) (hC:Cand b.natAbs C) (h:LsTo (NotR a b ps) C l):SzN l:=by
 refine⟨Qt h.len (Qt (YF hC (by omega) hbl) (by decide)),fun q hq=>?_⟩;obtain⟨c,hc,p,k,hp,rfl⟩:=(h.pw Prod.fst NotR.fst hC.1).2 q hq;have aB:=QZ (by omega) hbl (fun d hd=>((hC.2 d).1 hd).2.2) c hc
 have aA:p<=4096/\k<=12:=by
  rcases hp with ⟨-,-,rfl,rfl,-⟩|⟨-,-,-,h3,-,i,h5,h6,-⟩|⟨-,-,-,-,h,-⟩
  ·exact⟨by decide,by decide⟩
  ·have h7:=hps p (by rw[<- h6];exact Ji h5 0);exact⟨h7.2,Ju h7.1.1 h3.2.1⟩
  ·cases h
 exact⟨by show sz c<=_;omega,by show _<=(p:Int);omega,by show (p:Int)<=_;omega,by show _<=(k:Int);omega,by show (k:Int)<=_;omega⟩
theorem MkTo.sz {a b bd:Int} {l0 l1:List (Int×Int×Int×Int)} {m0 m1:List (Int×Int×Int)} {c:Int} (h:MkTo a b bd l0 l1 m0 m1 c):SzF l0/\SzF l1/\SzN m0/\SzN m1:=by
 have z1:SzF []:=⟨by decide,fun f h=>absurd h List.not_mem_nil⟩;have z2:SzN []:=⟨by decide,fun f h=>absurd h List.not_mem_nil⟩;rcases h with ⟨-,-,rfl,rfl,rfl,rfl⟩|⟨-,-,-,rfl,rfl,rfl,rfl⟩|⟨h1,h2,-,C0,C1,ps,c0,c1,hp,a0,a1,b0,b1⟩
 ·exact⟨z1,z1,z2,z2⟩
 ·exact⟨z1,z1,z2,z2⟩
 ·obtain⟨r1,r2,r3,r4⟩:=Yj h1;obtain⟨s1,s2,s3,s4⟩:=J3 h1;exact⟨JG r1 r3 s1 (by omega) c0 a0,JG r2 r4 s3 (by omega) c1 a1,JJ r1 r3 (fun p h=>hp.pri h) c0 b0,JJ r2 r4 (fun p h=>hp.pri h) c1 b1⟩
