/-
  Sizes of right factorizations. No program.
-/
import Derived.Test.YteidokhjmbihlaaGreatFJ1
import Derived.Test.YteidokhjmbihlaaGreatFK1
import Derived.Test.YteidokhjmbihlaaGreatFH1
import Derived.Test.YteidokhjmbihlaaGreatFI1
import Derived.Test.YteidokhjmbihlaaGreatFL1
import Derived.Test.YteidokhjmbihlaaGreatFO1
set_option linter.all false
set_option maxRecDepth 100000
set_option maxHeartbeats 4000000
namespace Go.Proofs.YteidokhjmbihlaaGreat
open Go.RowKit
def zP (l:List (Nat×Nat)):List (Int×Int):=l.map fun p=>((p.1:Int),(p.2:Int))
def zF (t:Fn):Fz:=⟨t.N,zP t.P,zP t.R,t.B⟩
theorem Qbe (l:List (Nat×Nat)):(zP l).length=l.length:=by simp[zP]
theorem QbB (a b:List (Nat×Nat)):zP (a++b)=zP a++zP b:=by simp[zP]
theorem J0:∀ {l:List (Nat×Nat)} {l':List (Int×Int)},l'.Perm (zP l)->∃ m,l'=zP m:=by
 intro l l' h;refine⟨l'.map fun p=>(p.1.toNat,p.2.toNat),?_⟩;unfold zP;rw[List.map_map];conv=>lhs;rw[<- List.map_id l']
 refine List.map_congr_left fun p hp=>?_;have:=h.mem_iff.1 hp;unfold zP at this;obtain⟨q,-,rfl⟩:=List.mem_map.1 this;simp
theorem Qaa:∀ {a b:List (Nat×Nat)},(zP a).Perm (zP b)->a.Perm b:=by
 intro a b h
 have h1:∀ c:List (Nat×Nat),(zP c).map (fun p=>(p.1.toNat,p.2.toNat))=c:=fun c=>by
  unfold zP;rw[List.map_map];conv=>rhs;rw[<- List.map_id c]
  exact List.map_congr_left fun p _=>by simp
 have:=h.map (fun p:Int×Int=>(p.1.toNat,p.2.toNat));rwa [h1,h1] at this
theorem SrtZ.nat {l:List (Nat×Nat)} {l':List (Int×Int)} (h:SrtZ (zP l) l'):∃ m,l'=zP m/\Srt l m:=by
 obtain⟨m,rfl⟩:=J0 h.1;refine⟨m,rfl,Qaa h.1,?_⟩;have h2:=h.2;unfold zP at h2;rw[List.map_map] at h2;refine(List.pairwise_map.1 h2).imp fun {a b} h=>?_;have h:(a.1:Int)<=b.1:=h;omega
theorem Qd7 (l:List (Nat×Nat)) (i:Nat):(zP l).getD i (0,0)=(((l.getD i (0,0)).1:Int),((l.getD i (0,0)).2:Int)):=by
 by_cases h:i<l.length
 ·simp[zP,Zk3,h]
 ·rw[Zk3,Zk3,List.getElem?_eq_none (by rw[Qbe];omega),List.getElem?_eq_none (by omega)];rfl
def knS (n b:Nat):Kn where
 R:=fun i v Z w=>i=2->∃ B vP,v=.pointer (some ⟨B,0,none⟩)/\Bu w B vP (.slice none 0 0) n [] [] b/\Z=YB B vP (.slice none 0 0)
 V:=fun w B=>Vx w B 0
 up:=fun h hb e=>by obtain⟨B,vP,h1,h2,h3⟩:=h e;exact⟨B,vP,h1,h2.up hb,h3⟩
 vup:=fun h hb=>h.up hb
 vlt:=fun h=>h.lt
def knT (d k c:Nat):Kn where
 R:=fun i v _ w=>(i=2->It w v d)/\((i=3\/i=4)->∃ u,v=.tuple #[.int .i64 (k:Int),u]/\It w u c)/\((i=5\/i=8)->v=.int .i64 (k:Int))/\(i=6->It w v c)
 V:=fun w B=>Vx w B 0
 up:=fun h hb=>⟨fun e=>(h.1 e).up hb,fun e=>by obtain⟨u,h1,h2⟩:=h.2.1 e;exact⟨u,h1,h2.up hb⟩,h.2.2.1,fun e=>(h.2.2.2 e).up hb⟩
 vup:=fun h hb=>h.up hb
 vlt:=fun h=>h.lt
section
variable {d k c:Nat} {v u:Value} {Z:Nat->Prop} {w:World}
theorem kn2 (h:It w v d):(knT d k c).R 2 v Z w:=⟨fun _=>h,nzz,nzz,nzz⟩
theorem kn3 (h:It w u c):(knT d k c).R 3 (.tuple #[.int .i64 (k:Int),u]) Z w:=⟨nzz,fun _=>⟨u,rfl,h⟩,nzz,nzz⟩
theorem kn4 (h:It w u c):(knT d k c).R 4 (.tuple #[.int .i64 (k:Int),u]) Z w:=⟨nzz,fun _=>⟨u,rfl,h⟩,nzz,nzz⟩
theorem kn5:(knT d k c).R 5 (.int .i64 (k:Int)) Z w:=⟨nzz,nzz,fun _=>rfl,nzz⟩
theorem kn8:(knT d k c).R 8 (.int .i64 (k:Int)) Z w:=⟨nzz,nzz,fun _=>rfl,nzz⟩
theorem kn6 (h:It w v c):(knT d k c).R 6 v Z w:=⟨nzz,nzz,nzz,fun _=>h⟩
end
theorem QgX:∀ (l:List Nat) (n:Nat),(∀ d∈l,2<=d)->1<=n->1<=(trL l n).2/\(trL l n).2<=n/\(trL l n).1.length<=l.length
 | [],n,_,h=>⟨h,Nat.le_refl _,Nat.le_refl _⟩
 | d :: l, n, hl, h => by
   have hd:=hl d (by simp);simp only[trL];split
   ·obtain⟨s1,s2,s3⟩:=QC hd h;obtain⟨a1,a2,a3⟩:=QgX l (cof d n) (fun x hx=>hl x (List.mem_cons_of_mem _ hx)) s3;have hc:cof d n<=n:=Nat.le_of_dvd (by omega) ⟨d ^ mlt d n,by rw[Nat.mul_comm];exact s1⟩;refine⟨a1,by omega,?_⟩;show ((d,mlt d n) :: (trL l (cof d n)).1).length<=_
    simp only[List.length_cons];omega
   ·obtain⟨a1,a2,a3⟩:=QgX l n (fun x hx=>hl x (List.mem_cons_of_mem _ hx)) h;refine⟨a1,a2,?_⟩;simp only[List.length_cons];omega
theorem Qee:∀ (l:List Nat) (n:Nat),∀ p∈(trL l n).1,p.1∈l
 | [],n,p,h=>by simp[trL] at h
 | d :: l, n, p, h => by
   simp only[trL] at h;split at h
   ·rcases List.mem_cons.1 h with rfl|h
    ·exact List.mem_cons_self
    ·exact List.mem_cons_of_mem _ (Qee l _ p h)
   ·exact List.mem_cons_of_mem _ (Qee l _ p h)
theorem Qfa {d m:Nat} (hd:2<=d) (hm:1<=m):(0<mlt d m↔d∣m)/\(¬ d∣m->cof d m=m):=by
 obtain⟨s1,s2,s3⟩:=QC hd hm;rcases Nat.eq_zero_or_pos (mlt d m) with h0|h0
 ·rw[h0,Nat.pow_zero,Nat.one_mul] at s1;rw[<- s1] at s2;exact⟨⟨fun h=>by omega,fun h=>absurd h s2⟩,fun _=>s1.symm⟩
 ·have aA:d∣m:=by
   rw[s1]
   exact Nat.dvd_trans (by obtain ⟨k, hk⟩ : ∃ k, mlt d m = k + 1 := ⟨mlt d m - 1, by omega⟩
                           rw[hk,Nat.pow_succ,Nat.mul_comm];exact Nat.dvd_mul_right _ _) (Nat.dvd_mul_right _ _)
  exact⟨⟨fun _=>aA,fun _=>h0⟩,fun h=>absurd aA h⟩
theorem Qih {l:List Nat} {n i:Nat} (hi:i<l.length):trL (l.take (i+1)) n =
  if l[i]∣(trL (l.take i) n).2 then ((trL (l.take i) n).1++[(l[i],mlt l[i] (trL (l.take i) n).2)],cof l[i] (trL (l.take i) n).2) else trL (l.take i) n:=by
 rw[List.take_succ_eq_append_getElem hi,QgC];simp only[trL];split <;> simp
theorem Sr.not_fact {w:World} {v:Value} {l:List (Int×Int)} {D T:Nat} {fr:Nat×Nat} (h:Sr eP w v l) (hD:w.heap[D]? = some (.cells #[.bool false,.slice none 0 0,.slice none 0 0,.slice none 0 0,.int .i64 0] T fr)) (hl:l≠[]) :
  ∀ g,v.ownBlock=some g->¬ g=D:=by
 rintro g hg rfl;obtain⟨a,aA,rfl,h2,h3⟩:=h;rcases h3 with h3|⟨b,off,rfl,h4,h5⟩
 ·exact hl h3
 ·obtain rfl:b=g:=by simpa [Value.ownBlock] using hg
  obtain⟨cs,⟨s,a,n,c,rfl,-⟩,hc⟩:=h5 0 (List.length_pos_iff.2 hl);have c0:=hc 0 _ rfl;have c2:=hc 2 _ rfl;simp only[World.cell?,hD,Nat.zero_mul,Nat.add_zero] at c0 c2;rcases off with _|_|_|_|_|off <;> simp at c0 c2
theorem QjN {n:Nat} (b:Nat) (hn:1<=n):trL (prL (b+1)) n=trL (YR b) n:=by
 unfold prL YR;rw[show b+1-2=b-1 by omega];exact Qgt (b-1) prB Qe2 2 n (by omega) hn (Jt n)
theorem Qhu {fn:Func} {R:Ending->World->Prop} {t u:Tmp} {a:Act} {w:World} {B T:Nat} {fr:Nat×Nat} {x0 x1 x2 x3 x4 y:Value} (hr:fn.results = #[.cell t 191,.tmp u]) (ht:a.tmps.getD t undef=.pointer (some ⟨B,0,none⟩)) (hu:a.tmps.getD u undef=y) (hd:a.defers=[])
  (h:w.heap[B]? = some (.cells #[x0,x1,x2,x3,x4] T fr)) (hR:R (.returned (.tuple #[.agg #[x0,x1,x2,x3,x4],y])) w):bodyPost Tryz.prog fn R .ret a w:=by
 refine bodyPost_ret ?_ hd hR;have hl:=QeL w B x0 x1 x2 x3 x4 (by simp[World.cell?,h]) (by simp[World.cell?,h]) (by simp[World.cell?,h]) (by simp[World.cell?,h]) (by simp[World.cell?,h]);have aB:a.tmps[t]?.getD undef=.pointer (some ⟨B,0,none⟩):=by simpa using ht
 have aA:a.tmps[u]?.getD undef=y:=by simpa using hu
 have hA:(asAddr (.pointer (some ⟨B,0,none⟩))).run Tryz.prog w=.ok ⟨B,0,none⟩ w:=rfl;simp[results,hr,aB,aA,hl,hA]
structure TrI (w wr:World) (n b:Nat) (B B7:Nat) (v:Value) (m:Nat) (P:List (Nat×Nat)) (vP:Value):Prop where
 hB:Bu wr B vP (.slice none 0 0) n (zP P) [] b
 hk:∀ k,YB B vP (.slice none 0 0) k->w.heap.size+2<=k
 h7:Vx wr B7 m
 n7:¬ YB B vP (.slice none 0 0) B7
 hS:So J1 wr 0 v (prZ (b+1))
 nS:∀ g,v.ownBlock=some g->g≠B7/\¬ YB B vP (.slice none 0 0) g
 hW:Below w.heap.size w wr
 hD:wr.heap[w.heap.size+1]? = some (.cells #[.bool false,.slice none 0 0,.slice none 0 0,.slice none 0 0,.int .i64 0] 191 (0,0))
 l7:w.heap.size+2<=B7
theorem TrI.up {w wr w':World} {n b B B7:Nat} {v:Value} {m:Nat} {P:List (Nat×Nat)} {vP:Value} (h:TrI w wr n b B B7 v m P vP) (hb:Below wr.heap.size wr w'):TrI w w' n b B B7 v m P vP:=by
 obtain⟨h1,h2,h3,h4,h5,h6,h7,h8,h9⟩:=h;exact⟨h1.up hb,h2,h3.up hb,h4,h5.up hb,h6,Bl.up h7 hb,(hb.block _ (Ql h8).1).trans h8,h9⟩
section
variable {w wr w':World} {n b B B7:Nat} {v:Value} {m:Nat} {P:List (Nat×Nat)} {vP:Value}
theorem TrI.fr {S:Nat->Prop} (h:TrI w wr n b B B7 v m P vP) (hb:ButS S wr w') (hS:∀ g,S g->NoW wr g) (hn:∀ g,S g->wr.heap.size<=g):TrI w w' n b B B7 v m P vP:=by
 have hz:=(Ql h.hD).1
 exact⟨h.hB.fr hb hS (fun k hk hs=>by have:=h.hB.slt k hk;have:=hn k hs;omega),h.hk,h.h7.fr hb hS (fun hs=>by have:=h.h7.lt;have:=hn _ hs;omega),h.n7,
  h.hS.fr hb hS (fun g hg hs=>by have:=(h.hS.lt g hg).2;have:=hn g hs;omega),h.nS,ButS.below h.hW hb h.hW.size (fun g hs=>by have:=hn g hs;have:=h.hW.size;omega),
  (hb.block _ hz (fun hs=>by have:=hn _ hs;omega)).trans h.hD,h.l7⟩
theorem TrI.put {s:Bool} {a:Option Addr} {q c:Nat} {m':Nat} (h:TrI w wr n b B B7 v m P vP) (hv:It wr (Qlv s a q c) m') :
  TrI w ((wr.setCell ⟨B7,0,none⟩ (.bool s)).setCell ⟨B7,1,none⟩ (.slice a q c)) n b B B7 v m' P vP:=by
 have hz:=(Ql h.hD).1;have hb:=(ButS.set wr B7 0 (.bool s)).trans (ButS.set _ B7 1 (.slice a q c));have hS:∀ g,g=B7->NoW wr g:=fun g e=>by subst e;obtain⟨_,_,_,_,_,_,h⟩:=h.h7;exact h
 have h1:=h.l7;exact⟨h.hB.fr hb hS (fun k hk e=>h.n7 (e▸hk)),h.hk,Vx.put h.h7.va hv,h.n7,h.hS.fr hb hS (fun g hg=>(h.nS g hg).1),h.nS,ButS.below h.hW hb h.hW.size (fun g hs=>by omega),(hb.block _ hz (by omega)).trans h.hD,h.l7⟩
theorem TrI.known {vP':Value} {d k:Nat} (h:TrI w wr n b B B7 v m P vP) (h1:Bu w' B vP' (.slice none 0 0) n (zP P++[((d:Int),(k:Int))]) [] b) (hb:ButS (YB B vP (.slice none 0 0)) wr w') (hk:∀ k,YB B vP' (.slice none 0 0) k->YB B vP (.slice none 0 0) k\/wr.heap.size<=k) :
  TrI w w' n b B B7 v m (P++[(d,k)]) vP':=by
 have hz:=(Ql h.hD).1;have hS:=h.hB.nw;have hw:=h.hW.size;have h7:=h.h7.lt
 refine⟨by rw[QbB];exact h1,fun g hg=>(hk g hg).elim (h.hk g) (fun _=>by omega),h.h7.fr hb hS h.n7,fun hg=>(hk _ hg).elim h.n7 (fun _=>by omega),h.hS.fr hb hS (fun g hg=>(h.nS g hg).2),fun g hg=>⟨(h.nS g hg).1,fun hg'=>(hk g hg').elim (h.nS g hg).2 (fun _=>by have:=(h.hS.lt g hg).2;omega)⟩,
  ButS.below h.hW hb hw (fun g hs=>by have:=h.hk g hs;omega),(hb.block _ hz (fun hs=>by have:=h.hk _ hs;omega)).trans h.hD,h.l7⟩
end
structure TrE (w wr:World) (n b B:Nat) (vP vR:Value) (P R:List (Nat×Nat)):Prop where
 hB:Bu wr B vP vR n (zP P) (zP R) b
 hk:∀ k,YB B vP vR k->w.heap.size+2<=k
 hW:Below w.heap.size w wr
 hD:wr.heap[w.heap.size+1]? = some (.cells #[.bool false,.slice none 0 0,.slice none 0 0,.slice none 0 0,.int .i64 0] 191 (0,0))
section
variable {w wr w':World} {n b B B7:Nat} {v:Value} {m:Nat} {P:List (Nat×Nat)} {vP vP' vR':Value}
theorem TrI.shut (h:TrI w wr n b B B7 v m P vP) (hm:m=1):TrE w wr n b B vP (.slice none 0 0) (P++if m≠1/\sml b m then [(m,1)] else []) (if m≠1/\¬ sml b m then [(m,1)] else []):=by
 rw[if_neg (fun hh=>hh.1 hm),if_neg (fun hh=>hh.1 hm),List.append_nil];exact⟨h.hB,h.hk,h.hW,h.hD⟩
theorem TrI.opened (h:TrI w wr n b B B7 v m P vP) (hm:m≠1) (h1:BuO w' B vP' vR' n (zP P) [] b m 1) (hb:ButS (YB B vP (.slice none 0 0)) wr w') (hk:∀ k,YB B vP' vR' k->YB B vP (.slice none 0 0) k\/wr.heap.size<=k) :
  TrE w w' n b B vP' vR' (P++if m≠1/\sml b m then [(m,1)] else []) (if m≠1/\¬ sml b m then [(m,1)] else []):=by
 have hz:=(Ql h.hD).1;have hw:=h.hW.size;refine⟨?_,fun g hg=>(hk g hg).elim (h.hk g) (fun _=>by omega),ButS.below h.hW hb hw (fun g hs=>by have:=h.hk g hs;omega),(hb.block _ hz (fun hs=>by have:=h.hk _ hs;omega)).trans h.hD⟩;have e:((b:Int)+1)*((b:Int)+1)=(((b+1)*(b+1):Nat):Int):=by simp
 by_cases hs:sml b m=true
 ·rw[if_pos ⟨hm,hs⟩,if_neg (fun hh=>hh.2 hs),QbB];unfold sml at hs;have hs:=of_decide_eq_true hs;exact h1.1 (by rw[e];omega)
 ·rw[if_neg (fun hh=>hs hh.2),if_pos ⟨hm,hs⟩,List.append_nil];unfold sml at hs;have hs:¬ m<(b+1)*(b+1):=fun hh=>hs (decide_eq_true hh);exact h1.2 (by rw[e];omega)
end
theorem Qh8 (vn:Value) (n b:Nat) (w:World) (hn:It w vn n) (h1:1<=n) (hb:b<=65536) (hsz:sz n<=1099511627776) :
  Calls Tryz.prog 133 #[vn,.int .i64 b] w fun e w'=>
   ∃ v t,e=.returned (.tuple #[v,.int .i64 0])/\Fx w' v (zF t)/\TrialTo n b t/\Below w.heap.size w w':=by
 obtain⟨W,s1,a1,n1,c1,rfl,hW,bw,vX,hs,p0,p1,b9⟩:=Qh6 w hn;clear hn;go_enter Tryz.func133,Tryz.ntmps133
 go_upto_region 1 with fail;rw[<- hW];clear hW;have D4:=Zk1 W (.cells #[.bool false,.slice none 0 0,.slice none 0 0,.slice none 0 0,.int .i64 0] 191);have aQ:=b9.alloc (.cells #[.bool false,.slice none 0 0,.slice none 0 0,.slice none 0 0,.int .i64 0] 191);replace vX:=vX.alloc (.cells #[.bool false,.slice none 0 0,.slice none 0 0,.slice none 0 0,.int .i64 0] 191);replace bw:=Bl.alloc bw (.cells #[.bool false,.slice none 0 0,.slice none 0 0,.slice none 0 0,.int .i64 0] 191);replace p0:=QbE p0 (.cells #[.bool false,.slice none 0 0,.slice none 0 0,.slice none 0 0,.int .i64 0] 191);replace p1:=QbE p1 (.cells #[.bool false,.slice none 0 0,.slice none 0 0,.slice none 0 0,.int .i64 0] 191);rw[hs] at D4;have bD:(W.alloc (.cells #[.bool false,.slice none 0 0,.slice none 0 0,.slice none 0 0,.int .i64 0] 191)).heap.size=w.heap.size+2:=by simp[hs]
 clear b9;generalize W.alloc (.cells #[.bool false,.slice none 0 0,.slice none 0 0,.slice none 0 0,.int .i64 0] 191)=W1 at *;clear hs;have cW:QaW (n:Int) 0=1:=by unfold QaW;rw[if_neg (by omega),if_pos (by omega)]
 have i1:¬ (b:Int)<0:=by omega
 have i2:¬ (b:Int)>65536:=by omega
 have i3:decide ((b:Int)<0)=false:=decide_eq_false i1;have i4:decide ((b:Int)>65536)=false:=decide_eq_false i2;go_wp2_with fail;refine(Qa9 _ _ W1 aQ).mono ?_;rintro e w1 ⟨rfl,aJ⟩;rw[cW];clear cW;replace vX:=vX.up aJ;replace bw:=Bl.up bw aJ;replace p0:=QaD aJ p0;replace p1:=QaD aJ p1;replace aQ:=aQ.up aJ;replace D4:=(aJ.block (w.heap.size+1) (by omega)).trans D4;replace bD:=Qt (Nat.le_of_eq bD.symm) aJ.size;clear aJ;go_upto_region 3 with fail;refine QaT (by kernel_rfl) [6] (S:=fun w'=>w'.cell? ⟨w.heap.size,0,none⟩=some (.bool s1)/\w'.cell? ⟨w.heap.size,1,none⟩=some (.slice a1 n1 c1)) ⟨p0,p1⟩ (fun aC=>?_);refine kL 0 rfl ?_;refine pL 1 rfl ?_;refine kL 3 rfl ?_;clear aC
 refine Qa5 [(2,some 28),(4,some 7)] 2 (Fl (knS n b) 4 w1) rfl (by kernel_rfl) (by decide) (by kernel_rfl) (by kernel_rfl) (by kernel_rfl)
  (fun bb x wz h=>⟨QaD h.bl p0,QaD h.bl p1⟩) (fun x=>Fl.start _ _ _ _) ?_ ?_
 ·intro i hi;have bO:i=2\/i=4:=by simpa using hi
  clear hi;rcases bO with rfl|rfl
  ·refine⟨_,rfl,fun bb x wz hJ hbb hw K hK=>?_⟩;clear hbb hw;simp only[Qba] at hK |-;go_simp;refine(Qev _ _ (n:Int) (b:Int) [] (aQ.up hJ.bl) (Sr.nil eP wz) (by simp)).mono ?_;rintro e w2 ⟨B,vP,rfl,h1,h2,h3⟩;exact hK.out _ _ (hJ.call (by decide) (v:=.pointer (some ⟨B,0,none⟩)) (fun _=>⟨B,vP,rfl,h1,rfl⟩) (fun k hk=>⟨h3 k hk,h1.slt k hk⟩) h2)
  ·refine⟨_,rfl,fun bb x wz hJ hbb hw K hK=>?_⟩;clear hbb hw;simp only[Qba] at hK |-;go_simp;exact hK.out _ _ (hJ.var (Vx.new0 rfl) (Qc _ _))
 ·intro bb x wz hbb hJ;obtain⟨Z,hR,hZ,cX⟩:=hJ.pr 2 (by decide) (hbb 2 (by decide));obtain⟨B7,bE,d9,aK⟩:=hJ.pj (hbb 4 (by decide));obtain⟨B,vP,b8,dB,rfl⟩:=hR rfl;have bK:=cX (hbb 4 (by decide)) B7 bE;have aB:=hJ.bl;clear hbb hJ cX hR;simp only[QfQ,bE,b8];clear bE b8;have bV:(fun w':World=>w'.cell? ⟨w.heap.size,0,none⟩=some (.bool s1)/\w'.cell? ⟨w.heap.size,1,none⟩=some (.slice a1 n1 c1)) wz:=⟨QaD aB p0,QaD aB p1⟩;refine pL 5 rfl ?_;obtain⟨y1,y2,y3,y4,x0,x1,x2,x3,-⟩:=aK.cells;(refine oL 6 rfl fun K hK=>tL ?_;go_simp);(go_wp2_with fail;refine xL hK (tL ?_);clear hK);refine dT ?_;clear x0 x1 x2 x3 bV;have b7:=Qh (aQ.up aB);replace bw:=Bl.up bw aB;replace vX:=vX.up aB;have aM:=(ButS.set wz B7 0 (.bool s1)).trans (ButS.set _ B7 1 (.slice a1 n1 c1));have bA:∀ g,g=B7->NoW wz g:=fun g e=>by subst e;obtain⟨_,_,_,_,_,_,h⟩:=aK;exact h
  have a4:=Vx.put aK.va b7.out;have a8:=dB.fr aM bA (fun k hk e=>bK (e▸hk));have aZ:Below w.heap.size w _:=ButS.below bw aM bw.size (fun k e=>by subst e;have:=bw.size;omega);have dG:=(aM.block (w.heap.size+1) (by have:=aB.size;omega) (by omega)).trans ((aB.block (w.heap.size+1) (by omega)).trans D4);have bN:=aK.lt;have dH:wz.heap.size=((wz.setCell ⟨B7,0,none⟩ (.bool s1)).setCell ⟨B7,1,none⟩ (.slice a1 n1 c1)).heap.size:=by simp
  generalize (wz.setCell ⟨B7,0,none⟩ (.bool s1)).setCell ⟨B7,1,none⟩ (.slice a1 n1 c1)=w3 at *;clear aK dB aM bA b7 aQ p0 p1 vX D4 bw;have dA:=Qh a8;have c8:=Qh a4;have c9:=Qh aZ;have bW:=Qh dG;clear a8 a4 aZ dG;go_wp2_with fail;refine(QhB (b:Int) w3).mono ?_;rintro e w4 ⟨v,rfl,aO,-,a2⟩;rw[if_neg (by omega)];have aO:=aO (by omega);rw[Int.toNat_natCast] at aO
  have hI:TrI w w4 n b B B7 v n [] vP:=by
   refine⟨dA.out.up a2,fun k hk=>by have:=(hZ k hk).1;omega,c8.out.up a2,bK,aO.base (Nat.zero_le _),fun g hg=>?_,Bl.up c9.out a2,(a2.block _ (Ql bW.out).1).trans bW.out,by omega⟩;have:=(aO.lt g hg).1;exact⟨by omega,fun hk=>by have:=(hZ g hk).2;omega⟩
  obtain⟨aS,cS,rfl,d8⟩:=aO.slice;have aW:(prZ (b+1)).length=(prL (b+1)).length:=by simp[prZ]
  rw[aW] at hI;rw[aW];clear dA c8 c9 bW aO a2;obtain⟨pl,aL⟩:∃ pl,pl=prL (b+1):=⟨_,rfl⟩;have a9:prZ (b+1)=pl.map (fun (x:Nat)=>(x:Int)):=by rw[aL];rfl
  rw[<- aL];rw[<- aL] at hI
  have bI:∀ d∈pl,2<=d/\d<=65536:=fun d hd=>by
   rw[aL] at hd;have:=List.mem_range'_1.1 (List.mem_filter.1 hd).1;omega
  have d7:pl.length<=65536:=by rw[aL];exact Qt (List.length_filter_le _ _) (by simp;omega)
  have dV:=Qh aL;clear aL;have h0:=hI;clear hI hZ bK bN dH aB bD;have hT:=fun i=>QgX (pl.take i) n (fun d hd=>(bI d (List.mem_of_mem_take hd)).1) h1;have HT:=Qh hT;have dD:=Qh bI;clear hT bI;go_wp2_with fail;go_loopw [37] (fun s37 wr=>∃ (i:Nat) (vP:Value),s37=.int .i64 (i:Int)/\i<=pl.length/\TrI w wr n b B B7 (.slice aS pl.length cS) (trL (pl.take i) n).2 (trL (pl.take i) n).1 vP) (fun s37 _=>pl.length-(intOf s37).toNat)
  case atStart=>exact⟨0,vP,rfl,Nat.zero_le _,by rw[List.take_zero];exact h0⟩
  case round=>
   obtain⟨i,vQ,rfl,hi,hI⟩:=hrel;clear h0;have i0:(0:Int)<=(i:Int):=by omega
   by_cases hil:i<pl.length
   ·have il:(i:Int)<(pl.length:Int):=by omega
    have bQ:=dD.out pl[i] (List.getElem_mem hil);obtain⟨bS,oS,e1,e2,cH⟩:=hI.hS.sr.at (i:=i) (by rw[a9,List.length_map];exact hil);obtain⟨dS,bP,cU⟩:=cH i (by rw[a9,List.length_map];exact hil);have cT:(prZ (b+1))[i]'(by rw[a9,List.length_map];exact hil)=(pl[i]:Int):=by simp only[a9,List.getElem_map]
    rw[cT] at bP;have cV:dS=[.int .i64 (pl[i]:Int)]:=bP
    have cd:wr.cell? ⟨bS,oS+i,none⟩=some (.int .i64 (pl[i]:Int)):=by
     have:=cU 0 (.int .i64 (pl[i]:Int)) (by rw[cV];rfl);have dL:(J1:Elt Int).k=1:=rfl;rwa [dL,Nat.mul_one,Nat.add_zero] at this
    clear bP cU cH cT cV;subst e1;have aA:=Qih (n:=n) hil;obtain⟨t1,t2,t3⟩:=HT.out i;obtain⟨m,hm⟩:∃ m,m=(trL (pl.take i) n).2:=⟨_,rfl⟩;obtain⟨P,hP⟩:∃ P,P=(trL (pl.take i) n).1:=⟨_,rfl⟩;obtain⟨d,hd⟩:∃ d,d=pl[i]:=⟨_,rfl⟩;rw[<- hm,<- hP] at hI;rw[<- hm,<- hP,<- hd] at aA;rw[<- hm] at t1 t2;rw[<- hP,List.length_take] at t3;rw[<- hd] at bQ cd;have bH:sz (d:Int)<=4:=Qf (Nat.lt_of_le_of_lt (show (d:Int).natAbs<=65536 by omega) (by decide));have cL:(trL (pl.take i) n)=(P,m):=by rw[hm,hP]
    rw[cL] at aA;have bM:=Qfa bQ.1 t1;obtain⟨k,hk⟩:∃ k,k=mlt d m:=⟨_,rfl⟩;obtain⟨c,hc⟩:∃ c,c=cof d m:=⟨_,rfl⟩;rw[<- hk,<- hc] at aA bM
    have aV:∀ va vb W,It W va m->It W vb d->Calls Tryz.prog 174 #[va,vb] W fun e w'=>∃ v,e=.returned (.tuple #[.int .i64 (k:Int),v])/\It w' v c/\Below W.heap.size W w':=fun va vb W hx hy=>by
     rw[hk,hc];exact QeA va vb m d W hx hy t1 bQ.1 (Qt (Y2 (by omega)) hsz) (Qt bH (by decide))
    clear cL hm hP hd hk hc;have dC:=Qh aA;have dE:=Qh bM;clear aA bM;obtain⟨b1,b2,b3,b4,x0,x1,-,-,aD⟩:=hI.h7.cells;have HI:=Qh hI;clear hI;go_upto_region 8 with fail;refine QaT (by kernel_rfl) [9] (S:=fun w'=>w'.cell? ⟨B7,0,none⟩=some (.bool b1)/\w'.cell? ⟨B7,1,none⟩=some (.slice b2 b3 b4)) ⟨x0,x1⟩ (fun aC=>?_);refine kL 0 rfl ?_;refine pL 1 rfl ?_;clear aC
    refine Qa5 [(2,some 44),(3,some 45),(4,some 41),(5,some 46),(6,some 47),(7,some 13),(8,some 12)] 1 (Fl (knT d k c) 7 wr) rfl (by kernel_rfl) (by decide) (by kernel_rfl) (by kernel_rfl) (by kernel_rfl)
     (fun bb x wz h=>⟨QaD h.bl x0,QaD h.bl x1⟩) (fun x=>Fl.start _ _ _ _) ?_ ?_
    ·intro i hi;have bO:i=2\/i=3\/i=4\/i=5\/i=6\/i=7\/i=8:=by simpa using hi
     clear hi;rcases bO with rfl|rfl|rfl|rfl|rfl|rfl|rfl
     ·refine⟨_,rfl,fun bb x wz hJ hbb hw K hK=>?_⟩;clear hbb hw;simp only[Qba] at hK |-;go_simp;refine(Qce (d:Int) _ (by omega) (by omega)).mono ?_;rintro e w2 ⟨v,rfl,hv,hb⟩;exact hK.out _ _ (hJ.call (i:=2) (by decide) (Z:=fun _=>False) (kn2 hv) (fun k hk=>hk.elim) hb)
     ·refine⟨_,rfl,fun bb x wz hJ hbb hw K hK=>?_⟩;obtain⟨Z,hR,-,-⟩:=hJ.pr 2 (by decide) (hw 2 (by kernel_rfl));have dJ:=hR.1 rfl;clear hbb hw hR;simp only[Qba] at hK |-;go_simp;refine(aV _ _ wz (aD.up hJ.bl) dJ).mono ?_;rintro e w2 ⟨v,rfl,hv,hb⟩;exact hK.out _ _ (hJ.call (i:=3) (by decide) (Z:=fun _=>False) (kn3 hv) (fun k hk=>hk.elim) hb)
     ·refine⟨_,rfl,fun bb x wz hJ hbb hw K hK=>?_⟩
      have hp:∃ u,x 3=.tuple #[.int .i64 (k:Int),u]/\It wz u c:=by
       obtain⟨Z,hR,-,-⟩:=hJ.pr 3 (by decide) (hw 3 (by kernel_rfl));exact hR.2.1 (.inl rfl)
      have hh:=Classical.choose_spec hp;generalize Classical.choose hp=u at hh;have aT:=hh.1;have hu:=hh.2;clear hbb hw hp hh;simp only[Qba,aT] at hK |-;go_simp;exact hK.out _ _ (hJ.call (i:=4) (by decide) (Z:=fun _=>False) (kn4 hu) (fun k hk=>hk.elim) (Below.refl _ _))
     ·refine⟨_,rfl,fun bb x wz hJ hbb hw K hK=>?_⟩
      have hp:∃ u,x 4=.tuple #[.int .i64 (k:Int),u]/\It wz u c:=by
       obtain⟨Z,hR,-,-⟩:=hJ.pr 4 (by decide) (hw 4 (by kernel_rfl));exact hR.2.1 (.inr rfl)
      have hh:=Classical.choose_spec hp;generalize Classical.choose hp=u at hh;have aT:=hh.1;have hu:=hh.2;clear hbb hw hp hh;simp only[Qba,aT] at hK |-;go_simp;exact hK.out _ _ (hJ.call (i:=5) (by decide) (Z:=fun _=>False) (kn5) (fun k hk=>hk.elim) (Below.refl _ _))
     ·refine⟨_,rfl,fun bb x wz hJ hbb hw K hK=>?_⟩
      have hp:∃ u,x 4=.tuple #[.int .i64 (k:Int),u]/\It wz u c:=by
       obtain⟨Z,hR,-,-⟩:=hJ.pr 4 (by decide) (hw 4 (by kernel_rfl));exact hR.2.1 (.inr rfl)
      have hh:=Classical.choose_spec hp;generalize Classical.choose hp=u at hh;have aT:=hh.1;have hu:=hh.2;clear hbb hw hp hh;simp only[Qba,aT] at hK |-;go_simp;exact hK.out _ _ (hJ.call (i:=6) (by decide) (Z:=fun _=>False) (kn6 hu) (fun k hk=>hk.elim) (Below.refl _ _))
     ·refine⟨_,rfl,fun bb x wz hJ hbb hw K hK=>?_⟩;clear hbb hw;simp only[Qba] at hK |-;go_simp;exact hK.out _ _ (hJ.var (W':=wz.alloc (Qlr 33 false none 0 0)) (Vx.new0 (w:=wz) rfl) (Qc _ _))
     ·refine⟨_,rfl,fun bb x wz hJ hbb hw K hK=>?_⟩
      have dI:x 5=.int .i64 (k:Int):=by
       obtain⟨Z,hR,-,-⟩:=hJ.pr 5 (by decide) (hw 5 (by kernel_rfl));exact hR.2.2.1 (.inl rfl)
      clear hbb hw;simp only[Qba,dI] at hK |-;go_simp;exact hK.out _ _ (hJ.call (i:=8) (by decide) (Z:=fun _=>False) (kn8) (fun k hk=>hk.elim) (Below.refl _ _))
    ·intro bb x wz hbb hJ;obtain⟨Z,hR,-,-⟩:=hJ.pr 6 (by decide) (hbb 6 (by decide));have hu:=hR.2.2.2 rfl;obtain⟨Z',c2,-,-⟩:=hJ.pr 8 (by decide) (hbb 8 (by decide));have h5:=c2.2.2.1 (.inr rfl);obtain⟨aI,aU,b5,aH⟩:=hJ.pj (hbb 7 (by decide));have aB:=hJ.bl;clear hbb hJ hR c2;obtain⟨u2,cG⟩:∃ u2,u2=x 2:=⟨_,rfl⟩;obtain⟨u3,cE⟩:∃ u3,u3=x 3:=⟨_,rfl⟩;obtain⟨u4,cD⟩:∃ u4,u4=x 4:=⟨_,rfl⟩;obtain⟨u5,cC⟩:∃ u5,u5=x 5:=⟨_,rfl⟩;obtain⟨s3,a3,n3,c3,bF⟩:=hu.shape;rw[bF] at hu;simp only[QfQ,aU,bF,h5,<- cG,<- cE,<- cD,<- cC];clear aU bF h5 cG cE cD cC;have bV:(fun w':World=>w'.cell? ⟨B7,0,none⟩=some (.bool b1)/\w'.cell? ⟨B7,1,none⟩=some (.slice b2 b3 b4)) wz:=⟨QaD aB x0,QaD aB x1⟩;obtain⟨y1,y2,y3,y4,z0,z1,z2,z3,-⟩:=aH.cells;(refine oL 9 rfl fun K hK=>tL ?_;go_simp);(go_wp2_with fail;refine xL hK (tL ?_);clear hK);refine dT ?_;clear z0 z1 z2 z3 bV x0 x1 aD;have aM:=(ButS.set wz aI 0 (.bool s3)).trans (ButS.set _ aI 1 (.slice a3 n3 c3));have bA:∀ g,g=aI->NoW wz g:=fun g e=>by subst e;obtain⟨_,_,_,_,_,_,h⟩:=aH;exact h
     have dR:=(HI.out.up aB);have d6:=HI.out.hW.size
     have c7:TrI w ((wz.setCell ⟨aI,0,none⟩ (.bool s3)).setCell ⟨aI,1,none⟩ (.slice a3 n3 c3)) n b B B7 (.slice (some ⟨bS,oS,none⟩) pl.length cS) m P vQ:=by
      refine TrI.fr HI.out ((ButS.of aB (fun g=>g=aI)).trans aM) (fun g e=>?_) (fun g e=>by subst e;exact b5);subst e;exact fun o x he=>absurd (Qe9 he) (by omega)
     have c0:=Vx.put aH.va hu;have bL:¬ YB B vQ (.slice none 0 0) aI:=fun hs=>by have:=HI.out.hB.slt _ hs;omega
     generalize (wz.setCell ⟨aI,0,none⟩ (.bool s3)).setCell ⟨aI,1,none⟩ (.slice a3 n3 c3)=w5 at *;clear aM bA dR aH aB hu HI;have HI:=Qh c7;have HV:=Qh c0;clear c7 c0;by_cases hdm:d∣m
     ·have i5:(0:Int)<(k:Int):=by have:=dE.out.1.2 hdm;omega
      have i6:(k:Int)>0:=i5;go_wp2_with fail;refine(Qce (d:Int) _ (by omega) (by omega)).mono ?_;rintro e w6 ⟨v6,rfl,bG,bT⟩;obtain⟨s6,a6,n6,c6,rfl⟩:=bG.shape;have bB:=HI.out.up bT;have cZ:=HV.out.up bT;clear HI HV bT;go_wp2_with fail;refine(QcP bB.hB s6 a6 n6 c6 (d:Int) (k:Int) bG (by rw[Qbe];omega)).mono ?_;rintro e w7 ⟨rfl,b6,q1,q2,q3⟩;have bU:=bB.known q1 q2 q3;have aK:=cZ.fr q2 bB.hB.nw bL;clear bB cZ q1 q2 q3 bG;obtain⟨y1,y2,y3,y4,z0,z1,-,-,hz⟩:=aK.cells;obtain⟨r1,r2,r3,r4,x0,x1,x2,x3,-⟩:=bU.h7.cells;have c4:=bU.put hz;have dX:=Qh c4;clear c4 bU aK hz;go_wp2_with fail;have he:=dC.out;rw[if_pos hdm] at he;refine⟨⟨i+1,b6,rfl,by omega,by rw[he];exact dX.out⟩,?_⟩;simp[intOf];omega
     ·have i5:¬ (k:Int)>0:=by have:=mt dE.out.1.1 hdm;omega
      go_wp2_with fail;have he:=dC.out;rw[if_neg hdm] at he;refine⟨⟨i+1,vQ,rfl,by omega,by rw[he];exact HI.out⟩,?_⟩;simp[intOf];omega
   ·have il:¬ (i:Int)<(pl.length:Int):=by omega
    obtain rfl:i=pl.length:=by omega
    rw[List.take_length] at hI;obtain⟨t1,t2,t3⟩:=HT.out pl.length;rw[List.take_length] at t1 t2 t3;obtain⟨m,hm⟩:∃ m,m=(trL pl n).2:=⟨_,rfl⟩;obtain⟨P,hP⟩:∃ P,P=(trL pl n).1:=⟨_,rfl⟩;rw[<- hm] at hI t1 t2;rw[<- hP] at hI t3;have HM:=Qh hm;have HP:=Qh hP;clear hm hP;have aE:sz (m:Int)<=1099511627776:=Qt (Y2 (by omega)) hsz;obtain⟨b1,b2,b3,b4,x0,x1,-,-,aD⟩:=hI.h7.cells;have HI:=Qh hI;clear hI;go_wp2_with fail;refine(QhV _ (m:Int) wr aD aE).mono ?_;rintro e w5 ⟨rfl,a0⟩;have c5:=HI.out.up a0;replace aD:=aD.up a0;replace x0:=QaD a0 x0;replace x1:=QaD a0 x1;clear a0 HI;have HI:=Qh c5;clear c5;by_cases hm1:m=1
    case' pos=>
     have i7:decide ((m:Int)=1)=true:=decide_eq_true (by omega);rw[i7];clear i7;have hE:=HI.out.shut hm1;clear hm1 x0 x1 aD HI;go_wp2_with fail
    case' neg=>
     have i7:decide ((m:Int)=1)=false:=decide_eq_false (by omega);rw[i7];clear i7;have dF:=Qh hm1;clear hm1;go_wp2_with fail;refine(Qh7 HI.out.hB b1 b2 b3 b4 (m:Int) 1 aD aE (by rw[Qbe];omega) (by simp) (by omega) (by omega)).mono ?_;rintro e w6 ⟨rfl,b6,dZ,q1,q2,q3⟩;have hE:=HI.out.opened dF.out q1 q2 q3;clear q1 q2 q3 HI aD x0 x1 dF;go_wp2_with fail
    all_goals
     have hq:∀ x∈zP (P++if m≠1/\sml b m then [(m,1)] else []),qP x:=fun x hx=>by
      rw[QbB,List.mem_append] at hx;rcases hx with hx|hx
      ·unfold zP at hx;obtain⟨p,hp,rfl⟩:=List.mem_map.1 hx;rw[HP.out] at hp;have h2:=dD.out p.1 (Qee _ _ p hp);exact Qt (Qf (n:=4) (Nat.lt_of_le_of_lt (show (p.1:Int).natAbs<=65536 by omega) (by decide))) (by decide)
      ·split at hx
       ·obtain rfl:x=((m:Int),1):=by simpa [zP] using hx
        exact Qt aE (by decide)
       ·simp[zP] at hx
     have cK:∀ x∈zP (if m≠1/\¬ sml b m then [(m,1)] else []),qP x:=fun x hx=>by
      split at hx
      ·obtain rfl:x=((m:Int),1):=by simpa [zP] using hx
       exact Qt aE (by decide)
      ·simp[zP] at hx
     have cN:(zP (P++if m≠1/\sml b m then [(m,1)] else [])).length<4611686018427387904:=by
      rw[Qbe,List.length_append];split <;> simp <;> omega
     have cM:(zP (if m≠1/\¬ sml b m then [(m,1)] else [])).length<4611686018427387904:=by
      rw[Qbe];split <;> simp
     refine(QfD hE.hB hq cK cN cM).mono ?_;rintro e w8 ⟨v6,P',R',rfl,hF,cJ,cI,bR⟩;have b0:=(bR.block (w.heap.size+1) (Ql hE.hD).1 (fun hs=>by have:=hE.hk _ hs;omega)).trans hE.hD;have cY:=ButS.below hE.hW bR hE.hW.size (fun g hs=>by have:=hE.hk g hs;omega);obtain⟨sF,aF,nF,cF,d5,dY,rfl,bZ,a7,a5⟩:=hF;obtain⟨aP,cP,rfl,bY⟩:=id a7;obtain⟨aR,cR,rfl,bX⟩:=id a5;dsimp only at bZ a7 a5 |-;obtain⟨lP,aY⟩:∃ lP,P'.length=lP:=⟨_,rfl⟩;obtain⟨lR,aX⟩:∃ lR,R'.length=lR:=⟨_,rfl⟩;rw[aY] at a7 |-;rw[aX] at a5 |-;have H1:=Qh bZ;have H2:=Qh a7;have H3:=Qh a5;have H6:=Qh cY;have dW:=Qh cJ;have dU:=Qh cI;have bC:=Qh b0;obtain⟨d0,d1,d2,d3,d4,f0,f1,f2,f3,f4⟩:=QgS b0;clear bZ a7 a5 cY cJ cI b0 bR hE hq cK cN cM bY bX aY aX;go_wp2_with fail
     have aG:ButS (fun k=>k=w.heap.size+1) w8 (((((w8.setCell ⟨w.heap.size+1,0,none⟩ (.bool sF)).setCell ⟨w.heap.size+1,1,none⟩ (.slice aF nF cF)).setCell ⟨w.heap.size+1,2,none⟩ (.slice aP lP cP)).setCell ⟨w.heap.size+1,3,none⟩ (.slice aR lR cR)).setCell ⟨w.heap.size+1,4,none⟩ (.int .i64 b)):=
      ((((ButS.set w8 _ 0 _).trans (ButS.set _ _ 1 _)).trans (ButS.set _ _ 2 _)).trans (ButS.set _ _ 3 _)).trans (ButS.set _ _ 4 _)
     have bJ:∀ g,g=w.heap.size+1->NoW w8 g:=by
      rintro g rfl o x hx;simp only[World.cell?,bC.out] at hx;rcases o with _|_|_|_|_|o <;> simp at hx
     refine Qhu (B:=w.heap.size+1) (T:=191) (fr:=(0,0)) (x0:=.bool sF) (x1:=.slice aF nF cF) (x2:=.slice aP lP cP) (x3:=.slice aR lR cR) (x4:=.int .i64 b) (y:=.int .i64 0) rfl rfl rfl rfl ?_ ?_
     ·simp[World.setCell,Array.getElem?_modify,bC.out]
     ·obtain⟨Pn,dQ,dP⟩:=dW.out.nat;obtain⟨Rn,dO,dN⟩:=dU.out.nat;have hr:=QjN b h1;rw[<- dV.out] at hr;have dK:trL (YR b) n=(P,m):=by rw[<- hr,HM.out,HP.out]
      have dM:=H1.out.fr aG bJ;have cQ:=H2.out.fr aG bJ (fun hl=>H2.out.not_fact bC.out hl);have cO:=H3.out.fr aG bJ (fun hl=>H3.out.not_fact bC.out hl);refine⟨_,⟨n,Pn,Rn,b⟩,rfl,⟨sF,aF,nF,cF,_,_,rfl,dM,by rw[dQ] at cQ;exact cQ,by rw[dO] at cO;exact cO⟩,?_,ButS.below H6.out aG H6.out.size (fun g e=>by omega)⟩;unfold TrialTo;rw[dK];exact⟨rfl,rfl,dP,dN⟩
def Qap:Nat:=65536
structure Md (n:Nat):Prop where
 lt:n<2 ^ Qap
theorem Md.mono {m n:Nat} (h:Md n) (hm:m<=n):Md m:=⟨Nat.lt_of_le_of_lt hm h.lt⟩
theorem Md.dvd {m n:Nat} (h:Md n) (hn:1<=n) (hm:m∣n):Md m:=h.mono (Nat.le_of_dvd hn hm)
theorem Md.prod {m n:Nat} (h:Md m) (k:Md n):Mdst (m*n):=⟨Qaf h.lt k.lt (show Qap+Qap<QaG by decide)⟩
theorem Mdst.mono {m n:Nat} (h:Mdst n) (hm:m<=n):Mdst m:=⟨Nat.lt_of_le_of_lt hm h.lt⟩
theorem Md.sz {n x:Nat} (h:Md n) (hx:x<=n):sz (x:Int)<=4096:=
 Qt (JC (k:=2048) (e:=Qap) rfl hx h.lt) (by decide)
theorem Md.exp {n d k:Nat} (h:Md n) (hd:2<=d) (hk:d ^ k<=n):k<=65536:=show k<=Qap from Qag h.lt hd hk
section
variable {f:Fn}
theorem RightN.le (h:RightN f) {p:Nat×Nat} (hp:p∈f.P++f.R):p.1<=f.N:=Nat.le_of_dvd h.n1 (J9 h hp)
theorem RightN.kdvd (h:RightN f) {x:Nat} (hx:x∈ks (f.P++f.R)):x∣f.N:=by
 obtain⟨p,hp,rfl⟩:=QE.1 hx;exact J9 h hp
theorem RightN.kprod (h:RightN f):(ks (f.P++f.R)).prod<=f.N:=Nat.le_of_dvd h.n1 (Jl h.cop (fun _ hx=>h.kdvd hx))
theorem RightN.len (h:RightN f) (hm:Md f.N):f.P.length+f.R.length<=65536:=by
 have h1:=Yb (l:=ks (f.P++f.R)) (fun x hx=>h.cob.1 x hx);have h2:=h.kprod;have h3:(ks (f.P++f.R)).length=f.P.length+f.R.length:=by simp[ks]
 rw[h3] at h1;exact hm.exp (Nat.le_refl 2) (by omega)
theorem RightN.szk (h:RightN f) (hm:Md f.N) {x:Nat} (hx:x∈ks (f.P++f.R)):sz (x:Int)<=4096:=hm.sz (Nat.le_of_dvd h.n1 (h.kdvd hx))
end
theorem Qln (w:World) {va:Value} {f:Fn} (h:Fx w va (zF f)):∃ W s a n c aP cP aR cR,va=.agg #[.bool s,.slice a n c,.slice aP f.P.length cP,.slice aR f.R.length cR,.int .i64 (f.B:Int)] /\
  W=w.alloc (.cells #[.bool s,.slice a n c,.slice aP f.P.length cP,.slice aR f.R.length cR,.int .i64 (f.B:Int)] 191)/\Below w.heap.size w W/\W.heap.size=w.heap.size+1/\Fb W w.heap.size s a n c aP cP aR cR (zF f):=by
 obtain⟨W,s,a,n,c,aP,cP,aR,cR,h1,h2,h3,h4,h5⟩:=Qlg w h;have e1:(zF f).P.length=f.P.length:=Qbe _;have e2:(zF f).R.length=f.R.length:=Qbe _;rw[e1,e2] at h1 h2;exact⟨W,s,a,n,c,aP,cP,aR,cR,h1,h2,h3,h4,h5⟩
theorem Fb.cellsN {w:World} {B:Nat} {s:Bool} {a:Option Addr} {n c:Nat} {aP:Option Addr} {cP:Nat} {aR:Option Addr} {cR:Nat} {f:Fn} (h:Fb w B s a n c aP cP aR cR (zF f)) :
  w.cell? ⟨B,0,none⟩=some (.bool s)/\w.cell? ⟨B,1,none⟩=some (.slice a n c)/\w.cell? ⟨B,2,none⟩=some (.slice aP f.P.length cP)/\w.cell? ⟨B,3,none⟩=some (.slice aR f.R.length cR)/\w.cell? ⟨B,4,none⟩=some (.int .i64 (f.B:Int)) /\
  It w (Qlv s a n c) f.N/\Sr eP w (.slice aP f.P.length cP) (zP f.P)/\Sr eP w (.slice aR f.R.length cR) (zP f.R):=by
 have h1:=h.cells;have h2:=h.hP;have h3:=h.hR;have e1:(zF f).P.length=f.P.length:=Qbe _;have e2:(zF f).R.length=f.R.length:=Qbe _;rw[e1,e2] at h1;rw[e1] at h2;rw[e2] at h3;exact⟨h1.1,h1.2.1,h1.2.2.1,h1.2.2.2.1,h1.2.2.2.2,h.hN,h2,h3⟩
