/-
  integer.Valid, factor.increasing.
-/
import Derived.Test.YteidokhjmbihlaaGreatFO1
import Derived.Test.YteidokhjmbihlaaGreatFP1
import Derived.Test.YteidokhjmbihlaaGreatFN
import Derived.Test.YteidokhjmbihlaaGreatFH1
import Derived.Test.YteidokhjmbihlaaGreatFL1
set_option linter.all false
set_option maxHeartbeats 1000000
namespace Go.Proofs.YteidokhjmbihlaaGreat
open Go.RowKit
attribute [local go_sem ↓] Go.wp_at_zero Go.wp_at_succ
def kpI (f:Fn) (o:List Nat) (i:Nat):List Nat:=QD f (o.take i)
theorem Qiv {o:List Nat} {i:Nat} (hi:i<o.length):o.take (i+1)=o.take i++[o.getD i 0]:=by
 rw[List.take_succ_eq_append_getElem hi];simp[Zk3,hi]
theorem Qhs {f:Fn} {o:List Nat} {i:Nat} (hi:i<o.length) (h:∃ r∈ks f.R,o.getD i 0∣r):kpI f o (i+1)=kpI f o i++[o.getD i 0]:=by
 unfold kpI QD;rw[Qiv hi,List.filter_append,List.filter_cons_of_pos,List.filter_nil];simpa using h
def spP (f:Fn) (o:List Nat) (i:Nat):List (Nat×Nat):=f.P++Qk f.N ((kpI f o i).filter (sml f.B))
def spR (f:Fn) (o:List Nat) (i:Nat):List (Nat×Nat):=Qk f.N ((kpI f o i).filter (fun x=>!sml f.B x))
noncomputable def spF (f:Fn) (o:List Nat) (i:Nat):Bool:=@decide (∃ x∈kpI f o i,x∉ks f.R) (Classical.propDecidable _)
theorem Qc2 (N:Nat) (l:List Nat) (x:Nat):Qk N (l++[x])=Qk N l++[(x,mlt x N)]:=by simp[Qk]
theorem QiI {f:Fn} {o:List Nat} {i:Nat} (hi:i<o.length) (h:∃ r∈ks f.R,o.getD i 0∣r) (hs:sml f.B (o.getD i 0)=true) :
  spP f o (i+1)=spP f o i++[(o.getD i 0,mlt (o.getD i 0) f.N)]/\spR f o (i+1)=spR f o i:=by
 unfold spP spR;rw[Qhs hi h,List.filter_append,List.filter_append,List.filter_cons_of_pos hs,List.filter_cons_of_neg (by show ¬ (!sml f.B (o.getD i 0))=true;rw[hs];decide),List.filter_nil,List.filter_nil,Qc2,List.append_nil,List.append_assoc];exact⟨rfl,rfl⟩
theorem QkR {f:Fn} {o:List Nat} {i:Nat} (hi:i<o.length) (h:∃ r∈ks f.R,o.getD i 0∣r) (hs:¬ sml f.B (o.getD i 0)=true) :
  spP f o (i+1)=spP f o i/\spR f o (i+1)=spR f o i++[(o.getD i 0,mlt (o.getD i 0) f.N)]:=by
 unfold spP spR;rw[Qhs hi h,List.filter_append,List.filter_append,List.filter_cons_of_neg hs,List.filter_cons_of_pos (by show (!sml f.B (o.getD i 0))=true;rw[Bool.eq_false_iff.2 hs];rfl),List.filter_nil,List.filter_nil,Qc2,List.append_nil];exact⟨rfl,rfl⟩
theorem BuO.sp {w':World} {B:Nat} {vP' vR':Value} {f:Fn} {o:List Nat} {i:Nat} (h:BuO w' B vP' vR' (f.N:Int) (zP (spP f o i)) (zP (spR f o i)) (f.B:Int) ((o.getD i 0:Nat):Int) ((mlt (o.getD i 0) f.N:Nat):Int)) (hi:i<o.length) (hd:∃ r∈ks f.R,o.getD i 0∣r) :
  Bu w' B vP' vR' (f.N:Int) (zP (spP f o (i+1))) (zP (spR f o (i+1))) (f.B:Int):=by
 have e:((f.B:Int)+1)*((f.B:Int)+1)=(((f.B+1)*(f.B+1):Nat):Int):=by simp
 by_cases hs:sml f.B (o.getD i 0)=true
 ·obtain⟨e1,e2⟩:=QiI hi hd hs;rw[e1,e2,QbB];unfold sml at hs;have hs:=of_decide_eq_true hs;exact h.1 (by rw[e];omega)
 ·obtain⟨e1,e2⟩:=QkR hi hd hs;rw[e1,e2,QbB];unfold sml at hs;have hs:¬ o.getD i 0<(f.B+1)*(f.B+1):=fun hh=>hs (decide_eq_true hh);exact h.2 (by rw[e];omega)
structure SpI (W wr:World) (B:Nat) (vP vR:Value) (N:Nat) (P R:List (Nat×Nat)) (b:Nat) (vO:Value) (O:List Nat) (vL:Value) (L:List Nat):Prop where
 hB:Bu wr B vP vR N (zP P) (zP R) b
 hk:∀ k,YB B vP vR k->W.heap.size<=k
 hO:So eI wr W.heap.size vO (zI O)
 nO:∀ g,vO.ownBlock=some g->¬ YB B vP vR g
 hL:So eI wr W.heap.size vL (zI L)
 nL:∀ g,vL.ownBlock=some g->¬ YB B vP vR g
 hb:Below W.heap.size W wr
section
variable {W wr w':World} {B:Nat} {vP vR:Value} {N:Nat} {P R:List (Nat×Nat)} {b:Nat} {vO:Value} {O:List Nat} {vL:Value} {L:List Nat}
theorem SpI.up (h:SpI W wr B vP vR N P R b vO O vL L) (hb:Below wr.heap.size wr w'):SpI W w' B vP vR N P R b vO O vL L:=
 ⟨h.hB.up hb,h.hk,h.hO.up hb,h.nO,h.hL.up hb,h.nL,Bl.up h.hb hb⟩
end
def f0:Fz:=⟨0,[],[],0⟩
theorem Ss.lit2 {α : Type} {E:Elt α} {w:World} (T:TypeId) (a1 a2:Option Addr) (n1 n2 c1 c2:Nat) (l1 l2:List α) (h1n:l1.length=n1) (h2n:l2.length=n2) (h1:Sr E w (.slice a1 n1 c1) l1) (h2:Sr E w (.slice a2 n2 c2) l2) :
  Ss E (w.alloc (.cells #[.slice a1 n1 c1,.slice a2 n2 c2] T)) (.slice (some ⟨w.heap.size,0,none⟩) 2 2) [l1,l2]:=
 ⟨_,_,fun i=>if i=0 then .slice a1 n1 c1 else .slice a2 n2 c2,rfl,(Own.lit w #[.slice a1 n1 c1,.slice a2 n2 c2] T 2 _ rfl (fun i hi=>by
   have:i=0\/i=1:=by omega
   rcases this with rfl|rfl <;> rfl)).cl,fun i hi=>by
  have aA:i=0\/i=1:=by simp at hi;omega
  rcases aA with rfl|rfl
  ·exact h1.alloc _
  ·exact h2.alloc _⟩
theorem It.top {w:World} {v:Value} {z:Int} (h:It w v z):∃ a cap f,v=.agg #[.bool (decide (z<0)),.slice a (sz z) cap]/\Wd w a (sz z) f/\Wf f (sz z)/\nv f (sz z)=z.natAbs/\(sz z≠0->f (sz z-1)≠0)/\(sz z=0->decide (z<0)=false):=by
 obtain⟨a,cap,f,h1,h2,h3,h4,h5,h6⟩:=h.parts;exact⟨a,cap,f,h1,h3,h4,h6,fun h0=>h5.resolve_left h0,fun h0=>by rw[QbF] at h0;simp[h0]⟩
def QaA (l:List (Int×Int)) (i:Nat):Prop:=2<=(l.getD i (0,0)).1/\1<=(l.getD i (0,0)).2/\(0<i->(l.getD (i-1) (0,0)).1<(l.getD i (0,0)).1)
noncomputable def ordB (l:List (Int×Int)):Bool:=@decide (∀ i,i<l.length->QaA l i) (Classical.propDecidable _)
theorem QeM (va:Value) (x:Int) (w:World) (hx:It w va x) (hs:sz x<=4611686018427387904) :
  Calls Tryz.prog 183 #[va] w fun e w'=>e=.returned (.bool true)/\Below w.heap.size w w':=by
 obtain⟨a,aA,f,rfl,hw,hf,hv,ht,hz⟩:=hx.top;clear hx hv;generalize sz x=n at *;generalize decide (x<0)=s at *;have bl:=Qc w (Qlr 33 s a n aA);rcases Nat.eq_zero_or_pos n with h0|h0
 ·subst h0;obtain rfl:=hz rfl;go_enter Tryz.func183,Tryz.ntmps183
  go_wp2_with fail;go_ret
  exact⟨rfl,bl⟩
 ·obtain⟨b,aB,rfl,hb,hc⟩:=hw.at (i:=n-1) (by omega);have aD:=QaD bl (hc (n-1) (by omega));have aC:((f (n-1):Int) != 0)=true:=by rw[bne_iff_ne];have:=ht (by omega);omega
  have i0:((n:Int) == 0)=false:=by rw[beq_eq_false_iff_ne];omega
  have i2:(0:Int)<=(n:Int)-1:=by omega
  have i3:(n:Int)-1<(n:Int):=by omega
  have i4:((n:Int)-1).toNat=n-1:=by omega
  clear hc hw ht hz;go_enter Tryz.func183,Tryz.ntmps183
  go_wp2_with fail
  all_goals go_ret
  all_goals exact⟨rfl,bl⟩
