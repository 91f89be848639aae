/-
  law29.changed.
-/
import Derived.Deep.CutBlock
import Derived.Deep.DeepCutAuto
import Derived.Test.YteidokhjmbihlaaGreatDO
import Derived.Test.YteidokhjmbihlaaGreatFZA
import Derived.Test.YteidokhjmbihlaaGreatDM
import Derived.Test.YteidokhjmbihlaaGreatDH
set_option linter.all false
set_option maxRecDepth 100000
set_option maxHeartbeats 8000000
namespace Go.Proofs.YteidokhjmbihlaaGreat
open Go.RowKit
structure Ap9 (l:List (Int×Int×Int×Int)) (m:List (Int×Int×Int)) (W0:World) (b:Nat->Bool) (x:Nat->Value) (W:World):Prop where
 bl:Below W0.heap.size W0 W
 s0:b 0=true->b 5=false->So eFd W W0.heap.size (x 0) []
 s5:b 5=true->So eFd W W0.heap.size (x 5) l
 s6:b 6=true->b 11=false->So eIs W W0.heap.size (x 6) []
 s11:b 11=true->So eIs W W0.heap.size (x 11) m
section
variable {l:List (Int×Int×Int×Int)} {m:List (Int×Int×Int)} {W0 W W':World} {b:Nat->Bool} {x:Nat->Value}
theorem Ap9.start (l:List (Int×Int×Int×Int)) (m:List (Int×Int×Int)) (W0:World) (x:Nat->Value):Ap9 l m W0 (fun _=>false) x W0.drew:=
 ⟨(Below.refl _ _).drew,(fun h=>nomatch h),(fun h=>nomatch h),(fun h=>nomatch h),(fun h=>nomatch h)⟩
theorem Ap9.zero (h:Ap9 l m W0 b x W):Ap9 l m W0 (QE b 0 true) (QE x 0 (.slice (some ⟨W.heap.size,0,none⟩) 0 0)) (W.alloc (.cells #[] 78)):=by
 have hb:=Qa W (.cells #[] 78);refine⟨Bl.up h.bl hb,fun _ _=>?_,fun h5=>?_,fun h6 h11=>?_,fun h11=>?_⟩
 ·rw[Qe];exact So.lit0 eFd W h.bl.size
 ·rw[Qd _ _ (by decide)] at h5 |-;exact(h.s5 h5).up hb
 ·rw[Qd _ _ (by decide)] at h6 h11 |-;exact(h.s6 h6 h11).up hb
 ·rw[Qd _ _ (by decide)] at h11 |-;exact(h.s11 h11).up hb
theorem Ap9.six (h:Ap9 l m W0 b x W):Ap9 l m W0 (QE b 6 true) (QE x 6 (.slice (some ⟨W.heap.size,0,none⟩) 0 0)) (W.alloc (.cells #[] 93)):=by
 have hb:=Qa W (.cells #[] 93);refine⟨Bl.up h.bl hb,fun h0 h5=>?_,fun h5=>?_,fun _ _=>?_,fun h11=>?_⟩
 ·rw[Qd _ _ (by decide)] at h0 h5 |-;exact(h.s0 h0 h5).up hb
 ·rw[Qd _ _ (by decide)] at h5 |-;exact(h.s5 h5).up hb
 ·rw[Qe];exact So.lit0 eIs W h.bl.size
 ·rw[Qd _ _ (by decide)] at h11 |-;exact(h.s11 h11).up hb
theorem Ap9.five (h:Ap9 l m W0 b x W) (h0:b 0=true) (h5:b 5=false) {v:Value} (hv:So eFd W' W0.heap.size v l) (hb:ButS (fun k=>(x 0).ownBlock=some k) W W'):Ap9 l m W0 (QE b 5 true) (QE x 5 v) W':=by
 have k:=h.s0 h0 h5;refine⟨ButS.below h.bl hb h.bl.size (fun g e=>(k.lt g e).1),fun _ h5'=>?_,fun _=>?_,fun h6 h11=>?_,fun h11=>?_⟩
 ·rw[Qe] at h5';cases h5'
 ·rw[Qe];exact hv
 ·rw[Qd _ _ (by decide)] at h6 h11 |-;exact(h.s6 h6 h11).fr hb k.nw (fun g e e'=>k.disj (h.s6 h6 h11) (by decide) g e' e)
 ·rw[Qd _ _ (by decide)] at h11 |-;exact(h.s11 h11).fr hb k.nw (fun g e e'=>k.disj (h.s11 h11) (by decide) g e' e)
theorem Ap9.eleven (h:Ap9 l m W0 b x W) (h6:b 6=true) (h11:b 11=false) {v:Value} (hv:So eIs W' W0.heap.size v m) (hb:ButS (fun k=>(x 6).ownBlock=some k) W W'):Ap9 l m W0 (QE b 11 true) (QE x 11 v) W':=by
 have k:=h.s6 h6 h11;refine⟨ButS.below h.bl hb h.bl.size (fun g e=>(k.lt g e).1),fun h0 h5=>?_,fun h5=>?_,fun _ h11'=>?_,fun _=>?_⟩
 ·rw[Qd _ _ (by decide)] at h0 h5 |-;exact(h.s0 h0 h5).fr hb k.nw (fun g e e'=>k.disj (h.s0 h0 h5) (by decide) g e' e)
 ·rw[Qd _ _ (by decide)] at h5 |-;exact(h.s5 h5).fr hb k.nw (fun g e e'=>k.disj (h.s5 h5) (by decide) g e' e)
 ·rw[Qe] at h11';cases h11'
 ·rw[Qe];exact hv
end
theorem Y8 {w:World} {g o:Nat} {v:Value} (h:w.cell? ⟨g,o,none⟩=some v):w.setCell ⟨g,o,none⟩ v=w:=by
 have aA:w.heap.modify g (fun | .cells c elem frozen=>.cells (if (none:Option Nat).isSome then c else c.setIfInBounds o v) elem frozen|o=>o)=w.heap:=by
  apply Array.ext_getElem?
  intro k;rw[Array.getElem?_modify];split
  ·rename_i e
   subst e;unfold World.cell? at h
   cases hk:w.heap[g]? with
   | none=>rfl
   | some x =>
     simp only[hk] at h
     cases x with
     | cells c e f =>
       simp at h
       simp
       apply Array.ext_getElem?
       intro j;by_cases hj:j=o
       ·subst hj;rw[Array.getElem?_setIfInBounds_self_of_lt (Ql h).1,h]
       ·rw[Array.getElem?_setIfInBounds_ne (Ne.symm hj)]
     | _=>rfl
  ·rfl
 unfold World.setCell;exact congrArg (fun h=>{ w with heap:=h }) aA
theorem So.frz {α : Type} {E:Elt α} {w:World} {base g n cap:Nat} {l:List α} (h:So E w base (.slice (some ⟨g,0,none⟩) n cap) l) (o:Nat):w.frozen? ⟨g,o,none⟩=false:=by
 obtain⟨cs,hc⟩:=h.typ g rfl;simp[World.frozen?,hc]
theorem Qk3 {w:World} {g i j o:Nat} {u v x:Value} (h:w.cell? ⟨g,o,none⟩=some x) (hi:i≠o) (hj:j≠o):((w.setCell ⟨g,i,none⟩ u).setCell ⟨g,j,none⟩ v).cell? ⟨g,o,none⟩=some x:=by
 rw[World.cell?_setCell_other _ _ _ _ (fun e=>hj (by injection e)),World.cell?_setCell_other _ _ _ _ (fun e=>hi (by injection e))];exact h
section
variable {w:World} {base g n cap:Nat}
theorem So.fdN {l:List (Int×Int×Int×Int)} (h:So eFd w base (.slice (some ⟨g,0,none⟩) n cap) l) {i:Nat} (hi:i<l.length) {s:Bool} {a:Option Addr} {m c:Nat} {z:Int} (hz:It w (Qme s a m c) z) :
  So eFd ((w.setCell ⟨g,i*8+6,none⟩ (.bool s)).setCell ⟨g,i*8+6+1,none⟩ (.slice a m c)) base (.slice (some ⟨g,0,none⟩) n cap) (l.set i ((l.getD i (0,0,0,0)).1,(l.getD i (0,0,0,0)).2.1,(l.getD i (0,0,0,0)).2.2.1,z)):=by
 obtain⟨s1,a1,n1,k1,s2,a2,n2,k2,s3,a3,n3,k3,s4,a4,n4,k4,⟨c0,c1,c2,c3,c4,c5,-,-⟩,⟨_,_,_,_,_,_,_,_,_,_,_,_,_,_,_,_,e0,I1,I2,I3,-⟩,-⟩:=h.sc.fd hi;simp only[Value.agg.injEq,Array.mk.injEq,List.cons.injEq,and_true,Value.bool.injEq,Value.slice.injEq] at e0;obtain⟨rfl,⟨rfl,rfl,rfl⟩,rfl,⟨rfl,rfl,rfl⟩,rfl,⟨rfl,rfl,rfl⟩,rfl,rfl,rfl,rfl⟩:=e0;have h3:=h.setE hi (cs:=[.bool s1,.slice a1 n1 k1,.bool s2,.slice a2 n2 k2,.bool s3,.slice a3 n3 k3,.bool s,.slice a m c]) (x:=((l.getD i (0,0,0,0)).1,(l.getD i (0,0,0,0)).2.1,(l.getD i (0,0,0,0)).2.2.1,z)) ⟨_,_,_,_,_,_,_,_,_,_,_,_,_,_,_,_,rfl,I1,I2,I3,hz⟩;rw[Nat.zero_add] at c0 c1 c2 c3 c4 c5;rw[show i*(eFd:Elt _).k=i*8 from rfl] at h3;simp only[World.setCells,Nat.add_assoc,Nat.reduceAdd] at h3;rw[Y8 c0,Y8 c1,Y8 c2,Y8 c3,Y8 c4,Y8 c5] at h3;exact h3
theorem So.fdE {l:List (Int×Int×Int×Int)} (h:So eFd w base (.slice (some ⟨g,0,none⟩) n cap) l) {i:Nat} (hi:i<l.length) {s:Bool} {a:Option Addr} {m c:Nat} {z:Int} (hz:It w (Qme s a m c) z) :
  So eFd ((w.setCell ⟨g,i*8+4,none⟩ (.bool s)).setCell ⟨g,i*8+4+1,none⟩ (.slice a m c)) base (.slice (some ⟨g,0,none⟩) n cap) (l.set i ((l.getD i (0,0,0,0)).1,(l.getD i (0,0,0,0)).2.1,z,(l.getD i (0,0,0,0)).2.2.2)):=by
 obtain⟨s1,a1,n1,k1,s2,a2,n2,k2,s3,a3,n3,k3,s4,a4,n4,k4,⟨c0,c1,c2,c3,-,-,c6,c7⟩,⟨_,_,_,_,_,_,_,_,_,_,_,_,_,_,_,_,e0,I1,I2,-,I4⟩,-⟩:=h.sc.fd hi;simp only[Value.agg.injEq,Array.mk.injEq,List.cons.injEq,and_true,Value.bool.injEq,Value.slice.injEq] at e0;obtain⟨rfl,⟨rfl,rfl,rfl⟩,rfl,⟨rfl,rfl,rfl⟩,rfl,⟨rfl,rfl,rfl⟩,rfl,rfl,rfl,rfl⟩:=e0;have h3:=h.setE hi (cs:=[.bool s1,.slice a1 n1 k1,.bool s2,.slice a2 n2 k2,.bool s,.slice a m c,.bool s4,.slice a4 n4 k4]) (x:=((l.getD i (0,0,0,0)).1,(l.getD i (0,0,0,0)).2.1,z,(l.getD i (0,0,0,0)).2.2.2)) ⟨_,_,_,_,_,_,_,_,_,_,_,_,_,_,_,_,rfl,I1,I2,hz,I4⟩;rw[Nat.zero_add] at c0 c1 c2 c3 c6 c7;rw[show i*(eFd:Elt _).k=i*8 from rfl] at h3;simp only[World.setCells,Nat.add_assoc,Nat.reduceAdd] at h3;have d6:=Qk3 (i:=i*8+4) (j:=i*8+5) (u:=.bool s) (v:=.slice a m c) c6 (by omega) (by omega);have d7:=Qk3 (i:=i*8+4) (j:=i*8+5) (u:=.bool s) (v:=.slice a m c) c7 (by omega) (by omega);rw[Y8 c0,Y8 c1,Y8 c2,Y8 c3,Y8 d6,Y8 d7] at h3;exact h3
theorem So.isP {l:List (Int×Int×Int)} (h:So eIs w base (.slice (some ⟨g,0,none⟩) n cap) l) {i:Nat} (hi:i<l.length) (z:Int) :
  So eIs (w.setCell ⟨g,i*4+2,none⟩ (.int .i64 z)) base (.slice (some ⟨g,0,none⟩) n cap) (l.set i ((l.getD i (0,0,0)).1,z,(l.getD i (0,0,0)).2.2)):=by
 obtain⟨s1,a1,n1,k1,⟨c0,c1,-,c3⟩,I1⟩:=h.sc.is hi;have h3:=h.setE hi (cs:=[.bool s1,.slice a1 n1 k1,.int .i64 z,.int .i64 (l.getD i (0,0,0)).2.2]) (x:=((l.getD i (0,0,0)).1,z,(l.getD i (0,0,0)).2.2)) ⟨_,_,_,_,rfl,I1⟩;rw[Nat.zero_add] at c0 c1 c3;rw[show i*(eIs:Elt _).k=i*4 from rfl] at h3;simp only[World.setCells,Nat.add_assoc,Nat.reduceAdd] at h3;have d3:(w.setCell ⟨g,i*4+2,none⟩ (.int .i64 z)).cell? ⟨g,i*4+3,none⟩=some (.int .i64 (l.getD i (0,0,0)).2.2):=by rw[World.cell?_setCell_other _ _ _ _ (by simp)];exact c3
 rw[Y8 c0,Y8 c1,Y8 d3] at h3;exact h3
theorem So.isK {l:List (Int×Int×Int)} (h:So eIs w base (.slice (some ⟨g,0,none⟩) n cap) l) {i:Nat} (hi:i<l.length) (z:Int) :
  So eIs (w.setCell ⟨g,i*4+3,none⟩ (.int .i64 z)) base (.slice (some ⟨g,0,none⟩) n cap) (l.set i ((l.getD i (0,0,0)).1,(l.getD i (0,0,0)).2.1,z)):=by
 obtain⟨s1,a1,n1,k1,⟨c0,c1,c2,-⟩,I1⟩:=h.sc.is hi;have h3:=h.setE hi (cs:=[.bool s1,.slice a1 n1 k1,.int .i64 (l.getD i (0,0,0)).2.1,.int .i64 z]) (x:=((l.getD i (0,0,0)).1,(l.getD i (0,0,0)).2.1,z)) ⟨_,_,_,_,rfl,I1⟩;rw[Nat.zero_add] at c0 c1 c2;rw[show i*(eIs:Elt _).k=i*4 from rfl] at h3;simp only[World.setCells,Nat.add_assoc,Nat.reduceAdd] at h3;rw[Y8 c0,Y8 c1,Y8 c2] at h3;exact h3
end
theorem Fnd.ok {w:World} {cs:List Value} {x:Int×Int×Int×Int} (h:Fnd w (.agg cs.toArray) x.1 x.2.1 x.2.2.1 x.2.2.2):QlO w cs x:=by
 obtain⟨_,_,_,_,_,_,_,_,_,_,_,_,_,_,_,_,e,h1,h2,h3,h4⟩:=h;injection e with e;exact⟨_,_,_,_,_,_,_,_,_,_,_,_,_,_,_,_,congrArg Array.toList e,h1,h2,h3,h4⟩
theorem Fnd.fr {w w':World} {S:Nat->Prop} {v:Value} {x y z t:Int} (h:Fnd w v x y z t) (hb:ButS S w w') (hS:∀ g,S g->NoW w g):Fnd w' v x y z t:=by
 obtain⟨_,_,_,_,_,_,_,_,_,_,_,_,_,_,_,_,e,h1,h2,h3,h4⟩:=h;exact⟨_,_,_,_,_,_,_,_,_,_,_,_,_,_,_,_,e,h1.fr hb hS,h2.fr hb hS,h3.fr hb hS,h4.fr hb hS⟩
structure Sm4 (l:List (Int×Int×Int×Int)):Prop where
 len:l.length<=67108865
 el:∀ f∈l,sz f.1<=1000000/\sz f.2.1<=1000000/\sz f.2.2.1<=1000000/\sz f.2.2.2<=1000000
structure Sm3 (m:List (Int×Int×Int)):Prop where
 len:m.length<=67108865
 el:∀ f∈m,sz f.1<=1000000 /\ -9223372036854775808<=f.2.1/\f.2.1<=9223372036854775807 /\ -9223372036854775808<=f.2.2/\f.2.2<=9223372036854775807
theorem Sm4.szf {l:List (Int×Int×Int×Int)} (h:Sm4 l):SzF l:=⟨by have:=h.len;omega,h.el⟩
theorem Sm3.szn {m:List (Int×Int×Int)} (h:Sm3 m):SzN m:=⟨by have:=h.len;omega,h.el⟩
theorem Sm4.set {l:List (Int×Int×Int×Int)} (h:Sm4 l) {i:Nat} {x:Int×Int×Int×Int} (hx:sz x.1<=1000000/\sz x.2.1<=1000000/\sz x.2.2.1<=1000000/\sz x.2.2.2<=1000000):Sm4 (l.set i x):=
 ⟨by rw[List.length_set];exact h.len,fun f hf=>(List.mem_or_eq_of_mem_set hf).elim (h.el f) (fun e=>by rw[e];exact hx)⟩
theorem Sm3.set {l:List (Int×Int×Int)} (h:Sm3 l) {i:Nat} {x:Int×Int×Int} (hx:sz x.1<=1000000 /\ -9223372036854775808<=x.2.1/\x.2.1<=9223372036854775807 /\ -9223372036854775808<=x.2.2/\x.2.2<=9223372036854775807):Sm3 (l.set i x):=
 ⟨by rw[List.length_set];exact h.len,fun f hf=>(List.mem_or_eq_of_mem_set hf).elim (h.el f) (fun e=>by rw[e];exact hx)⟩
attribute [local go_sem ↓] Go.wp_at_zero Go.wp_at_succ
structure Ch9 (w:World) (s1:Bool) (a1:Option Addr) (n1 g1:Nat) (h g:Nat->Value) (vH vN:Value) (w':World):Prop where
 bl:Below w.heap.size w w'
 D:∃ s2 a2 n2 g2 b',w'.heap[w.heap.size]? = some (.cells #[.bool s1,.slice a1 n1 g1,.bool s2,.slice a2 n2 g2,h 0,h 1,g 0,g 1] 87)/\It w' (Qme s2 a2 n2 g2) b'/\sz b'<=1000000
 R:w'.heap[w.heap.size+1+1]? = some (Qmi 87 false none 0 0 false none 0 0 none 0 0 none 0 0 none 0 0 none 0 0)
 H:∃ l,Sm4 l/\So eFd w' (w.heap.size+1+1+1) vH l
 N:∃ m,Sm3 m/\So eIs w' (w.heap.size+1+1+1) vN m
theorem QiY {w wd w':World} {s1 s2:Bool} {a1 a2:Option Addr} {n1 g1 n2 g2:Nat} {h g:Nat->Value} {vH vN:Value} {b:Int} {w4:Nat} {S:Nat->Prop} (hD:wd.heap[w.heap.size]? = some (.cells #[.bool s1,.slice a1 n1 g1,.bool s2,.slice a2 n2 g2,h 0,h 1,g 0,g 1] 87)) (hR:wd.heap[w.heap.size+1+1]? = some (Qmi 87 false none 0 0 false none 0 0 none 0 0 none 0 0 none 0 0 none 0 0)) (hI:It wd (Qme s2 a2 n2 g2) b) (hs:sz b<=1000000)
  (hbl:Below w.heap.size w wd) (hle:w.heap.size+1+1+1<=w4) (hb:ButS S wd w') (hS:∀ g,S g->NoW wd g/\w4<=g) (hH:∃ l,Sm4 l/\So eFd w' w4 vH l) (hN:∃ m,Sm3 m/\So eIs w' w4 vN m):Ch9 w s1 a1 n1 g1 h g vH vN w':=by
 obtain⟨l,e1,e2⟩:=hH;obtain⟨m,e3,e4⟩:=hN;exact⟨ButS.below hbl hb hbl.size (fun g e=>by have:=(hS g e).2;omega),⟨_,_,_,_,b,(hb.block _ (Ql hD).1 (fun e=>by have:=(hS _ e).2;omega)).trans hD,hI.fr hb (fun g e=>(hS g e).1),hs⟩,(hb.block _ (Ql hR).1 (fun e=>by have:=(hS _ e).2;omega)).trans hR,⟨l,e1,e2.base hle⟩,⟨m,e3,e4.base hle⟩⟩
theorem So.one {α : Type} {E:Elt α} {w:World} {base g n cap:Nat} {l:List α} (h:So E w base (.slice (some ⟨g,0,none⟩) n cap) l):∀ k,k=g->NoW w k/\base<=k:=fun k e=>by rw[e];exact⟨h.nw g rfl,(h.lt g rfl).1⟩
theorem So.all {α : Type} {E:Elt α} {w:World} {base:Nat} {v:Value} {l:List α} (h:So E w base v l):∀ k,v.ownBlock=some k->NoW w k/\base<=k:=fun k e=>⟨h.nw k e,(h.lt k e).1⟩
abbrev zs4 (x:Int×Int×Int×Int):Prop:=sz x.1<=1000000/\sz x.2.1<=1000000/\sz x.2.2.1<=1000000/\sz x.2.2.2<=1000000
abbrev zs3 (x:Int×Int×Int):Prop:=sz x.1<=1000000 /\ -9223372036854775808<=x.2.1/\x.2.1<=9223372036854775807 /\ -9223372036854775808<=x.2.2/\x.2.2<=9223372036854775807
theorem Sm4.snoc {l:List (Int×Int×Int×Int)} (h:Sm4 l) (h2:l.length<=67108864) {x:Int×Int×Int×Int} (hx:zs4 x):Sm4 (l++[x]):=
 ⟨by rw[List.length_append,List.length_singleton];omega,fun f hf=>(List.mem_append.1 hf).elim (h.el f) (fun e=>by rw[List.mem_singleton.1 e];exact hx)⟩
theorem Sm3.snoc {l:List (Int×Int×Int)} (h:Sm3 l) (h2:l.length<=67108864) {x:Int×Int×Int} (hx:zs3 x):Sm3 (l++[x]):=
 ⟨by rw[List.length_append,List.length_singleton];omega,fun f hf=>(List.mem_append.1 hf).elim (h.el f) (fun e=>by rw[List.mem_singleton.1 e];exact hx)⟩
theorem Sm3.cons {l:List (Int×Int×Int)} (h:Sm3 l) (h2:l.length<=67108864) {x:Int×Int×Int} (hx:zs3 x):Sm3 ([x]++l):=
 ⟨by rw[List.length_append,List.length_singleton];omega,fun f hf=>(List.mem_append.1 hf).elim (fun e=>by rw[List.mem_singleton.1 e];exact hx) (h.el f)⟩
theorem QcF (vd:Value) (a b:Int) (l0 l1:List (Int×Int×Int×Int)) (m0 m1:List (Int×Int×Int)) (kd it at':Nat) (nz:Int) (w:World) (h:Dsc w vd a b l0 l1 m0 m1) (hk:kd<256) (hi:it<256) (ha:at'<256) (hK1 : -32768<=nz) (hK2:nz<=32767)
  (hb:sz b<=1000000) (hl0:Sm4 l0) (hl1:Sm4 l1) (hm0:Sm3 m0) (hm1:Sm3 m1) (e0:l0.length<=67108864) (e1:l1.length<=67108864) (e2:m0.length<=67108864) (e3:m1.length<=67108864) :
  Calls Tryz.prog 46 #[vd,.agg #[.int .u8 (kd:Int),.int .u8 (it:Int),.int .u8 (at':Int),.int .i16 nz]] w fun e w'=>∃ v b' l0' l1' m0' m1',e=.returned v/\Dsc w' v a b' l0' l1' m0' m1'/\sz b'<=1000000/\SzF l0'/\SzF l1'/\SzN m0'/\SzN m1'/\Below w.heap.size w w':=by
 obtain⟨s1,a1,n1,g1,s2,a2,n2,g2,d0,o0,q0,d1,o1,q1,d2,o2,q2,d3,o3,q3,rfl,hA,hB,hl,b6,hm,b5⟩:=h;obtain⟨rfl,-⟩:=hl.len;obtain⟨rfl,-⟩:=b6.len;obtain⟨rfl,-⟩:=hm.len;obtain⟨rfl,-⟩:=b5.len;obtain⟨L,rfl,rfl⟩:∃ L:Nat->List (Int×Int×Int×Int),L 0=l0/\L 1=l1:=⟨fun k=>if k=0 then l0 else l1,rfl,rfl⟩;obtain⟨M,rfl,rfl⟩:∃ M:Nat->List (Int×Int×Int),M 0=m0/\M 1=m1:=⟨fun k=>if k=0 then m0 else m1,rfl,rfl⟩;obtain⟨h,h0,h1⟩:∃ h:Nat->Value,.slice d0 (L 0).length q0=h 0 /\ .slice d1 (L 1).length q1=h 1:=⟨fun k=>if k=0 then _ else _,rfl,rfl⟩;obtain⟨g,g0,cV⟩:∃ g:Nat->Value,.slice d2 (M 0).length q2=g 0 /\ .slice d3 (M 1).length q3=g 1:=⟨fun k=>if k=0 then _ else _,rfl,rfl⟩
 have HS:=Qh (show ∀ k,k<2->Sr eFd w (h k) (L k)/\Sr eIs w (g k) (M k)/\(Sm4 (L k)/\(L k).length<=67108864)/\Sm3 (M k)/\(M k).length<=67108864 from fun k hk=>by
  rw[h0] at hl;rw[h1] at b6;rw[g0] at hm;rw[cV] at b5;rcases (show k=0\/k=1 by omega) with rfl|rfl
  ·exact⟨hl,hm,⟨hl0,e0⟩,hm0,e2⟩
  ·exact⟨b6,b5,⟨hl1,e1⟩,hm1,e3⟩)
 have aY:=Qh (show ∀ k,k<2->noW (h k)=true/\noW (g k)=true from fun k hk=>by
  obtain⟨⟨_,_,e1,-⟩,⟨_,_,e2,-⟩,-⟩:=HS.out k hk;rw[e1,e2];exact⟨rfl,rfl⟩)
 obtain⟨F,dV,kF⟩:=kpe (fun w'=>w'.heap[w.heap.size]? = some (.cells #[.bool s1,.slice a1 n1 g1,.bool s2,.slice a2 n2 g2,h 0,h 1,g 0,g 1] 87)/\w'.heap[w.heap.size+1]? = some (.cells #[.int .u8 (kd:Int),.int .u8 (it:Int),.int .u8 (at':Int),.int .i16 nz] 103)/\w'.heap[w.heap.size+1+1]? = some (Qmi 87 false none 0 0 false none 0 0 none 0 0 none 0 0 none 0 0 none 0 0)/\It w' (Qme s2 a2 n2 g2) b/\Below w.heap.size w w'/\w.heap.size+1+1+1<=w'.heap.size);have aM:=Qh dV;clear dV;have b0:=Qa w (.cells #[.bool s1,.slice a1 n1 g1,.bool s2,.slice a2 n2 g2,.slice d0 (L 0).length q0,.slice d1 (L 1).length q1,.slice d2 (M 0).length q2,.slice d3 (M 1).length q3] 87);have b1:=Qa (w.alloc (.cells #[.bool s1,.slice a1 n1 g1,.bool s2,.slice a2 n2 g2,.slice d0 (L 0).length q0,.slice d1 (L 1).length q1,.slice d2 (M 0).length q2,.slice d3 (M 1).length q3] 87)) (.cells #[.int .u8 (kd:Int),.int .u8 (it:Int),.int .u8 (at':Int),.int .i16 nz] 103);have b2:=Qa ((w.alloc (.cells #[.bool s1,.slice a1 n1 g1,.bool s2,.slice a2 n2 g2,.slice d0 (L 0).length q0,.slice d1 (L 1).length q1,.slice d2 (M 0).length q2,.slice d3 (M 1).length q3] 87)).alloc (.cells #[.int .u8 (kd:Int),.int .u8 (it:Int),.int .u8 (at':Int),.int .i16 nz] 103)) (Qmi 87 false none 0 0 false none 0 0 none 0 0 none 0 0 none 0 0 none 0 0);have dY:=Zk1 w (.cells #[.bool s1,.slice a1 n1 g1,.bool s2,.slice a2 n2 g2,.slice d0 (L 0).length q0,.slice d1 (L 1).length q1,.slice d2 (M 0).length q2,.slice d3 (M 1).length q3] 87);have cX:=Zk1 (w.alloc (.cells #[.bool s1,.slice a1 n1 g1,.bool s2,.slice a2 n2 g2,.slice d0 (L 0).length q0,.slice d1 (L 1).length q1,.slice d2 (M 0).length q2,.slice d3 (M 1).length q3] 87)) (.cells #[.int .u8 (kd:Int),.int .u8 (it:Int),.int .u8 (at':Int),.int .i16 nz] 103);have cW:=Zk1 ((w.alloc (.cells #[.bool s1,.slice a1 n1 g1,.bool s2,.slice a2 n2 g2,.slice d0 (L 0).length q0,.slice d1 (L 1).length q1,.slice d2 (M 0).length q2,.slice d3 (M 1).length q3] 87)).alloc (.cells #[.int .u8 (kd:Int),.int .u8 (it:Int),.int .u8 (at':Int),.int .i16 nz] 103)) (Qmi 87 false none 0 0 false none 0 0 none 0 0 none 0 0 none 0 0 none 0 0);rw[Zk2] at cX;rw[Zk2,Zk2] at cW;have cZ:=Bl.up b1 b2;have bb:=Bl.up b0 cZ;have HF:Hid (F (((w.alloc (.cells #[.bool s1,.slice a1 n1 g1,.bool s2,.slice a2 n2 g2,.slice d0 (L 0).length q0,.slice d1 (L 1).length q1,.slice d2 (M 0).length q2,.slice d3 (M 1).length q3] 87)).alloc (.cells #[.int .u8 (kd:Int),.int .u8 (it:Int),.int .u8 (at':Int),.int .i16 nz] 103)).alloc (Qmi 87 false none 0 0 false none 0 0 none 0 0 none 0 0 none 0 0 none 0 0))):=Qh ((aM.out _).2 ⟨by rw[<- h0,<- h1,<- g0,<- cV];exact(Kp.blk _ _).up dY cZ,(Kp.blk _ _).up cX b2,cW,hB.up bb,bb,by simp only[Zk2];exact Nat.le_refl _⟩);have eQ:=Qh hb;have eW:=Qh hA;clear hA hB hl b6 hm b5 b0 b1 b2 dY cX cW cZ bb hl0 hl1 hm0 hm1 e0 e1 e2 e3 hb h0 h1 g0 cV;go_enter Tryz.func46,Tryz.ntmps46
 go_upto_region 1 with fail;generalize ((w.alloc (.cells #[.bool s1,.slice a1 n1 g1,.bool s2,.slice a2 n2 g2,.slice d0 (L 0).length q0,.slice d1 (L 1).length q1,.slice d2 (M 0).length q2,.slice d3 (M 1).length q3] 87)).alloc (.cells #[.int .u8 (kd:Int),.int .u8 (it:Int),.int .u8 (at':Int),.int .i16 nz] 103)).alloc (Qmi 87 false none 0 0 false none 0 0 none 0 0 none 0 0 none 0 0 none 0 0)=W at *;obtain⟨iv,eH⟩:∃ iv:Nat,iv=it%2:=⟨_,rfl⟩;have ei:((it:Nat):Int).tmod 2=(iv:Int):=by rw[Int.tmod_eq_emod_of_nonneg (by omega)];omega
 have eO:IntKind.i64.wrap (iv:Int)=(iv:Int):=by rw[IntKind.wrap_i64];omega
 have eK:IntKind.i64.wrap nz=nz:=by rw[IntKind.wrap_i64];omega
 have bM:iv<2:=by omega
 have i0:(0:Int)<=(iv:Int):=by omega
 have i1:(iv:Int)<2:=by omega
 have bE:=Qh bM;clear eH bM;have aK:bc4 W (w.heap.size+1) (.int .u8 (kd:Int)) (.int .u8 (it:Int)) (.int .u8 (at':Int)) (.int .i16 nz):=Qq ((aM.out _).1 HF.out).2.1;refine Qc (by kernel_rfl) [10] (S:=fun w'=>bc4 w' (w.heap.size+1) (.int .u8 (kd:Int)) (.int .u8 (it:Int)) (.int .u8 (at':Int)) (.int .i16 nz)) aK (fun aA=>?_);obtain⟨aR,aQ,aP,aO⟩:=aK;(refine tS 0 rfl ?_;refine tS 1 rfl ?_;refine tS 2 rfl ?_;refine tS 3 rfl ?_;refine tS 4 rfl ?_;refine tS 5 rfl ?_;refine tS 6 rfl ?_)
 clear aA;refine Qy [(7,some 17),(8,some 6)] 2 (FlV (kvO (Qma 33 false none 0 0) (fun i=>if i=7 then .int nz else if i=8 then .any else .any) [8]) W) rfl (by kernel_rfl) (by decide) (by kernel_rfl) (by kernel_rfl) (by kernel_rfl) (fun bb xx wz h=>(fun hb'=>⟨Qb hb' aR,Qb hb' aQ,Qb hb' aP,Qb hb' aO⟩) h.bl) (fun xx=>FlV.start _ _ _) ?_ ?_
 ·intro i hi;have cP:i=7\/i=8:=by simpa using hi
  clear hi;rcases cP with rfl|rfl
  ·refine⟨_,rfl,fun bb xx wz hJ hbf hw K hK=>?_⟩;clear hw;simp only[QG] at hK |-;go_simp;refine mn (Qm nz wz (by omega) (by omega)) fun v w8 hv hb=>?_;exact hK.out _ _ (kvO.put hJ 7 rfl hv hb)
  ·refine⟨_,rfl,fun bb xx wz hJ hbf hw K hK=>?_⟩;clear hbf hw;simp only[QG] at hK |-;go_simp;exact hK.out _ _ (kvO.var hJ 8)
 intro bb xx wz bB hJ;obtain⟨⟨aD,aG,aE,aF⟩,e7,dU⟩:=(kvO.int hJ (i:=7) rfl (bB 7 (by decide))).ip;obtain⟨B8,e8,dX,bC⟩:=hJ.pj 8 rfl (bB 8 (by decide));have aJ:=hJ.bl;clear bB hJ;simp only[Qdr,show xx 7=_ from e7,show xx 8=_ from e8];clear e7 e8;have aA:bc4 wz (w.heap.size+1) (.int .u8 (kd:Int)) (.int .u8 (it:Int)) (.int .u8 (at':Int)) (.int .i16 nz):=⟨Qb aJ aR,Qb aJ aQ,Qb aJ aP,Qb aJ aO⟩;have bC:wz.heap[B8]? = some (Qma 33 false none 0 0):=bC;obtain⟨z0,z1⟩:=Qz bC;obtain⟨y0,y1⟩:=Qfo bC;refine pL 9 rfl ?_;(refine oL 10 rfl fun K hK=>tL ?_;go_simp);(go_wp2_with fail;refine xL hK (tL ?_);clear hK);refine dT ?_;clear aA z0 z1 y0 y1 aR aQ aP aO;have cR:=(ButS.set wz B8 0 (.bool aD)).trans (ButS.set _ B8 1 (.slice aG aE aF))
 have aI:∀ g,g=B8->NoW wz g:=fun g e o x hx=>by
  rw[e] at hx;simp only[World.cell?,bC] at hx;rcases o with _|_|o <;> simp at hx
 have bH:=ButS.below aJ cR aJ.size (fun g e=>by rw[e];exact dX);have HN:=Qh (And.intro (show ((wz.setCell ⟨B8,0,none⟩ (.bool aD)).setCell ⟨B8,1,none⟩ (.slice aG aE aF)).heap[B8]? = some (Qma 33 aD aG aE aF) by simp[World.setCell,Array.getElem?_modify,bC]) (dU.fr cR aI));replace HF:=hu bH HF;clear cR aI bH bC dU aJ dX;generalize (wz.setCell ⟨B8,0,none⟩ (.bool aD)).setCell ⟨B8,1,none⟩ (.slice aG aE aF)=w4 at *;have dA:=Qh ((aM.out _).1 HF.out).2.2.2.2.2;have aB:=Qh (HS.out iv bE.out).2.2;go_upto_region 2 with fail;have aK:w4.cell? ⟨w.heap.size,4+iv,none⟩=some (h iv)/\w4.cell? ⟨w.heap.size,6+iv,none⟩=some (g iv):=(YQ ((aM.out _).1 HF.out).1 bE.out).1;obtain⟨p0,p1⟩:=id aK;refine Qc (by kernel_rfl) [] (S:=fun w'=>w'.cell? ⟨w.heap.size,4+iv,none⟩=some (h iv)/\w'.cell? ⟨w.heap.size,6+iv,none⟩=some (g iv)) aK (fun aA=>?_);clear aK;refine pL 1 rfl ?_;(refine kL 2 rfl ?_;refine kL 3 rfl ?_;refine kL 4 rfl ?_)
 refine pL 7 rfl ?_;(refine kL 8 rfl ?_;refine kL 9 rfl ?_;refine kL 10 rfl ?_)
 clear aA;refine Qy [(0,some 18),(5,some 23),(6,some 24),(11,some 29)] 2 (Ap9 (L iv) (M iv) w4) rfl (by kernel_rfl) (by decide) (by kernel_rfl) (by kernel_rfl) (by kernel_rfl) (fun bb xx wz h=>(fun hb'=>⟨Qb hb' p0,Qb hb' p1⟩) h.bl) (fun xx=>Ap9.start _ _ _ _) ?_ ?_
 ·intro i hi;have cP:i=0\/i=5\/i=6\/i=11:=by simpa using hi
  clear hi;rcases cP with rfl|rfl|rfl|rfl
  ·refine⟨_,rfl,fun bb xx wz hJ hbf hw K hK=>?_⟩;clear hbf hw;simp only[QG] at hK |-;go_simp;exact hK.out _ _ hJ.zero
  ·refine⟨_,rfl,fun bb xx wz hJ hbf hw K hK=>?_⟩;have h0:=hw 0 (by kernel_rfl);clear hw;refine Qde (E:=eFd) (by rfl) (.tmp 18) (.tmp 22) _ (by rfl) Tryz.underlying82 w4.heap.size (xx 0) (h iv) [] (L iv) (by rfl) (hJ.s0 h0 hbf) hJ.bl.size (by rfl) ((HS.out iv bE.out).1.up (Bl.up ((aM.out _).1 HF.out).2.2.2.2.1 hJ.bl)) (by have:=aB.out.1.2;simp;omega) ?_;intro v' w' h1 h2 _ _;exact hK.out _ _ (hJ.five h0 hbf h1 h2)
  ·refine⟨_,rfl,fun bb xx wz hJ hbf hw K hK=>?_⟩;clear hbf hw;simp only[QG] at hK |-;go_simp;exact hK.out _ _ hJ.six
  ·refine⟨_,rfl,fun bb xx wz hJ hbf hw K hK=>?_⟩;have h0:=hw 6 (by kernel_rfl);clear hw;refine Qde (E:=eIs) (by rfl) (.tmp 24) (.tmp 28) _ (by rfl) Tryz.underlying84 w4.heap.size (xx 6) (g iv) [] (M iv) (by rfl) (hJ.s6 h0 hbf) hJ.bl.size (by rfl) ((HS.out iv bE.out).2.1.up (Bl.up ((aM.out _).1 HF.out).2.2.2.2.1 hJ.bl)) (by have:=aB.out.2.2;simp;omega) ?_;intro v' w' h1 h2 _ _;exact hK.out _ _ (hJ.eleven h0 hbf h1 h2)
 intro bb xx wc bB hJ;have hH:=hJ.s5 (bB 5 (by decide));have hN:=hJ.s11 (bB 11 (by decide));have aJ:=hJ.bl;clear bB hJ;obtain⟨u0,dR⟩:∃ u0,u0=xx 0:=⟨_,rfl⟩;obtain⟨u5,cM⟩:∃ u5,u5=xx 5:=⟨_,rfl⟩;obtain⟨u6,dQ⟩:∃ u6,u6=xx 6:=⟨_,rfl⟩;obtain⟨u11,aZ⟩:∃ u11,u11=xx 11:=⟨_,rfl⟩;rw[<- cM] at hH;rw[<- aZ] at hN;simp only[Qdr,<- dR,<- cM,<- dQ,<- aZ];clear dR cM dQ aZ;have kG:Kp fun w'=>F w'/\(w'.heap[B8]? = some (Qma 33 aD aG aE aF)/\It w' (Qme aD aG aE aF) nz)/\So eFd w' w4.heap.size u5 (L iv)/\So eIs w' w4.heap.size u11 (M iv)/\w4.heap.size<=w'.heap.size:=kF.and kpf;have HG:=Qh (show F wc/\(_/\It wc (Qme aD aG aE aF) nz)/\So eFd wc w4.heap.size u5 (L iv)/\So eIs wc w4.heap.size u11 (M iv)/\w4.heap.size<=wc.heap.size from ⟨kF.up HF.out aJ,⟨(Kp.blk _ _).up HN.out.1 aJ,HN.out.2.up aJ⟩,hH,hN,aJ.size⟩);have aA:wc.cell? ⟨w.heap.size,4+iv,none⟩=some (h iv)/\wc.cell? ⟨w.heap.size,6+iv,none⟩=some (g iv):=⟨Qb aJ p0,Qb aJ p1⟩;clear hH hN aJ p0 p1 HF HN;(refine pL 12 rfl ?_;refine pL 13 rfl ?_)
 refine dT ?_;clear aA
 have aS:Hid (∀ ⦃S:Nat->Prop⦄ ⦃wd w':World⦄ ⦃vH vN:Value⦄,F wd->ButS S wd w'->(∀ g,S g->NoW wd g/\w4.heap.size<=g)->(∃ l,Sm4 l/\So eFd w' w4.heap.size vH l)->(∃ m,Sm3 m/\So eIs w' w4.heap.size vN m)->Ch9 w s1 a1 n1 g1 h g vH vN w'):=Qh fun _ _ _ _ _ hF hb hS hH hN=>by
  obtain⟨e1,-,e3,e4,e5,-⟩:=(aM.out _).1 hF;exact QiY e1 e3 e4 eQ.out e5 dA.out hb hS hH hN
 have dP:sz nz<=1000000:=Qt (QbF (by omega)) (by decide);have bN:=Qh dP;clear dP;obtain⟨km,eG⟩:∃ km:Nat,km=kd%9:=⟨_,rfl⟩;have eM:((kd:Nat):Int).tmod 9=(km:Int):=by rw[Int.tmod_eq_emod_of_nonneg (by omega)];omega
 have aT:km=0\/km=1\/(km=2\/km=3)\/(km=4\/km=5)\/km=6\/km=7\/km=8:=by omega
 have eV:=Qh aT;clear eG aT ei eO;obtain⟨aR,aQ,aP,aO⟩:=Qq ((aM.out _).1 HG.out.1).2.1;go_upto_region 3 with fail;go_upto_block 0 with fail
 clear aR aQ aP aO eM;go_cut [7,8] (fun s7 s8 w'=>Hid (Ch9 w s1 a1 n1 g1 h g s7 s8 w'))
 case first=>
  rcases eV.out with rfl|rfl|hkk|hkk|rfl|rfl|rfl
  ·have aK:Qmj wc B8 aD aG aE aF:=Qz HG.out.2.1.1;go_upto_region 6 with fail;refine Qc (by kernel_rfl) [7] (S:=fun w'=>Qmj w' B8 aD aG aE aF) aK (fun aA=>?_);clear aK;replace HG:=Qh (kG.dr HG.out);generalize wc.drew=wa at *;(refine tS 0 rfl ?_;refine tS 1 rfl ?_)
   (refine oL 2 rfl fun K hK=>tL ?_;go_simp);refine mn (Qm 1 wa (by decide) (by decide)) fun v wb hv hb=>?_;obtain⟨s4,a4,n4,k4,rfl⟩:=hv.shape;have aU:=nu hb aA;replace HG:=hu hb HG;have bK:=Qh hv;clear hb hv;(go_wp2_with fail;clear aA;refine nxL hK aU fun aA=>tL ?_;clear hK);clear aU;(refine oL 3 rfl fun K hK=>tL ?_;go_simp);refine mn (Qm 0 wb (by decide) (by decide)) fun v we hv hb=>?_;obtain⟨s5,a5,n5,k5,rfl⟩:=hv.shape;have aU:=nu hb aA;replace HG:=hu hb HG;replace bK:=hu hb bK;have bJ:=Qh hv;clear hb hv;(go_wp2_with fail;clear aA;refine nxL hK aU fun aA=>tL ?_;clear hK);clear aU;(refine oL 4 rfl fun K hK=>tL ?_;go_simp);refine mn (Qm 1 we (by decide) (by decide)) fun v wf hv hb=>?_;obtain⟨s6,a6,n6,k6,rfl⟩:=hv.shape;have aU:=nu hb aA;replace HG:=hu hb HG;replace bK:=hu hb bK;replace bJ:=hu hb bJ;have d9:=Qh hv;clear hb hv;(go_wp2_with fail;clear aA;refine nxL hK aU fun aA=>tL ?_;clear hK);clear aU;refine tS 5 rfl ?_;(refine oL 6 rfl fun K hK=>tL ?_;go_simp);have bn:=Qa wf (Qmd 78 aD aG aE aF s4 a4 n4 k4 s5 a5 n5 k5 s6 a6 n6 k6);have aU:=nu bn aA;replace HG:=hu bn HG;have d7:=Qh (Sc.one (E:=eFd) (x:=(nz,1,0,1)) (Zk1 wf (Qmd 78 aD aG aE aF s4 a4 n4 k4 s5 a5 n5 k5 s6 a6 n6 k6)) ⟨_,_,_,_,_,_,_,_,_,_,_,_,_,_,_,_,rfl,HG.out.2.1.2,bK.out.up bn,bJ.out.up bn,d9.out.up bn⟩);clear bn bK bJ d9;(go_wp2_with fail;clear aA;refine nxL hK aU fun aA=>tL ?_;clear hK);clear aU;have bF:(L iv).length+1<=1099511627776:=by have:=aB.out.1.2;omega
   refine QN (i:=7) (by as_aux_lemma=>kernel_rfl) rfl (fun K' hK'=>?_);refine Yr (E:=eFd) (by rfl) (.tmp 40) (.tmp 46) _ (by rfl) Tryz.underlying82 w4.heap.size _ (L iv) [(nz,1,0,1)] (by rfl) HG.out.2.2.1 HG.out.2.2.2.2 wf.heap.size 0 1 1 (by rfl) rfl d7.out (by decide) bF ?_;intro g8 cY w8 h8 aC cQ;have HR:=Qh (aS.out HG.out.1 aC HG.out.2.2.1.all ⟨_,aB.out.1.1.snoc aB.out.1.2 ⟨bN.out,(show sz 1<=1000000 by decide),(show sz 0<=1000000 by decide),(show sz 1<=1000000 by decide)⟩,h8⟩ ⟨_,aB.out.2.1,HG.out.2.2.2.1.fr aC HG.out.2.2.1.nw (fun g e e'=>HG.out.2.2.1.disj HG.out.2.2.2.1 (by decide) g e' e)⟩);clear h8 aC cQ d7 bF;refine hK'.out _ _ nzz ?_;clear hK' aA;refine tL ?_;refine pL 8 rfl ?_;refine dT ?_;go_wp2_with fail;go_meet
   case rel=>exact HR
  ·obtain⟨aR,aQ,aP,aO⟩:=Qq ((aM.out _).1 HG.out.1).2.1;obtain⟨z0,z1⟩:=Qz HG.out.2.1.1;obtain⟨am,eL⟩:∃ am:Nat,am=at'%12:=⟨_,rfl⟩;have eY:(at':Int).tmod 12=(am:Int):=by rw[Int.tmod_eq_emod_of_nonneg (by omega)];omega
   have ew:IntKind.i64.wrap (am:Int)=(am:Int):=by rw[IntKind.wrap_i64];omega
   have eX:IntKind.i64.wrap (1+(am:Int))=1+(am:Int):=by rw[IntKind.wrap_i64];omega
   have eJ:am<12:=by omega
   have bn:=Qa wc (.cells #[.bool aD,.slice aG aE aF,.int .i64 2,.int .i64 (1+(am:Int))] 93);have aL:=Qh (kG.up HG.out bn);have eC:=Sc.one (E:=eIs) (x:=(nz,2,1+(am:Int))) (Zk1 wc (.cells #[.bool aD,.slice aG aE aF,.int .i64 2,.int .i64 (1+(am:Int))] 93)) ⟨_,_,_,_,rfl,aL.out.2.1.2⟩;have bF:(M iv).length+1<=1099511627776:=by have:=aB.out.2.2;omega
   clear bn eL;go_wp2_with (at_builtin;go_must (refine YX (E:=eIs) rfl (.tmp 50) (.tmp 58) _ rfl Tryz.underlying84 w4.heap.size _ (M iv) [(nz,2,1+(am:Int))] rfl aL.out.2.2.2.1 aL.out.2.2.2.2 _ 0 1 1 rfl rfl eC (by decide) bF ?_);intro g8 cY w8 h8 aC cQ)
   go_meet
   case rel=>exact Qh (aS.out aL.out.1 aC aL.out.2.2.2.1.all ⟨_,aB.out.1.1,aL.out.2.2.1.fr aC aL.out.2.2.2.1.nw (fun g e e'=>aL.out.2.2.1.disj aL.out.2.2.2.1 (by decide) g e e')⟩ ⟨_,aB.out.2.1.snoc aB.out.2.2 ⟨bN.out,(show _<=(2:Int) by decide),(show (2:Int)<=_ by decide),(show _<=1+(am:Int) by omega),(show 1+(am:Int)<=_ by omega)⟩,h8⟩)
  ·rcases hkk with rfl|rfl
   all_goals
    by_cases h0:(L iv).length=0
    ·obtain⟨a3,c3,rfl,-⟩:=id HG.out.2.2.1.slice;have h1:¬ ((L iv).length:Int)>0:=by omega
     clear h0;go_wp2_with fail;go_meet
     case rel=>exact Qh (aS.out HG.out.1 (ButS.refl (fun _=>False) _) (fun _ h=>h.elim) ⟨_,aB.out.1.1,HG.out.2.2.1⟩ ⟨_,aB.out.2.1,HG.out.2.2.2.1⟩)
    ·obtain⟨aR,aQ,aP,aO⟩:=Qq ((aM.out _).1 HG.out.1).2.1
     obtain⟨g3,c3,pl,bD,rfl⟩:∃ g3 c3 pl,Hid (pl=(L iv).length)/\u5=.slice (some ⟨g3,0,none⟩) pl c3:=by
      rcases HG.out.2.2.1.form with ⟨-,e⟩|⟨g,cap,e,-⟩
      ·rw[e] at h0;exact absurd rfl h0
      ·exact⟨g,cap,_,Qh rfl,e⟩
     have bL:0<pl:=by have:=bD.out;omega
     obtain⟨im,bA⟩:∃ im,at'%pl=im:=⟨_,rfl⟩;have a9:im<pl:=by rw[<- bA];exact Nat.mod_lt _ bL
     have e2:(at':Int).tmod (pl:Int)=(im:Int):=by rw[Int.tmod_eq_emod_of_nonneg (by omega),<- bA];simp
     have ew:IntKind.i64.wrap (at':Int)=(at':Int):=by rw[IntKind.wrap_i64];omega
     have h1:(pl:Int)>0:=by omega
     have h2:¬ (pl:Int)=0:=by omega
     have h3:(0:Int)<=(im:Int):=by omega
     have h4:(im:Int)<(pl:Int):=by omega
     have aX:=Qh (show im<(L iv).length by rw[<- bD.out];exact a9);have eD:¬ pl=0:=by omega
     clear h0 bA bL;have aK:bc4 wc (w.heap.size+1) (.int .u8 (kd:Int)) (.int .u8 (it:Int)) (.int .u8 (at':Int)) (.int .i16 nz)/\Qmj wc B8 aD aG aE aF:=⟨⟨aR,aQ,aP,aO⟩,Qz HG.out.2.1.1⟩;clear aR aQ aP aO
     first|go_upto_region 11 with fail|go_upto_region 14 with fail
     refine Qc (by kernel_rfl) [10] (S:=fun w'=>bc4 w' (w.heap.size+1) (.int .u8 (kd:Int)) (.int .u8 (it:Int)) (.int .u8 (at':Int)) (.int .i16 nz)/\Qmj w' B8 aD aG aE aF) aK (fun aA=>?_);clear aK;replace HG:=Qh (kG.dr HG.out);generalize wc.drew=wa at *;(refine tS 0 rfl ?_;refine tS 1 rfl ?_;refine tS 2 rfl ?_;refine tS 3 rfl ?_;refine tS 4 rfl ?_;refine tS 5 rfl ?_;refine tS 6 rfl ?_;refine tS 7 rfl ?_)
     (refine pL 8 rfl ?_;refine pL 9 rfl ?_)
     obtain⟨_,_,_,_,_,_,_,_,_,_,_,_,_,_,_,_,⟨-,-,-,-,c4,c5,c6,c7⟩,-,-⟩:=HG.out.2.2.1.sc.fd aX.out;rw[Nat.zero_add] at c4 c5 c6 c7;have f4:=HG.out.2.2.1.frz (im*8+4);have f5:=HG.out.2.2.1.frz (im*8+4+1);have f6:=HG.out.2.2.1.frz (im*8+6);have f7:=HG.out.2.2.1.frz (im*8+6+1);have hm:=aB.out.1.1.el _ (Qo aX.out (0,0,0,0));have cS:=(ButS.set wa g3 (im*8+6) (.bool aD)).trans (ButS.set _ g3 (im*8+6+1) (.slice aG aE aF));have eR:=Qh (aS.out HG.out.1 cS HG.out.2.2.1.one ⟨_,aB.out.1.1.set (i:=im) (x:=(((L iv).getD im (0,0,0,0)).1,((L iv).getD im (0,0,0,0)).2.1,((L iv).getD im (0,0,0,0)).2.2.1,nz)) ⟨hm.1,hm.2.1,hm.2.2.1,bN.out⟩,HG.out.2.2.1.fdN aX.out HG.out.2.1.2⟩ ⟨_,aB.out.2.1,HG.out.2.2.2.1.fr cS (fun g e=>(HG.out.2.2.1.one g e).1) (fun g e e'=>HG.out.2.2.2.1.disj HG.out.2.2.1 (by decide) g e (by rw[e'];rfl))⟩);have bH:=(ButS.set wa g3 (im*8+4) (.bool aD)).trans (ButS.set _ g3 (im*8+4+1) (.slice aG aE aF));have eS:=Qh (aS.out HG.out.1 bH HG.out.2.2.1.one ⟨_,aB.out.1.1.set (i:=im) (x:=(((L iv).getD im (0,0,0,0)).1,((L iv).getD im (0,0,0,0)).2.1,nz,((L iv).getD im (0,0,0,0)).2.2.2)) ⟨hm.1,hm.2.1,bN.out,hm.2.2.2⟩,HG.out.2.2.1.fdE aX.out HG.out.2.1.2⟩ ⟨_,aB.out.2.1,HG.out.2.2.2.1.fr bH (fun g e=>(HG.out.2.2.1.one g e).1) (fun g e e'=>HG.out.2.2.2.1.disj HG.out.2.2.1 (by decide) g e (by rw[e'];rfl))⟩);clear cS bH hm;(refine oL 10 rfl fun K hK=>tL ?_;go_simp);(go_wp2_with fail;refine xL hK (tL ?_);clear hK);refine dT ?_;clear aA;go_wp2_with fail;go_meet
     case rel=>first|exact eR|exact eS
  ·rcases hkk with rfl|rfl
   all_goals
    by_cases h0:(M iv).length=0
    ·obtain⟨a3,c3,rfl,-⟩:=id HG.out.2.2.2.1.slice;have h1:¬ ((M iv).length:Int)>0:=by omega
     clear h0;go_wp2_with fail;go_meet
     case rel=>exact Qh (aS.out HG.out.1 (ButS.refl (fun _=>False) _) (fun _ h=>h.elim) ⟨_,aB.out.1.1,HG.out.2.2.1⟩ ⟨_,aB.out.2.1,HG.out.2.2.2.1⟩)
    ·obtain⟨aR,aQ,aP,aO⟩:=Qq ((aM.out _).1 HG.out.1).2.1
     obtain⟨g3,c3,pl,bD,rfl⟩:∃ g3 c3 pl,Hid (pl=(M iv).length)/\u11=.slice (some ⟨g3,0,none⟩) pl c3:=by
      rcases HG.out.2.2.2.1.form with ⟨-,e⟩|⟨g,cap,e,-⟩
      ·rw[e] at h0;exact absurd rfl h0
      ·exact⟨g,cap,_,Qh rfl,e⟩
     have bL:0<pl:=by have:=bD.out;omega
     obtain⟨im,bA⟩:∃ im,at'%pl=im:=⟨_,rfl⟩;have a9:im<pl:=by rw[<- bA];exact Nat.mod_lt _ bL
     have e2:(at':Int).tmod (pl:Int)=(im:Int):=by rw[Int.tmod_eq_emod_of_nonneg (by omega),<- bA];simp
     have ew:IntKind.i64.wrap (at':Int)=(at':Int):=by rw[IntKind.wrap_i64];omega
     have h1:(pl:Int)>0:=by omega
     have h2:¬ (pl:Int)=0:=by omega
     have h3:(0:Int)<=(im:Int):=by omega
     have h4:(im:Int)<(pl:Int):=by omega
     have aX:=Qh (show im<(M iv).length by rw[<- bD.out];exact a9);have eD:¬ pl=0:=by omega
     clear h0 bA bL;have aK:bc4 wc (w.heap.size+1) (.int .u8 (kd:Int)) (.int .u8 (it:Int)) (.int .u8 (at':Int)) (.int .i16 nz):=⟨aR,aQ,aP,aO⟩;clear aR aQ aP aO
     first|go_upto_region 17 with fail|go_upto_region 20 with fail
     refine Qc (by kernel_rfl) [12] (S:=fun w'=>bc4 w' (w.heap.size+1) (.int .u8 (kd:Int)) (.int .u8 (it:Int)) (.int .u8 (at':Int)) (.int .i16 nz)) aK (fun aA=>?_);clear aK;replace HG:=Qh (kG.dr HG.out);generalize wc.drew=wa at *;(refine tS 0 rfl ?_;refine tS 1 rfl ?_;refine tS 2 rfl ?_;refine tS 3 rfl ?_;refine tS 4 rfl ?_;refine tS 5 rfl ?_;refine tS 6 rfl ?_;refine tS 7 rfl ?_;refine tS 8 rfl ?_;refine tS 9 rfl ?_)
     (refine pL 10 rfl ?_;refine pL 11 rfl ?_)
     obtain⟨_,_,_,_,⟨-,-,c6,c7⟩,-⟩:=HG.out.2.2.2.1.sc.is aX.out;rw[Nat.zero_add] at c6 c7;have f6:=HG.out.2.2.2.1.frz (im*4+2);have f7:=HG.out.2.2.2.1.frz (im*4+3);have hm:=aB.out.2.1.el _ (Qo aX.out (0,0,0));have k1 : -9223372036854775808<=nz:=by omega
     have k2:nz<=9223372036854775807:=by omega
     have cU:=ButS.set wa g3 (im*4+2) (.int .i64 nz);have eU:=Qh (aS.out HG.out.1 cU HG.out.2.2.2.1.one ⟨_,aB.out.1.1,HG.out.2.2.1.fr cU (fun g e=>(HG.out.2.2.2.1.one g e).1) (fun g e e'=>HG.out.2.2.1.disj HG.out.2.2.2.1 (by decide) g e (by rw[e'];rfl))⟩ ⟨_,aB.out.2.1.set (i:=im) (x:=(((M iv).getD im (0,0,0)).1,nz,((M iv).getD im (0,0,0)).2.2)) ⟨hm.1,k1,k2,hm.2.2.2⟩,HG.out.2.2.2.1.isP aX.out nz⟩);have cT:=ButS.set wa g3 (im*4+3) (.int .i64 nz);have eT:=Qh (aS.out HG.out.1 cT HG.out.2.2.2.1.one ⟨_,aB.out.1.1,HG.out.2.2.1.fr cT (fun g e=>(HG.out.2.2.2.1.one g e).1) (fun g e e'=>HG.out.2.2.1.disj HG.out.2.2.2.1 (by decide) g e (by rw[e'];rfl))⟩ ⟨_,aB.out.2.1.set (i:=im) (x:=(((M iv).getD im (0,0,0)).1,((M iv).getD im (0,0,0)).2.1,nz)) ⟨hm.1,hm.2.1,hm.2.2.1,k1,k2⟩,HG.out.2.2.2.1.isK aX.out nz⟩);clear cU cT hm k1 k2;(refine oL 12 rfl fun K hK=>tL ?_;go_simp);(go_wp2_with fail;refine xL hK (tL ?_);clear hK);refine dT ?_;clear aA;go_wp2_with fail;go_meet
     case rel=>first|exact eU|exact eT
  ·by_cases h0:(L iv).length>1
   case neg=>
    obtain⟨a3,c3,rfl,-⟩:=id HG.out.2.2.1.slice;have h1:¬ ((L iv).length:Int)>1:=by omega
    clear h0;go_wp2_with fail;go_meet
    case rel=>exact Qh (aS.out HG.out.1 (ButS.refl (fun _=>False) _) (fun _ h=>h.elim) ⟨_,aB.out.1.1,HG.out.2.2.1⟩ ⟨_,aB.out.2.1,HG.out.2.2.2.1⟩)
   obtain⟨g3,cp,pl,bD,rfl⟩:∃ g3 c3 pl,Hid (pl=(L iv).length)/\u5=.slice (some ⟨g3,0,none⟩) pl c3:=by
    rcases HG.out.2.2.1.form with ⟨-,e⟩|⟨g,cap,e,-⟩
    ·rw[e] at h0;exact absurd h0 (by decide)
    ·exact⟨g,cap,_,Qh rfl,e⟩
   have h1:(pl:Int)>1:=by have:=bD.out;omega
   have h2:(0:Int)<(pl:Int):=by omega
   have cK:=Qh (show 0<(L iv).length by omega);have cJ:=Qh (show 1<(L iv).length from h0);clear h0;obtain⟨bS,cF,bW,b3,bR,cE,bV,bZ,bQ,cD,bU,bY,bP,cC,bT,bX,⟨c0,c1,c2,c3,c4,c5,c6,c7⟩,hX,-⟩:=HG.out.2.2.1.sc.fd cK.out;simp only[Nat.zero_mul,Nat.zero_add,Nat.one_mul,Nat.reduceAdd] at c0 c1 c2 c3 c4 c5 c6 c7;have HX:=Qh hX;clear hX;go_upto_region 24 with fail;clear c0 c1 c2 c3 c4 c5 c6 c7;have d8:=Qh (show wc.heap.size≠g3 from fun e=>by have:=(HG.out.2.2.1.lt g3 rfl).2;omega);have bn:=Qa wc (Qmd 78 bS cF bW b3 bR cE bV bZ bQ cD bU bY bP cC bT bX);replace HG:=hu bn HG;replace HX:=Qh ((Kp.fnd _ _ _ _ _).up HX.out bn);have dD:=Qh (Zk1 wc (Qmd 78 bS cF bW b3 bR cE bV bZ bQ cD bU bY bP cC bT bX));obtain⟨Bx,dW⟩:∃ B,wc.heap.size=B:=⟨_,rfl⟩;rw[dW] at dD d8 |-;clear bn dW;generalize wc.alloc (Qmd 78 bS cF bW b3 bR cE bV bZ bQ cD bU bY bP cC bT bX)=wa at *;obtain⟨_,_,_,_,_,_,_,_,_,_,_,_,_,_,_,_,⟨c0,c1,c2,c3,c4,c5,c6,c7⟩,-,-⟩:=HG.out.2.2.1.sc.fd cK.out;obtain⟨dG,d6,dK,dO,dF,d5,dJ,dN,sz3,d4,dI,dM,dE,dZ,dH,dL,⟨r0,r1,r2,r3,r4,r5,r6,r7⟩,hY,-⟩:=HG.out.2.2.1.sc.fd cJ.out;simp only[Nat.zero_mul,Nat.zero_add,Nat.one_mul,Nat.reduceAdd] at c0 c1 c2 c3 c4 c5 c6 c7 r0 r1 r2 r3 r4 r5 r6 r7;have HY:=Qh hY;have f0:=HG.out.2.2.1.frz 0;have f1:=HG.out.2.2.1.frz 1;have f2:=HG.out.2.2.1.frz 2;have f3:=HG.out.2.2.1.frz 3;have f4:=HG.out.2.2.1.frz 4;have f5:=HG.out.2.2.1.frz 5;have f6:=HG.out.2.2.1.frz 6;have f7:=HG.out.2.2.1.frz 7;clear hY;go_upto_region 25 with fail;clear c0 c1 c2 c3 c4 c5 c6 c7 r0 r1 r2 r3 r4 r5 r6 r7 f0 f1 f2 f3 f4 f5 f6 f7;have cL:=Qh (show ButS (fun k=>k=g3) wa (wa.setCells g3 (0*8) [.bool dG,.slice d6 dK dO,.bool dF,.slice d5 dJ dN,.bool sz3,.slice d4 dI dM,.bool dE,.slice dZ dH dL]) from YN _ _ _ _);have aV:=Qh (HG.out.2.2.1.setE (i:=0) cK.out (Fnd.ok (x:=(L iv).getD 1 (0,0,0,0)) HY.out));have c9:=Qh (And.intro ((cL.out.block Bx (Ql dD.out).1 d8.out).trans dD.out) (HX.out.fr cL.out (fun g e=>(HG.out.2.2.1.one g e).1)));simp only[World.setCells,Nat.zero_mul,Nat.zero_add,Nat.reduceAdd,show (eFd:Elt (Int×Int×Int×Int)).k=8 from rfl] at cL aV c9;generalize (((((((wa.setCell ⟨g3,0,none⟩ (.bool dG)).setCell ⟨g3,1,none⟩ (.slice d6 dK dO)).setCell ⟨g3,2,none⟩ (.bool dF)).setCell ⟨g3,3,none⟩ (.slice d5 dJ dN)).setCell ⟨g3,4,none⟩ (.bool sz3)).setCell ⟨g3,5,none⟩ (.slice d4 dI dM)).setCell ⟨g3,6,none⟩ (.bool dE)).setCell ⟨g3,7,none⟩ (.slice dZ dH dL)=wb at *;obtain⟨x0,x1,x2,x3,x4,x5,x6,x7⟩:=QM c9.out.1;obtain⟨_,_,_,_,_,_,_,_,_,_,_,_,_,_,_,_,⟨r0,r1,r2,r3,r4,r5,r6,r7⟩,-,-⟩:=aV.out.sc.fd (i:=1) (by rw[List.length_set];exact cJ.out);simp only[Nat.zero_mul,Nat.zero_add,Nat.one_mul,Nat.reduceAdd] at r0 r1 r2 r3 r4 r5 r6 r7;have f0:=aV.out.frz 8;have f1:=aV.out.frz 9;have f2:=aV.out.frz 10;have f3:=aV.out.frz 11;have f4:=aV.out.frz 12;have f5:=aV.out.frz 13;have f6:=aV.out.frz 14;have f7:=aV.out.frz 15;go_wp2_with fail;go_meet
   case rel=>
    have aC:=cL.out.trans (show ButS (fun k=>k=g3) wb (wb.setCells g3 (1*8) [.bool bS,.slice cF bW b3,.bool bR,.slice cE bV bZ,.bool bQ,.slice cD bU bY,.bool bP,.slice cC bT bX]) from YN _ _ _ _);have h8:=aV.out.setE (i:=1) (by rw[List.length_set];exact cJ.out) (Fnd.ok (x:=(L iv).getD 0 (0,0,0,0)) c9.out.2);simp only[World.setCells,Nat.one_mul,Nat.reduceAdd,show (eFd:Elt (Int×Int×Int×Int)).k=8 from rfl] at aC h8;exact Qh (aS.out HG.out.1 aC HG.out.2.2.1.one ⟨_,(aB.out.1.1.set (i:=0) (aB.out.1.1.el _ (Qo cJ.out (0,0,0,0)))).set (i:=1) (aB.out.1.1.el _ (Qo cK.out (0,0,0,0))),h8⟩ ⟨_,aB.out.2.1,HG.out.2.2.2.1.fr aC (fun g e=>(HG.out.2.2.1.one g e).1) (fun g e e'=>HG.out.2.2.2.1.disj HG.out.2.2.1 (by decide) g e (by rw[e'];rfl))⟩)
  ·obtain⟨z0,z1⟩:=Qz HG.out.2.1.1;have HD:=Qh ((aM.out _).1 HG.out.1).1;obtain⟨p0,p1,p2,p3,p4,p5,p6,p7⟩:=QM HD.out;obtain⟨y0,y1,y2,y3,y4,y5,y6,y7⟩:=Qcr HD.out;go_wp2_with fail;go_meet
   case rel=>
    have aC:=(ButS.set wc (w.heap.size) 2 (.bool aD)).trans (ButS.set _ (w.heap.size) 3 (.slice aG aE aF));have aI:=Qlk HD.out (aY.out 0 (by decide)).1 (aY.out 1 (by decide)).1 (aY.out 0 (by decide)).2 (aY.out 1 (by decide)).2;obtain⟨-,-,hR,-,aW,-⟩:=(aM.out _).1 HG.out.1;exact Qh ⟨ButS.below aW aC aW.size (fun g e=>by omega),⟨_,_,_,_,nz,(by simp[World.setCell,Array.getElem?_modify,HD.out]),HG.out.2.1.2.fr aC aI,bN.out⟩,(aC.block _ (Ql hR).1 (by omega)).trans hR,⟨_,aB.out.1.1,(HG.out.2.2.1.fr aC aI (HG.out.2.2.1.not_blk HD.out (by decide))).base dA.out⟩,⟨_,aB.out.2.1,(HG.out.2.2.2.1.fr aC aI (HG.out.2.2.2.1.not_blk HD.out (by decide))).base dA.out⟩⟩
  ·obtain⟨a8,c8,rfl,-⟩:=id HG.out.2.2.2.1.slice;go_wp2_with fail;refine mn (Qm 1 wc (by decide) (by decide)) fun v wb hv hb=>?_;obtain⟨s4,a4,n4,k4,rfl⟩:=hv.shape;replace HG:=hu hb HG;have bn:=Qa wb (.cells #[.bool s4,.slice a4 n4 k4,.int .i64 0,.int .i64 0] 93);have aL:=Qh (kG.up HG.out bn)
   have b4:So eIs (wb.alloc (.cells #[.bool s4,.slice a4 n4 k4,.int .i64 0,.int .i64 0] 93)) w4.heap.size (.slice (some ⟨wb.heap.size,0,none⟩) 1 1) [(1,0,0)]:=So.ofCells (E:=eIs) (l:=[((1:Int),(0:Int),(0:Int))]) (Zk1 wb (.cells #[.bool s4,.slice a4 n4 k4,.int .i64 0,.int .i64 0] 93)) HG.out.2.2.2.2 (by decide) rfl (fun i hi=>by
    obtain rfl:i=0:=by simpa using hi
    exact⟨[.bool s4,.slice a4 n4 k4,.int .i64 0,.int .i64 0],⟨_,_,_,_,rfl,hv.up bn⟩,fun j u e=>by simpa using e⟩) (fun u hU=>by simp at hU;rcases hU with rfl|rfl|rfl|rfl <;> rfl)
   have bF:([((1:Int),(0:Int),(0:Int))]:List (Int×Int×Int)).length+(M iv).length<=1099511627776:=by have:=aB.out.2.2;simp;omega
   clear bn hb hv;go_wp2_with (at_builtin;go_must (refine Qaz (E:=eIs) rfl (.tmp 35) (.tmp 36) _ rfl Tryz.underlying84 w4.heap.size _ _ [(1,0,0)] (M iv) rfl b4 aL.out.2.2.2.2 rfl aL.out.2.2.2.1.sr bF ?_);intro v8 w8 h8 aC cQ _)
   go_meet
   case rel=>exact Qh (aS.out aL.out.1 aC b4.all ⟨_,aB.out.1.1,aL.out.2.2.1.fr aC b4.nw (fun g e e'=>aL.out.2.2.1.disj b4 (by decide) g e e')⟩ ⟨_,aB.out.2.1.cons aB.out.2.2 ⟨(show sz 1<=_ by decide),(show _<=(0:Int) by decide),(show (0:Int)<=_ by decide),(show _<=(0:Int) by decide),(show (0:Int)<=_ by decide)⟩,h8⟩)
 case rest=>
  obtain⟨aW,⟨t2,e2,k2,j2,b',hD,hI,hs⟩,hR,⟨lH,eF,a7⟩,⟨lN,eE,a0⟩⟩:=hcut.out;obtain⟨aH,cH,rfl,-⟩:=id a7.slice;obtain⟨aN,cN,rfl,-⟩:=id a0.slice;clear hcut HG kG aB aS;obtain⟨⟨p4,p6⟩,f4,f6⟩:=YQ hD bE.out;have HD:=Qh hD;have HR:=Qh hR;have HI:=Qh hI;have dC:=Qh aW;have bO:=Qh (And.intro a7 a0);clear hD hR hI aW a7 a0;go_upto_region 30 with fail;clear p4 p6 f4 f6;have bG:=(ButS.set wc (w.heap.size) (4+iv) (.slice aH lH.length cH)).trans (ButS.set _ (w.heap.size) (6+iv) (.slice aN lN.length cN));have aI:=Qlk HD.out (aY.out 0 (by decide)).1 (aY.out 1 (by decide)).1 (aY.out 0 (by decide)).2 (aY.out 1 (by decide)).2;have dB:=Qh (QgN (QfV HD.out bE.out (.slice aH lH.length cH)) bE.out (.slice aN lN.length cN));have bI:=Qh ((bG.block _ (Ql HR.out).1 (by omega)).trans HR.out);have eB:=Qh (ButS.below dC.out bG dC.out.size (fun g e=>by omega));have cG:=Qh (And.intro (bO.out.1.fr bG aI (bO.out.1.not_blk HD.out (by decide))) (bO.out.2.fr bG aI (bO.out.2.not_blk HD.out (by decide))));have bJ:=Qh (HI.out.fr bG aI);clear bG aI HD HR HI dC bO;generalize (wc.setCell ⟨w.heap.size,4+iv,none⟩ (.slice aH lH.length cH)).setCell ⟨w.heap.size,6+iv,none⟩ (.slice aN lN.length cN)=w5 at *;obtain⟨h2,b7⟩:∃ f,f=QE h iv (.slice aH lH.length cH):=⟨_,rfl⟩;obtain⟨g2,b8⟩:∃ f,f=QE g iv (.slice aN lN.length cN):=⟨_,rfl⟩;rw[<- b7,<- b8] at dB;have eA:=Qh (And.intro b7 b8)
  have cO:∀ k,k<2->(∃ a n c,h2 k=.slice a n c)/\∃ a n c,g2 k=.slice a n c:=fun k hk=>by
   rw[b7,b8];by_cases e:k=iv
   ·subst e;rw[Qe,Qe];exact⟨⟨_,_,_,rfl⟩,_,_,_,rfl⟩
   ·rw[Qd _ _ e,Qd _ _ e];obtain⟨⟨_,_,e1,-⟩,⟨_,_,e2,-⟩,-⟩:=HS.out k hk;exact⟨⟨_,_,_,e1⟩,_,_,_,e2⟩
  obtain⟨⟨f0,o0,c0,r0⟩,f2,o2,c2,r2⟩:=cO 0 (by decide);obtain⟨⟨f1,o1,c1,r1⟩,f3,o3,c3,r3⟩:=cO 1 (by decide);rw[r0,r1,r2,r3] at dB;have cI:=Qh (And.intro (And.intro r0 r1) (And.intro r2 r3));clear b7 b8 cO r0 r1 r2 r3;obtain⟨p0,p1,p2,p3,p4,p5,p6,p7⟩:=QM dB.out;obtain⟨z0,z1,z2,z3,z4,z5,z6,z7⟩:=QM bI.out;obtain⟨y0,y1,y2,y3,y4,y5,y6,y7⟩:=Qcr bI.out;go_wp2_with fail;have hh:=Qc0 bI.out (.bool s1) (.slice a1 n1 g1) (.bool t2) (.slice e2 k2 j2) (.slice f0 o0 c0) (.slice f1 o1 c1) (.slice f2 o2 c2) (.slice f3 o3 c3);have b9:=Qjg w5 (w.heap.size+1+1) (.bool s1) (.slice a1 n1 g1) (.bool t2) (.slice e2 k2 j2) (.slice f0 o0 c0) (.slice f1 o1 c1) (.slice f2 o2 c2) (.slice f3 o3 c3);have aI:=Qlk bI.out rfl rfl rfl rfl;have aW:=ButS.below eB.out b9 eB.out.size (fun g e=>by omega)
  have dS:∀ k,k<2->∃ l m,(Sr eFd _ (h2 k) l/\SzF l)/\Sr eIs _ (g2 k) m/\SzN m:=fun k hk=>by
   rw[eA.out.1,eA.out.2];by_cases e:k=iv
   ·subst e;rw[Qe,Qe];exact⟨_,_,⟨(cG.out.1.fr b9 aI (cG.out.1.not_blk bI.out (by decide))).sr,eF.szf⟩,(cG.out.2.fr b9 aI (cG.out.2.not_blk bI.out (by decide))).sr,eE.szn⟩
   ·rw[Qd _ _ e,Qd _ _ e];obtain⟨e1,e2,e3,e4⟩:=HS.out k hk;exact⟨_,_,⟨e1.up aW,e3.1.szf⟩,e2.up aW,e4.1.szn⟩
  obtain⟨l0',m0',⟨x0,x1⟩,x2,x3⟩:=dS 0 (by decide);obtain⟨l1',m1',⟨v0,v1⟩,v2,v3⟩:=dS 1 (by decide);rw[cI.out.1.1] at x0;rw[cI.out.1.2] at v0;rw[cI.out.2.1] at x2;rw[cI.out.2.2] at v2;exact JY (B:=w.heap.size+1+1) rfl rfl rfl (Qdk _ _ _ _ _ _ _ _ _ _ _ _ hh) ⟨_,b',l0',l1',m0',m1',rfl,⟨_,_,_,_,_,_,_,_,_,_,_,_,_,_,_,_,_,_,_,_,rfl,eW.out.up aW,bJ.out.fr b9 aI,x0,v0,x2,v2⟩,hs,x1,v1,x3,v3,aW⟩
