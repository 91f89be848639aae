/-
  A drawn region in which a call's result goes into a new variable, where the store may come up before the other results are taken out.
-/
import Derived.Test.YteidokhjmbihlaaGreatFI1
import Derived.Test.YteidokhjmbihlaaGreatFL1
set_option linter.all false
namespace Go.Proofs.YteidokhjmbihlaaGreat
open Go.RowKit
structure Fl3 (A:Kn) (C:World->Nat->Prop) (j q:Nat) (W0:World) (b:Nat->Bool) (x:Nat->Value) (W:World):Prop where
 fl:Fl A j W0 b x W
 ct:b q=true->b j=true/\∀ B,x j=.pointer (some ⟨B,0,none⟩)->C W B
section
variable {A:Kn} {C:World->Nat->Prop} {j q:Nat} {W0 W W':World} {b:Nat->Bool} {x:Nat->Value}
theorem Fl3.start (A:Kn) (C:World->Nat->Prop) (j q:Nat) (W0:World) (x:Nat->Value):Fl3 A C j q W0 (fun _=>false) x W0.drew:=⟨Fl.start _ _ _ _,fun h=>nomatch h⟩
theorem Fl3.call (h:Fl3 A C j q W0 b x W) (hC:∀ w w' B,C w B->Below w.heap.size w w'->C w' B) {i:Nat} (hij:i≠j) (hiq:i≠q) {v:Value} {Z:Nat->Prop} (hR:A.R i v Z W') (hZ:∀ k,Z k->W.heap.size<=k/\k<W'.heap.size) (hb:Below W.heap.size W W'):Fl3 A C j q W0 (Qn b i true) (Qn x i v) W':=by
 refine⟨h.fl.call hij hR hZ hb,fun hq=>?_⟩;rw[Qa _ _ (Ne.symm hiq)] at hq;rw[Qa _ _ (Ne.symm hij),Qa _ _ (Ne.symm hij)];obtain⟨h1,h2⟩:=h.ct hq;exact⟨h1,fun B hB=>hC _ _ _ (h2 B hB) hb⟩
theorem Fl3.var (h:Fl3 A C j q W0 b x W) (hjq:q≠j) (hbj:b j=false) (hV:A.V W' W.heap.size) (hb:Below W.heap.size W W'):Fl3 A C j q W0 (Qn b j true) (Qn x j (.pointer (some ⟨W.heap.size,0,none⟩))) W':=by
 refine⟨h.fl.var hV hb,fun hq=>?_⟩;rw[Qa _ _ hjq] at hq;obtain⟨h1,-⟩:=h.ct hq;rw[h1] at hbj
 cases hbj
theorem Fl3.st (h:Fl3 A C j q W0 b x W) (hqj:q≠j) {B:Nat} (hB:x j=.pointer (some ⟨B,0,none⟩)) (hbj:b j=true)
  (hfr:∀ i' v Z,A.R i' v Z W->A.R i' v Z W') (hs:W'.heap.size=W.heap.size) (hb:Below W0.heap.size W0 W') (hV:A.V W' B) (hC:C W' B) {v:Value} (hR:A.R q v (fun _=>False) W'):Fl3 A C j q W0 (Qn b q true) (Qn x q v) W':=by
 refine⟨h.fl.st hqj hB hbj hfr hs hb hV hR,fun _=>?_⟩;rw[Qa _ _ (Ne.symm hqj),Qa _ _ (Ne.symm hqj)];refine⟨hbj,fun B' hB'=>?_⟩;rw[hB] at hB';injection hB' with e;injection e with e;injection e with e;exact e▸hC
end
structure FvT where
 s:Bool
 a:Option Addr
 n:Nat
 c:Nat
 a2:Option Addr
 n2:Nat
 c2:Nat
 a3:Option Addr
 n3:Nat
 c3:Nat
 b:Int
def Fv (w:World) (B:Nat):Prop:=∃ y:FvT,w.heap[B]? = some (.cells #[.bool y.s,.slice y.a y.n y.c,.slice y.a2 y.n2 y.c2,.slice y.a3 y.n3 y.c3,.int .i64 y.b] 191 (0,0))
theorem Fv.up {w w':World} {B:Nat} (h:Fv w B) (hb:Below w.heap.size w w'):Fv w' B:=by
 obtain⟨y,h⟩:=h;exact⟨y,(hb.block _ (Ql h).1).trans h⟩
theorem Fv.lt {w:World} {B:Nat} (h:Fv w B):B<w.heap.size:=by
 obtain⟨y,h⟩:=h;exact(Ql h).1
theorem Fv.nw {w:World} {B:Nat} (h:Fv w B):NoW w B:=by
 obtain⟨y,h⟩:=h;intro o x hx;simp only[World.cell?,h] at hx;rcases o with _|_|_|_|_|o <;> simp at hx
theorem Fv.cells {w:World} {B:Nat} (h:Fv w B):∃ y:FvT,w.cell? ⟨B,0,none⟩=some (.bool y.s)/\w.cell? ⟨B,1,none⟩=some (.slice y.a y.n y.c)/\w.cell? ⟨B,2,none⟩=some (.slice y.a2 y.n2 y.c2)/\w.cell? ⟨B,3,none⟩=some (.slice y.a3 y.n3 y.c3)/\w.cell? ⟨B,4,none⟩=some (.int .i64 y.b) /\
  w.frozen? ⟨B,0,none⟩=false/\w.frozen? ⟨B,1,none⟩=false/\w.frozen? ⟨B,2,none⟩=false/\w.frozen? ⟨B,3,none⟩=false/\w.frozen? ⟨B,4,none⟩=false:=by
 obtain⟨y,h⟩:=h;refine⟨y,?_,?_,?_,?_,?_,?_,?_,?_,?_,?_⟩ <;> simp[World.cell?,World.frozen?,h]
theorem Fv.new (w:World):Fv (w.alloc (.cells #[.bool false,.slice none 0 0,.slice none 0 0,.slice none 0 0,.int .i64 0] 191)) w.heap.size:=
 ⟨⟨false,none,0,0,none,0,0,none,0,0,0⟩,Zk1 _ _⟩
def Qav (w:World) (B:Nat) (y:FvT):World:=((((w.setCell ⟨B,0,none⟩ (.bool y.s)).setCell ⟨B,1,none⟩ (.slice y.a y.n y.c)).setCell ⟨B,2,none⟩ (.slice y.a2 y.n2 y.c2)).setCell ⟨B,3,none⟩ (.slice y.a3 y.n3 y.c3)).setCell ⟨B,4,none⟩ (.int .i64 y.b)
theorem Jp (w:World) (B:Nat) (y:FvT):ButS (fun k=>k=B) w (Qav w B y):=
 ((((ButS.set w B 0 _).trans (ButS.set _ B 1 _)).trans (ButS.set _ B 2 _)).trans (ButS.set _ B 3 _)).trans (ButS.set _ B 4 _)
theorem Y7 {w:World} {B:Nat} (h:Fv w B) (y:FvT):(Qav w B y).heap[B]? = some (.cells #[.bool y.s,.slice y.a y.n y.c,.slice y.a2 y.n2 y.c2,.slice y.a3 y.n3 y.c3,.int .i64 y.b] 191 (0,0)):=by
 obtain⟨z,h⟩:=h;simp[Qav,World.setCell,Array.getElem?_modify,h]
theorem Fx.not5 {w:World} {B:Nat} (hB:Fv w B) {v:Value} {l:List (Int×Int)} (h:Sr eP w v l) (hl:l≠[]):∀ g,v.ownBlock=some g->¬ g=B:=by
 rintro g hg rfl;obtain⟨a,aA,rfl,h2,h3⟩:=h;rcases h3 with h3|⟨b,off,rfl,h4,h5⟩
 ·exact hl h3
 ·obtain rfl:b=g:=by simpa [Value.ownBlock] using hg
  obtain⟨cs,⟨s,a,n,c,rfl,-⟩,hc⟩:=h5 0 (List.length_pos_iff.2 hl);have c0:=hc 0 _ rfl;have c2:=hc 2 _ rfl;obtain⟨y,hB⟩:=hB;simp only[World.cell?,hB,Nat.zero_mul,Nat.add_zero] at c0 c2;rcases off with _|_|_|_|_|off <;> simp at c0 c2
theorem Fx.shape {w:World} {v:Value} {f:Fz} (h:Fx w v f):∃ y:FvT,v=.agg #[.bool y.s,.slice y.a y.n y.c,.slice y.a2 y.n2 y.c2,.slice y.a3 y.n3 y.c3,.int .i64 y.b]/\Fx w (.agg #[.bool y.s,.slice y.a y.n y.c,.slice y.a2 y.n2 y.c2,.slice y.a3 y.n3 y.c3,.int .i64 y.b]) f:=by
 obtain⟨s,a,n,c,aP,cP,aR,cR,rfl,-⟩:=h.box;exact⟨⟨s,a,n,c,aP,f.P.length,cP,aR,f.R.length,cR,f.B⟩,rfl,h⟩
theorem Fx.fr {S:Nat->Prop} {w w':World} (hb:ButS S w w') (hS:∀ g,S g->NoW w g) {B:Nat} (hB:Fv w B) (hSB:∀ g,S g->g=B) {v:Value} {f:Fz} (h:Fx w v f):Fx w' v f:=by
 obtain⟨s,a,n,c,vP,vR,rfl,h1,h2,h3⟩:=h;exact⟨s,a,n,c,vP,vR,rfl,h1.fr hb hS,h2.fr hb hS (fun hl g hg hs=>Fx.not5 hB h2 hl g hg (hSB g hs)),h3.fr hb hS (fun hl g hg hs=>Fx.not5 hB h3 hl g hg (hSB g hs))⟩
def Bf (w:World) (B:Nat) (f:Fz):Prop:=∃ s a n c aP cP aR cR,Fb w B s a n c aP cP aR cR f
theorem Bf.up {w w':World} {B:Nat} {f:Fz} (h:Bf w B f) (hb:Below w.heap.size w w'):Bf w' B f:=by
 obtain⟨s,a,n,c,aP,cP,aR,cR,h⟩:=h;exact⟨s,a,n,c,aP,cP,aR,cR,h.up hb⟩
theorem Bf.lt {w:World} {B:Nat} {f:Fz} (h:Bf w B f):B<w.heap.size:=by
 obtain⟨s,a,n,c,aP,cP,aR,cR,h⟩:=h;exact h.lt
theorem Bf.new {w:World} {y:FvT} {f:Fz} (h:Fx w (.agg #[.bool y.s,.slice y.a y.n y.c,.slice y.a2 y.n2 y.c2,.slice y.a3 y.n3 y.c3,.int .i64 y.b]) f) :
  Bf (w.alloc (.cells #[.bool y.s,.slice y.a y.n y.c,.slice y.a2 y.n2 y.c2,.slice y.a3 y.n3 y.c3,.int .i64 y.b] 191)) w.heap.size f:=by
 obtain⟨s,a,n,c,aP,cP,aR,cR,e,hb⟩:=h.box;refine⟨s,a,n,c,aP,cP,aR,cR,hb _ (Qc _ _) _ ?_⟩;rw[Zk1];injection e with e;rw[e]
theorem Bf.put {w:World} {B:Nat} (hB:Fv w B) {y:FvT} {f:Fz} (h:Fx w (.agg #[.bool y.s,.slice y.a y.n y.c,.slice y.a2 y.n2 y.c2,.slice y.a3 y.n3 y.c3,.int .i64 y.b]) f):Bf (Qav w B y) B f:=by
 have h':=h.fr (Jp w B y) (fun g e=>e▸hB.nw) hB (fun g e=>e);obtain⟨s,a,n,c,aP,cP,aR,cR,e,hb⟩:=h'.box;refine⟨s,a,n,c,aP,cP,aR,cR,hb _ (Below.refl _ _) _ ?_⟩;rw[Y7 hB];injection e with e;rw[e]
theorem Bf.cells {w:World} {B:Nat} {f:Fz} (h:Bf w B f):∃ y:FvT,(w.cell? ⟨B,0,none⟩=some (.bool y.s)/\w.cell? ⟨B,1,none⟩=some (.slice y.a y.n y.c)/\w.cell? ⟨B,2,none⟩=some (.slice y.a2 y.n2 y.c2)/\w.cell? ⟨B,3,none⟩=some (.slice y.a3 y.n3 y.c3)/\w.cell? ⟨B,4,none⟩=some (.int .i64 y.b)) /\
  Fx w (.agg #[.bool y.s,.slice y.a y.n y.c,.slice y.a2 y.n2 y.c2,.slice y.a3 y.n3 y.c3,.int .i64 y.b]) f/\It w (.agg #[.bool y.s,.slice y.a y.n y.c]) f.N/\Sr eP w (.slice y.a2 y.n2 y.c2) f.P/\Sr eP w (.slice y.a3 y.n3 y.c3) f.R/\y.n2=f.P.length/\y.n3=f.R.length/\y.b=f.B:=by
 obtain⟨s,a,n,c,aP,cP,aR,cR,h⟩:=h;exact⟨⟨s,a,n,c,aP,f.P.length,cP,aR,f.R.length,cR,f.B⟩,h.cells,h.fx,h.hN,h.hP,h.hR,rfl,rfl,rfl⟩
