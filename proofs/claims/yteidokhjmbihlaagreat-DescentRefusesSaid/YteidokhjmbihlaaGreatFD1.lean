/-
  Integers: mod, Gcd.
-/
import Derived.Deep.RegionHeld3
import Derived.Deep.DrawnRows
import Derived.Deep.CutBlock
import Derived.Deep.DeepCutAuto
import Derived.Deep.LoopGhost
import Derived.Test.YteidokhjmbihlaaGreatFC1
set_option linter.all false
set_option maxRecDepth 100000
set_option maxHeartbeats 4000000
namespace Go.Proofs.YteidokhjmbihlaaGreat
open Go.RowKit
attribute [local go_sem ↓] Go.wp_at_zero Go.wp_at_succ
def sg (s:Bool) (x:Nat):Int:=if s then -(x:Int) else x
theorem Qf0 {w:World} {v:Value} {x:Nat} {s:Bool} (h:Nt w v x) (hx:0<x):It w (.agg #[.bool s,v]) (sg s x):=by
 obtain⟨a,n,aA,f,rfl,h1,h2,h3,h4,rfl⟩:=h;refine⟨a,n,aA,f,?_,h1,h2,h3,h4,?_⟩
 ·cases s <;> simp[sg] <;> omega
 ·cases s <;> simp[sg]
theorem QaY (w:World):It w (Qlv false none 0 0) 0:=
 ⟨none,0,0,fun _=>0,rfl,Nat.le_refl _,Wd.nil _ _ _,fun i hi=>absurd hi (Nat.not_lt_zero i),.inl rfl,rfl⟩
theorem Qc (w:World) (o:Obj):Below w.heap.size w (w.alloc o):=(Below.refl _ _).alloc (Nat.le_refl _) o
theorem QeF (s:Bool) (a:Option Addr) (n cap:Nat) (f:Nat->Nat) (w:World) (hn:n<=cap) (hN:n<=4611686018427387904) (hw:Wd w a n f) (hf:Wf f n) :
  Calls Tryz.prog 116 #[.bool s,.slice a n cap] w fun e w'=>∃ v,e=.returned v/\It w' v (sg s (nv f n))/\Below w.heap.size w w':=by
 have aB:=Qhj f n;go_enter Tryz.func116,Tryz.ntmps116
 go_wp2_with fail;refine(QcK a n cap f _ hn hN (hw.up (Qc _ _)) hf).mono ?_;rintro e w' ⟨rfl,rfl⟩;rcases Nat.eq_zero_or_pos (tr f n) with h0|h0
 ·have hv:nv f n=0:=by rw[<- Qe5 f n,h0];rfl
  have HV:=Qh hv;rw[h0];clear hv h0;go_wp2_with fail;exact bodyPost_ret (v:=.agg #[.bool false,.slice none 0 0]) (by simp[results,Tryz.results116,go_sem]) rfl ⟨_,rfl,by rw[HV.out];cases s <;> exact QaY _,Qc _ _⟩
 ·have aA:((tr f n:Int) == 0)=false:=by rw[beq_eq_false_iff_ne];omega
  go_wp2_with fail;refine bodyPost_ret (v:=.agg #[.bool s,.slice a (tr f n) cap]) (by simp[results,Tryz.results116,go_sem]) rfl ⟨_,rfl,?_,Qc _ _⟩;refine Qf0 (QcM hn (hw.up (Qc _ _)) hf) ?_;rw[<- Qe5 f n];rcases QfR f n with c|c
  ·omega
  ·have:=QbS (f:=f) (n:=tr f n) (i:=tr f n-1) (by omega);have h2:0<f (tr f n-1)*4294967296 ^ (tr f n-1):=Nat.mul_pos (by omega) (QdE _);omega
theorem Qf6 (s:Bool) (v:Value) (x:Nat) (w:World) (h:Nt w v x) (hs:Qq x<=4611686018427387904) :
  Calls Tryz.prog 116 #[.bool s,v] w fun e w'=>∃ v,e=.returned v/\It w' v (sg s x)/\Below w.heap.size w w':=by
 obtain⟨a,n,aA,f,rfl,h1,h2,h3,h4,rfl⟩:=h;rw[QaV h3 h4] at hs;exact QeF s a n aA f w h1 hs h2 h3
theorem Qjs (z:Int):sg false z.natAbs=(z.natAbs:Int):=rfl
theorem Qjf (z:Int):sg (!decide (z<0)) z.natAbs = -z:=by unfold sg;by_cases h:z<0 <;> simp[h] <;> omega
theorem QjK (z:Int):sg (decide (z<0)) z.natAbs=z:=by unfold sg;by_cases h:z<0 <;> simp[h] <;> omega
theorem It.parts {w:World} {v:Value} {z:Int} (h:It w v z) :
  ∃ a cap f,v=.agg #[.bool (decide (z<0)),.slice a (sz z) cap]/\sz z<=cap/\Wd w a (sz z) f/\Wf f (sz z)/\Can f (sz z)/\nv f (sz z)=z.natAbs:=by
 obtain⟨a,n,cap,f,h1,h2,h3,h4,h5,h6⟩:=h;have e:n=sz z:=by unfold sz;rw[<- h6,QaV h4 h5]
 subst e;exact⟨a,cap,f,h1,h2,h3,h4,h5,h6⟩
theorem It.shape {w:World} {v:Value} {z:Int} (h:It w v z):∃ s a n cap,v=.agg #[.bool s,.slice a n cap]:=by
 obtain⟨a,n,cap,f,h1,_⟩:=h;exact⟨_,a,n,cap,h1⟩
theorem QcT {W w1:World} (hb:Below W.heap.size W w1):(∀ b o,b<W.heap.size->w1.cell? ⟨b,o,none⟩=W.cell? ⟨b,o,none⟩)/\(∀ b o,b<W.heap.size->w1.frozen? ⟨b,o,none⟩=W.frozen? ⟨b,o,none⟩):=
 ⟨fun b o h=>hb.cell (p:=⟨b,o,none⟩) h,fun b o h=>hb.frozen (p:=⟨b,o,none⟩) h⟩
theorem QbF {z:Int}:sz z=0↔z=0:=by unfold sz;rw[Qef];omega
def NoW (w:World) (B:Nat):Prop:=∀ o x,w.cell? ⟨B,o,none⟩≠some (.int .u32 x)
def noW (v:Value):Bool:=match v with | .int .u32 _=>false|_=>true
theorem NoW.new (w:World) (cs:Array Value) (T:Nat) (h:cs.toList.all noW=true):NoW (w.alloc (.cells cs T)) w.heap.size:=by
 intro o x hx;rw[World.cell?_alloc_at _ _ _ _ rfl] at hx
 have hm:(Value.int .u32 x)∈cs.toList:=by
  rw[<- Array.getElem?_toList] at hx;exact List.mem_of_getElem? hx
 have:=List.all_eq_true.1 h _ hm;simp[noW] at this
theorem NoW.up {w w':World} {B:Nat} (h:NoW w B) (hB:B<w.heap.size) (hb:Below w.heap.size w w'):NoW w' B:=fun o x=>by
 rw[hb.cell (p:=⟨B,o,none⟩) hB];exact h o x
theorem NoW.alloc {w:World} {B:Nat} (h:NoW w B) (hB:B<w.heap.size) (o:Obj):NoW (w.alloc o) B:=h.up hB (Qc _ _)
theorem NoW.set {w:World} {B:Nat} (h:NoW w B) (a:Addr) (v:Value) (hv:noW v=true):NoW (w.setCell a v) B:=by
 intro o x hx;by_cases e:a=⟨B,o,none⟩
 ·subst e
  cases hc:w.cell? ⟨B,o,none⟩ with
  | none =>
    have:(w.setCell ⟨B,o,none⟩ v).cell? ⟨B,o,none⟩=none:=by
     simp only[World.cell?,World.setCell,Array.getElem?_modify] at hc |-
     cases hh:w.heap[B]? with
     | none=>simp
     | some ob =>
       rw[hh] at hc
       cases ob <;> simp at hc |-
       exact hc
    rw[this] at hx;cases hx
  | some u =>
    rw[World.cell?_setCell_same _ _ _ hc] at hx
    cases hx
    simp[noW] at hv
 ·rw[World.cell?_setCell_other _ _ _ _ e] at hx;exact h o x hx
theorem Wd.set {w:World} {a:Option Addr} {n:Nat} {f:Nat->Nat} (h:Wd w a n f) {B:Nat} (hB:NoW w B) (i:Nat) (v:Value):Wd (w.setCell ⟨B,i,none⟩ v) a n f:=by
 rcases h with h|⟨b,off,h1,h2,h3⟩
 ·exact .inl h
 ·rcases Nat.eq_zero_or_pos n with hn|hn
  ·exact .inl hn
  ·refine .inr ⟨b,off,h1,by simpa using h2,fun j hj=>?_⟩;rw[World.cell?_setCell_other]
   ·exact h3 j hj
   ·intro e;have hb:B=b:=by cases e;rfl
    subst hb;exact hB _ _ (h3 j hj)
theorem It.set {w:World} {v:Value} {z:Int} (h:It w v z) {B:Nat} (hB:NoW w B) (i:Nat) (u:Value):It (w.setCell ⟨B,i,none⟩ u) v z:=by
 obtain⟨a,n,aA,f,h1,h2,h3,h4⟩:=h;exact⟨a,n,aA,f,h1,h2,h3.set hB i u,h4⟩
theorem It.put {w:World} {v:Value} {z:Int} (h:It w v z) {B:Nat} (hB:NoW w B) (s:Bool) (a:Option Addr) (n c:Nat) :
  It ((w.setCell ⟨B,0,none⟩ (.bool s)).setCell ⟨B,1,none⟩ (.slice a n c)) v z:=(h.set hB _ _).set (hB.set _ _ rfl) _ _
theorem Nt.set {w:World} {v:Value} {x:Nat} (h:Nt w v x) {B:Nat} (hB:NoW w B) (i:Nat) (u:Value):Nt (w.setCell ⟨B,i,none⟩ u) v x:=by
 obtain⟨a,n,aA,f,h1,h2,h3,h4⟩:=h;exact⟨a,n,aA,f,h1,h2,h3.set hB i u,h4⟩
structure Bx (w:World) (B:Nat) (x y:Value):Prop where
 c0:w.cell? ⟨B,0,none⟩=some x
 c1:w.cell? ⟨B,1,none⟩=some y
 f0:w.frozen? ⟨B,0,none⟩=false
 f1:w.frozen? ⟨B,1,none⟩=false
theorem Bx.lt {w:World} {B:Nat} {x y:Value} (h:Bx w B x y):B<w.heap.size:=World.block_lt_of_cell? w ⟨B,0,none⟩ h.c0
theorem Bx.new (w:World) (x y:Value) (T:Nat):Bx (w.alloc (.cells #[x,y] T)) w.heap.size x y:=
 ⟨by rw[World.cell?_alloc_at _ _ _ _ rfl];rfl,by rw[World.cell?_alloc_at _ _ _ _ rfl];rfl,World.frozen?_alloc_at _ _ _ _ rfl,World.frozen?_alloc_at _ _ _ _ rfl⟩
theorem Bx.up {w w':World} {B:Nat} {x y:Value} (h:Bx w B x y) (hb:Below w.heap.size w w'):Bx w' B x y:=
 ⟨(hb.cell (p:=⟨B,0,none⟩) h.lt).trans h.c0,(hb.cell (p:=⟨B,1,none⟩) h.lt).trans h.c1,(hb.frozen (p:=⟨B,0,none⟩) h.lt).trans h.f0,(hb.frozen (p:=⟨B,1,none⟩) h.lt).trans h.f1⟩
theorem Bx.drew {w:World} {B:Nat} {x y:Value} (h:Bx w B x y):Bx w.drew B x y:=⟨h.c0,h.c1,h.f0,h.f1⟩
theorem NoW.drew {w:World} {B:Nat} (h:NoW w B):NoW w.drew B:=h
theorem Bx.drewN {w:World} {B:Nat} {x y:Value} (h:Bx w B x y) (n:Nat):Bx (w.drewN n) B x y:=⟨h.c0,h.c1,h.f0,h.f1⟩
theorem NoW.drewN {w:World} {B:Nat} (h:NoW w B) (n:Nat):NoW (w.drewN n) B:=h
theorem Wd.drewN {w:World} {a:Option Addr} {n:Nat} {f:Nat->Nat} (h:Wd w a n f) (k:Nat):Wd (w.drewN k) a n f:=h
theorem Wd.drew {w:World} {a:Option Addr} {n:Nat} {f:Nat->Nat} (h:Wd w a n f):Wd w.drew a n f:=h
theorem It.drew {w:World} {v:Value} {z:Int} (h:It w v z):It w.drew v z:=h
theorem It.drewN {w:World} {v:Value} {z:Int} (h:It w v z) (k:Nat):It (w.drewN k) v z:=h
theorem Bx.put {w:World} {B:Nat} {x y:Value} (h:Bx w B x y) (x' y':Value):Bx ((w.setCell ⟨B,0,none⟩ x').setCell ⟨B,1,none⟩ y') B x' y':=by
 refine⟨?_,?_,by simp[h.f0],by simp[h.f1]⟩
 ·rw[World.cell?_setCell_other _ _ _ _ (by simp)];exact World.cell?_setCell_same _ _ _ h.c0
 ·exact World.cell?_setCell_same _ _ _ (by rw[World.cell?_setCell_other _ _ _ _ (by simp)];exact h.c1)
theorem Bx.other {w:World} {B:Nat} {x y:Value} (h:Bx w B x y) {B':Nat} (hB:B'≠B) (i:Nat) (v:Value):Bx (w.setCell ⟨B',i,none⟩ v) B x y:=
 ⟨by rw[World.cell?_setCell_other _ _ _ _ (by simp[hB])];exact h.c0,by rw[World.cell?_setCell_other _ _ _ _ (by simp[hB])];exact h.c1,by simp[h.f0],by simp[h.f1]⟩
theorem QaD {w w':World} (hb:Below w.heap.size w w') {B o:Nat} {v:Value} (h:w.cell? ⟨B,o,none⟩=some v):w'.cell? ⟨B,o,none⟩=some v:=
 (hb.cell (p:=⟨B,o,none⟩) (World.block_lt_of_cell? w ⟨B,o,none⟩ h)).trans h
theorem QbP (w:World) (B o:Nat) (x y:Value) (h0:w.cell? ⟨B,o,none⟩=some x) (h1:w.cell? ⟨B,o+1,none⟩=some y) :
  (loadVar 33 ⟨B,o,none⟩).run Tryz.prog w=.ok (.agg #[x,y]) w:=by
 simp[go_sem,h0,h1]
theorem Qbt {fn:Func} {R:Ending->World->Prop} {t:Tmp} {a:Act} {w:World} {B:Nat} {x y:Value} (hr:fn.results = #[.cell t 33]) (ht:a.tmps.getD t undef=.pointer (some ⟨B,0,none⟩)) (hd:a.defers=[])
  (h:Bx w B x y) (hR:R (.returned (.agg #[x,y])) w):bodyPost Tryz.prog fn R .ret a w:=by
 refine bodyPost_ret ?_ hd hR;have hl:=QbP w B 0 x y h.c0 h.c1;have aA:a.tmps[t]?.getD undef=.pointer (some ⟨B,0,none⟩):=by simpa using ht
 have hA:(asAddr (.pointer (some ⟨B,0,none⟩))).run Tryz.prog w=.ok ⟨B,0,none⟩ w:=rfl;simp[results,hr,aA,hl,hA]
theorem QhA (va:Value) (x:Int) (w:World) (hx:It w va x) (hs:sz x<=4398046511104) :
  Calls Tryz.prog 122 #[va] w fun e w'=>∃ v,e=.returned v/\It w' v (-x)/\Below w.heap.size w w':=by
 obtain⟨a,aA,f,rfl,h1,h2,h3,h4,h5⟩:=hx.parts;have H5:=Qh h5;clear h5;go_enter Tryz.func122,Tryz.ntmps122
 go_wp2_with fail;refine(QeF _ a (sz x) aA f _ h1 (by omega) (h2.up ((Qc _ _).alloc (by simp) _)) h3).mono ?_;rintro e w1 ⟨v,rfl,hv,hb⟩;rw[H5.out,Qjf] at hv;have hB:=(Bx.new (w.alloc (.cells #[.bool (decide (x<0)),.slice a (sz x) aA] 33)) (.bool false) (.slice none 0 0) 33).up hb;have hN:=(NoW.new (w.alloc (.cells #[.bool (decide (x<0)),.slice a (sz x) aA] 33)) #[.bool false,.slice none 0 0] 33 rfl).up (by simp) hb;have aB:=((Qc w (.cells #[.bool (decide (x<0)),.slice a (sz x) aA] 33)).alloc (by simp) (Qlr 33 false none 0 0)).trans (hb.mono (by simp;omega));simp only[Zk2] at hB hN;have c0:=hB.c0;have c1:=hB.c1;have f0:=hB.f0;have f1:=hB.f1;clear hb;obtain⟨s',a',n',aC,rfl⟩:=hv.shape;go_wp2_with fail;exact Qbt (B:=w.heap.size+1) rfl rfl rfl (hB.put _ _) ⟨_,rfl,hv.put hN _ _ _ _,(aB.setCell (by simp) _).setCell (by simp) _⟩
theorem QdQ (va:Value) (x:Int) (w:World) (hx:It w va x) (hs:sz x<=4398046511104) :
  Calls Tryz.prog 118 #[va] w fun e w'=>∃ v,e=.returned v/\It w' v (x.natAbs:Int)/\Below w.heap.size w w':=by
 obtain⟨a,aA,f,rfl,h1,h2,h3,h4,h5⟩:=hx.parts;have H5:=Qh h5;clear h5;go_enter Tryz.func118,Tryz.ntmps118
 go_wp2_with fail;refine(QeF _ a (sz x) aA f _ h1 (by omega) (h2.up ((Qc _ _).alloc (by simp) _)) h3).mono ?_;rintro e w1 ⟨v,rfl,hv,hb⟩;rw[H5.out,Qjs] at hv;have hB:=(Bx.new (w.alloc (.cells #[.bool (decide (x<0)),.slice a (sz x) aA] 33)) (.bool false) (.slice none 0 0) 33).up hb;have hN:=(NoW.new (w.alloc (.cells #[.bool (decide (x<0)),.slice a (sz x) aA] 33)) #[.bool false,.slice none 0 0] 33 rfl).up (by simp) hb;have aB:=((Qc w (.cells #[.bool (decide (x<0)),.slice a (sz x) aA] 33)).alloc (by simp) (Qlr 33 false none 0 0)).trans (hb.mono (by simp;omega));simp only[Zk2] at hB hN;have c0:=hB.c0;have c1:=hB.c1;have f0:=hB.f0;have f1:=hB.f1;clear hb;obtain⟨s',a',n',aC,rfl⟩:=hv.shape;go_wp2_with fail;exact Qbt (B:=w.heap.size+1) rfl rfl rfl (hB.put _ _) ⟨_,rfl,hv.put hN _ _ _ _,(aB.setCell (by simp) _).setCell (by simp) _⟩
theorem Qa9 (va:Value) (x:Int) (w:World) (hx:It w va x) :
  Calls Tryz.prog 58 #[va] w fun e w'=>e=.returned (.int .i64 (QaW x 0))/\Below w.heap.size w w':=by
 obtain⟨a,aA,f,rfl,h1,h2,h3,h4,h5⟩:=hx.parts;rcases Int.lt_trichotomy x 0 with h|h|h
 ·have hz:((sz x:Int) == 0)=false:=by rw[beq_eq_false_iff_ne];have:=mt QbF.1 (show x≠0 by omega);omega
  have hd:decide (x<0)=true:=by simpa using h
  go_enter Tryz.func58,Tryz.ntmps58
  go_wp2_with fail;go_ret
  exact⟨Qa2 (by rw[Qbb h];rfl),Qc _ _⟩
 ·subst h;have hz:sz 0=0:=rfl;rw[hz];clear hz;go_enter Tryz.func58,Tryz.ntmps58
  go_wp2_with fail;go_ret
  exact⟨Qa2 (by rw[Qbx rfl];rfl),Qc _ _⟩
 ·have hz:((sz x:Int) == 0)=false:=by rw[beq_eq_false_iff_ne];have:=mt QbF.1 (show x≠0 by omega);omega
  have hd:decide (x<0)=false:=by simp;omega
  go_enter Tryz.func58,Tryz.ntmps58
  go_wp2_with fail;go_ret
  exact⟨Qa2 (by rw[Qbc h];rfl),Qc _ _⟩
theorem Qbn (w:World) (s1 s2:Bool) (a1 a2:Option Addr) (n1 n2 c1 c2 T:Nat) :
  ∃ W,W=((w.alloc (.cells #[.bool s1,.slice a1 n1 c1] T)).alloc (.cells #[.bool s2,.slice a2 n2 c2] T)).alloc (.cells #[.bool false,.slice none 0 0] T)/\Below w.heap.size w W /\
   Bx W w.heap.size (.bool s1) (.slice a1 n1 c1)/\Bx W (w.heap.size+1) (.bool s2) (.slice a2 n2 c2)/\Bx W (w.heap.size+2) (.bool false) (.slice none 0 0)/\NoW W w.heap.size/\NoW W (w.heap.size+1)/\NoW W (w.heap.size+2)/\W.heap.size=w.heap.size+3:=by
 have e1:(w.alloc (.cells #[.bool s1,.slice a1 n1 c1] T)).heap.size=w.heap.size+1:=Zk2 _ _;have e2:((w.alloc (.cells #[.bool s1,.slice a1 n1 c1] T)).alloc (.cells #[.bool s2,.slice a2 n2 c2] T)).heap.size=w.heap.size+2:=by rw[Zk2,e1]
 have b1:=Bx.new w (.bool s1) (.slice a1 n1 c1) T;have b2:=Bx.new (w.alloc (.cells #[.bool s1,.slice a1 n1 c1] T)) (.bool s2) (.slice a2 n2 c2) T;have b3:=Bx.new ((w.alloc (.cells #[.bool s1,.slice a1 n1 c1] T)).alloc (.cells #[.bool s2,.slice a2 n2 c2] T)) (.bool false) (.slice none 0 0) T;have aC:=NoW.new w #[.bool s1,.slice a1 n1 c1] T rfl;have aB:=NoW.new (w.alloc (.cells #[.bool s1,.slice a1 n1 c1] T)) #[.bool s2,.slice a2 n2 c2] T rfl;have aA:=NoW.new ((w.alloc (.cells #[.bool s1,.slice a1 n1 c1] T)).alloc (.cells #[.bool s2,.slice a2 n2 c2] T)) #[.bool false,.slice none 0 0] T rfl;rw[e1] at b2 aB;rw[e2] at b3 aA
 exact⟨_,rfl,((Qc w _).alloc (by rw[e1];omega) _).alloc (by rw[e2];omega) _,(b1.up (Qc _ _)).up (Qc _ _),b2.up (Qc _ _),b3,
  (aC.alloc (by rw[e1];omega) _).alloc (by rw[e2];omega) _,aB.alloc (by rw[e2];omega) _,aA,by rw[Zk2,e2]⟩
theorem Qjn (x y:Int) (f g:Nat->Nat) (n m:Nat) (hf:nv f n=x.natAbs) (hg:nv g m=y.natAbs):sg (!decide (x<0) == decide (y<0)) (nv f n*nv g m)=x*y:=by
 rw[hf,hg];unfold sg;have e:((x.natAbs*y.natAbs:Nat):Int)=((x*y).natAbs:Int):=by rw[Int.natAbs_mul]
 by_cases h1:x<0 <;> by_cases h2:y<0 <;> simp only[h1,h2,decide_true,decide_false,beq_self_eq_true,Bool.not_true,Bool.not_false,Bool.false_eq_true,if_false,if_true,e,show (true == false)=false from rfl,show (false == true)=false from rfl]
 ·have:0<=x*y:=Int.mul_nonneg_of_nonpos_of_nonpos (by omega) (by omega);omega
 ·have:x*y<=0:=Int.mul_nonpos_of_nonpos_of_nonneg (by omega) (by omega);omega
 ·have:x*y<=0:=Int.mul_nonpos_of_nonneg_of_nonpos (by omega) (by omega);omega
 ·have:0<=x*y:=Int.mul_nonneg (by omega) (by omega);omega
theorem Qbm (va vb:Value) (x y:Int) (w:World) (hx:It w va x) (hy:It w vb y) (hsx:sz x<=2199023255552) (hsy:sz y<=2199023255552) :
  Calls Tryz.prog 57 #[va,vb] w fun e w'=>∃ v,e=.returned v/\It w' v (x*y)/\Below w.heap.size w w':=by
 obtain⟨a,ca,f,rfl,h1,h2,h3,h4,h5⟩:=hx.parts;obtain⟨b,cb,g,rfl,k1,k2,k3,k4,k5⟩:=hy.parts;have H5:=Qh h5;have K5:=Qh k5;clear h5 k5;obtain⟨W,hW,hw,d1,d2,d3,n1,n2,n3,-⟩:=Qbn w (decide (x<0)) (decide (y<0)) a b (sz x) (sz y) ca cb 33;replace hx:=hx.up hw;replace hy:=hy.up hw;replace h2:=h2.up hw;replace k2:=k2.up hw;go_enter Tryz.func57,Tryz.ntmps57
 go_wp2_with fail;rw[<- hW];clear hW;replace hw:=hw.drew;replace d1:=d1.drew;replace d2:=d2.drew;replace d3:=d3.drew;replace n3:=n3.drew;replace hx:It W.drew _ x:=hx;replace hy:It W.drew _ y:=hy;replace h2:Wd W.drew _ _ _:=h2;replace k2:Wd W.drew _ _ _:=k2
 go_region_held3 (fun w'=>w'.cell? ⟨w.heap.size,0,none⟩=some (.bool (decide (x<0)))/\w'.cell? ⟨w.heap.size,1,none⟩=some (.slice a (sz x) ca)/\w'.cell? ⟨w.heap.size+1,0,none⟩=some (.bool (decide (y<0)))/\w'.cell? ⟨w.heap.size+1,1,none⟩=some (.slice b (sz y) cb))
  (first|exact⟨d1.c0,d1.c1,d2.c0,d2.c1⟩|exact⟨((d1.other (by omega) _ _).other (by omega) _ _).c0,((d1.other (by omega) _ _).other (by omega) _ _).c1,((d2.other (by omega) _ _).other (by omega) _ _).c0,((d2.other (by omega) _ _).other (by omega) _ _).c1⟩|exact⟨(d1.up (Qc _ _)).c0,(d1.up (Qc _ _)).c1,(d2.up (Qc _ _)).c0,(d2.up (Qc _ _)).c1⟩|(go_keep;done)|(refine⟨?_,?_,?_,?_⟩ <;> (go_keep;done)))
  (first
   | (go_at_call 117;refine(Qf7 a b (sz x) (sz y) ca cb f g _ h1 k1 hsx hsy h2 k2 h3 k3).mono ?_;rintro e w1 ⟨vm,rfl,aA,hb⟩;replace n3:=n3.up d3.lt hb;replace d1:=d1.up hb;replace d2:=d2.up hb;replace d3:=d3.up hb;replace hw:=hw.trans (hb.mono hw.size);clear hb)
   | (go_at_call 116;refine(Qf6 _ _ _ _ aA (by exact by rw[H5.out,K5.out];exact Qt (Y6 _ _) (Qt (Nat.add_le_add hsx hsy) (by decide)))).mono ?_;rintro e w2 ⟨v,rfl,hv,hb⟩;replace n3:=n3.up d3.lt hb;replace d1:=d1.up hb;replace d2:=d2.up hb;replace d3:=d3.up hb;replace hw:=hw.trans (hb.mono hw.size);clear hb;have u0:=d3.c0;have u1:=d3.c1;have u2:=d3.f0;have u3:=d3.f1;obtain⟨s',a',n',aB,rfl⟩:=hv.shape))
 all_goals (go_wp2_with fail;rw[Qjn x y f g _ _ H5.out K5.out] at hv;exact Qbt (B:=w.heap.size+2) rfl rfl rfl (d3.put _ _) ⟨_,rfl,hv.put n3 _ _ _ _,(hw.setCell (by show w.heap.size<=w.heap.size+2;omega) _).setCell (by show w.heap.size<=w.heap.size+2;omega) _⟩)
theorem Qjv (x y:Int) (f g:Nat->Nat) (n m:Nat) (hf:nv f n=x.natAbs) (hg:nv g m=y.natAbs) (h:(decide (x<0) == decide (y<0))=true):sg (decide (x<0)) (nv f n+nv g m)=x+y:=by
 rw[hf,hg];unfold sg;by_cases h1:x<0 <;> by_cases h2:y<0 <;> simp[h1,h2] at h |- <;> omega
theorem QfL (x y:Int) (f g:Nat->Nat) (n m:Nat) (hf:nv f n=x.natAbs) (hg:nv g m=y.natAbs) (h:(decide (x<0) == decide (y<0))=false) (hle:nv g m<=nv f n):sg (decide (x<0)) (nv f n-nv g m)=x+y:=by
 rw[hf,hg] at *;unfold sg;by_cases h1:x<0 <;> by_cases h2:y<0 <;> simp[h1,h2] at h |- <;> omega
theorem QcA (va vb:Value) (x y:Int) (w:World) (hx:It w va x) (hy:It w vb y) (hsx:sz x<=2199023255552) (hsy:sz y<=2199023255552) :
  Calls Tryz.prog 165 #[va,vb] w fun e w'=>∃ v,e=.returned v/\It w' v (x+y)/\Below w.heap.size w w':=by
 obtain⟨a,ca,f,rfl,h1,h2,h3,h4,h5⟩:=hx.parts;obtain⟨b,cb,g,rfl,k1,k2,k3,k4,k5⟩:=hy.parts;have H5:=Qh h5;have K5:=Qh k5;clear h5 k5;obtain⟨W,hW,hw,d1,d2,d3,n1,n2,n3,-⟩:=Qbn w (decide (x<0)) (decide (y<0)) a b (sz x) (sz y) ca cb 33;replace hx:=hx.up hw;replace hy:=hy.up hw;replace h2:=h2.up hw;replace k2:=k2.up hw;clear hx hy
 have aA:Qq (nv f (sz x)+nv g (sz y))<=4611686018427387904:=by
  have:=YU (nv f (sz x)) (nv g (sz y));rw[QaV h3 h4,QaV k3 k4] at this;omega
 by_cases hs:(decide (x<0) == decide (y<0))=true
 ·have HS:=Qh hs;have p1:=d1.c0;have p2:=d1.c1;have q1:=d2.c0;have q2:=d2.c1;go_enter Tryz.func165,Tryz.ntmps165
  go_wp2_with fail;rw[<- hW];clear hW;go_quiet (fail)
  clear p1 p2 q1 q2;replace hw:=Below.drewN hw nq;replace d1:=d1.drewN nq;replace d2:=d2.drewN nq;replace d3:=d3.drewN nq;replace n3:=n3.drewN nq;replace h2:=h2.drewN nq;replace k2:=k2.drewN nq;generalize W.drewN nq=W1 at *;have p1:=d1.c0;have p2:=d1.c1;have q1:=d2.c0;have q2:=d2.c1;go_wp2_with fail;clear p1 p2 q1 q2;replace hw:=hw.drew;replace d1:=d1.drew;replace d2:=d2.drew;replace d3:=d3.drew;replace n3:=n3.drew;replace h2:=h2.drew;replace k2:=k2.drew
  go_region_held3 (fun w'=>w'.cell? ⟨w.heap.size,0,none⟩=some (.bool (decide (x<0))))
   (first|exact d1.c0|exact((d1.other (by omega) _ _).other (by omega) _ _).c0|exact(d1.up (Qc _ _)).c0|(go_keep;done)|(go_keep;done))
   (first
    | (go_at_call 197;refine(QgE a b (sz x) (sz y) ca cb f g _ h1 k1 hsx hsy h2 k2 h3 k3).mono ?_;rintro e w1 ⟨vm,rfl,aD,hb⟩;replace n3:=n3.up d3.lt hb;replace d1:=d1.up hb;replace d2:=d2.up hb;replace d3:=d3.up hb;replace hw:=hw.trans (hb.mono hw.size);clear hb)
    | (go_at_call 116;refine(Qf6 _ _ _ _ aD (by exact aA)).mono ?_;rintro e w2 ⟨v,rfl,hv,hb⟩;replace n3:=n3.up d3.lt hb;replace d1:=d1.up hb;replace d2:=d2.up hb;replace d3:=d3.up hb;replace hw:=hw.trans (hb.mono hw.size);clear hb;have u0:=d3.c0;have u1:=d3.c1;have u2:=d3.f0;have u3:=d3.f1;obtain⟨s',a',n',aE,rfl⟩:=hv.shape))
  all_goals (go_wp2_with fail;rw[Qjv x y f g _ _ H5.out K5.out HS.out] at hv;exact Qbt (B:=w.heap.size+2) rfl rfl rfl (d3.put _ _) ⟨_,rfl,hv.put n3 _ _ _ _,(hw.setCell (by show w.heap.size<=w.heap.size+2;omega) _).setCell (by show w.heap.size<=w.heap.size+2;omega) _⟩)
 ·have aG:(decide (x<0) == decide (y<0))=false:=by simpa using hs
  have HS:=Qh aG;clear hs;by_cases hlt:nv f (sz x)<nv g (sz y)
  ·have aF:sz x<=sz y:=by have:=Qa6 (Nat.le_of_lt hlt);rw[QaV h3 h4,QaV k3 k4] at this;exact this
   have aB:nv f (sz x)<=nv g (sz y):=Nat.le_of_lt hlt;have aA:Qq (nv g (sz y)-nv f (sz x))<=4611686018427387904:=by have:=Qa6 (Nat.sub_le (nv g (sz y)) (nv f (sz x)));rw[QaV k3 k4] at this;omega
   have aH:decide (QaW (nv f (sz x):Int) (nv g (sz y):Int)<0)=true:=by rw[Qbb (by omega)];rfl
   have p1:=d1.c0;have p2:=d1.c1;have q1:=d2.c0;have q2:=d2.c1;go_enter Tryz.func165,Tryz.ntmps165
   go_wp2_with fail;rw[<- hW];clear hW;go_quiet (fail)
   clear p1 p2 q1 q2;replace hw:=Below.drewN hw nq;replace d1:=d1.drewN nq;replace d2:=d2.drewN nq;replace d3:=d3.drewN nq;replace n3:=n3.drewN nq;replace h2:=h2.drewN nq;replace k2:=k2.drewN nq;generalize W.drewN nq=W1 at *;have p1:=d1.c0;have p2:=d1.c1;have q1:=d2.c0;have q2:=d2.c1;go_wp2_with fail;refine(Qbw a b (sz x) (sz y) ca cb f g _ (by omega) (by omega) h2 k2 h3 k3 h4 k4).mono ?_;rintro e w5 ⟨rfl,nk,aC⟩;clear p1 p2 q1 q2;replace hw:=Below.drewN hw nk;replace d1:=d1.drewN nk;replace d2:=d2.drewN nk;replace d3:=d3.drewN nk;replace n3:=n3.drewN nk;replace h2:=h2.drewN nk;replace k2:=k2.drewN nk;rw[<- aC] at *;clear aC;have p1:=d1.c0;have p2:=d1.c1;have q1:=d2.c0;have q2:=d2.c1;go_wp2_with fail;clear p1 p2 q1 q2;replace hw:=hw.drew;replace d1:=d1.drew;replace d2:=d2.drew;replace d3:=d3.drew;replace n3:=n3.drew;replace h2:=h2.drew;replace k2:=k2.drew
   go_region_held3 (fun w'=>w'.cell? ⟨w.heap.size+1,0,none⟩=some (.bool (decide (y<0))))
    (first|exact d2.c0|exact((d2.other (by omega) _ _).other (by omega) _ _).c0|exact(d2.up (Qc _ _)).c0|(go_keep;done)|(go_keep;done))
    (first
     | (go_at_call 198;refine(QdD b a (sz y) (sz x) cb ca g f _ k1 h1 hsy aF aB k2 h2 k3 h3).mono ?_;rintro e w1 ⟨vm,rfl,aD,hb⟩;replace n3:=n3.up d3.lt hb;replace d1:=d1.up hb;replace d2:=d2.up hb;replace d3:=d3.up hb;replace hw:=hw.trans (hb.mono hw.size);clear hb)
     | (go_at_call 116;refine(Qf6 _ _ _ _ aD (by exact aA)).mono ?_;rintro e w2 ⟨v,rfl,hv,hb⟩;replace n3:=n3.up d3.lt hb;replace d1:=d1.up hb;replace d2:=d2.up hb;replace d3:=d3.up hb;replace hw:=hw.trans (hb.mono hw.size);clear hb;have u0:=d3.c0;have u1:=d3.c1;have u2:=d3.f0;have u3:=d3.f1;obtain⟨s',a',n',aE,rfl⟩:=hv.shape))
   all_goals (go_wp2_with fail;rw[QfL y x g f _ _ K5.out H5.out (by rw[Bool.beq_comm];exact HS.out) aB,Int.add_comm] at hv;exact Qbt (B:=w.heap.size+2) rfl rfl rfl (d3.put _ _) ⟨_,rfl,hv.put n3 _ _ _ _,(hw.setCell (by show w.heap.size<=w.heap.size+2;omega) _).setCell (by show w.heap.size<=w.heap.size+2;omega) _⟩)
  ·have aB:nv g (sz y)<=nv f (sz x):=by omega
   have aF:sz y<=sz x:=by have:=Qa6 aB;rw[QaV h3 h4,QaV k3 k4] at this;exact this
   have aA:Qq (nv f (sz x)-nv g (sz y))<=4611686018427387904:=by have:=Qa6 (Nat.sub_le (nv f (sz x)) (nv g (sz y)));rw[QaV h3 h4] at this;omega
   have aH:decide (QaW (nv f (sz x):Int) (nv g (sz y):Int)<0)=false:=by
    rcases Nat.lt_or_ge (nv g (sz y)) (nv f (sz x)) with c|c
    ·rw[Qbc (by omega)];rfl
    ·rw[Qbx (by omega)];rfl
   have p1:=d1.c0;have p2:=d1.c1;have q1:=d2.c0;have q2:=d2.c1;go_enter Tryz.func165,Tryz.ntmps165
   go_wp2_with fail;rw[<- hW];clear hW;go_quiet (fail)
   clear p1 p2 q1 q2;replace hw:=Below.drewN hw nq;replace d1:=d1.drewN nq;replace d2:=d2.drewN nq;replace d3:=d3.drewN nq;replace n3:=n3.drewN nq;replace h2:=h2.drewN nq;replace k2:=k2.drewN nq;generalize W.drewN nq=W1 at *;have p1:=d1.c0;have p2:=d1.c1;have q1:=d2.c0;have q2:=d2.c1;go_wp2_with fail;refine(Qbw a b (sz x) (sz y) ca cb f g _ (by omega) (by omega) h2 k2 h3 k3 h4 k4).mono ?_;rintro e w5 ⟨rfl,nk,aC⟩;clear p1 p2 q1 q2;replace hw:=Below.drewN hw nk;replace d1:=d1.drewN nk;replace d2:=d2.drewN nk;replace d3:=d3.drewN nk;replace n3:=n3.drewN nk;replace h2:=h2.drewN nk;replace k2:=k2.drewN nk;rw[<- aC] at *;clear aC;have p1:=d1.c0;have p2:=d1.c1;have q1:=d2.c0;have q2:=d2.c1;go_wp2_with fail;clear p1 p2 q1 q2;replace hw:=hw.drew;replace d1:=d1.drew;replace d2:=d2.drew;replace d3:=d3.drew;replace n3:=n3.drew;replace h2:=h2.drew;replace k2:=k2.drew
   go_region_held3 (fun w'=>w'.cell? ⟨w.heap.size,0,none⟩=some (.bool (decide (x<0))))
    (first|exact d1.c0|exact((d1.other (by omega) _ _).other (by omega) _ _).c0|exact(d1.up (Qc _ _)).c0|(go_keep;done)|(go_keep;done))
    (first
     | (go_at_call 198;refine(QdD a b (sz x) (sz y) ca cb f g _ h1 k1 hsx aF aB h2 k2 h3 k3).mono ?_;rintro e w1 ⟨vm,rfl,aD,hb⟩;replace n3:=n3.up d3.lt hb;replace d1:=d1.up hb;replace d2:=d2.up hb;replace d3:=d3.up hb;replace hw:=hw.trans (hb.mono hw.size);clear hb)
     | (go_at_call 116;refine(Qf6 _ _ _ _ aD (by exact aA)).mono ?_;rintro e w2 ⟨v,rfl,hv,hb⟩;replace n3:=n3.up d3.lt hb;replace d1:=d1.up hb;replace d2:=d2.up hb;replace d3:=d3.up hb;replace hw:=hw.trans (hb.mono hw.size);clear hb;have u0:=d3.c0;have u1:=d3.c1;have u2:=d3.f0;have u3:=d3.f1;obtain⟨s',a',n',aE,rfl⟩:=hv.shape))
   all_goals (go_wp2_with fail;rw[QfL x y f g _ _ H5.out K5.out HS.out aB] at hv;exact Qbt (B:=w.heap.size+2) rfl rfl rfl (d3.put _ _) ⟨_,rfl,hv.put n3 _ _ _ _,(hw.setCell (by show w.heap.size<=w.heap.size+2;omega) _).setCell (by show w.heap.size<=w.heap.size+2;omega) _⟩)
theorem Qe6 (va vb:Value) (x y:Int) (w:World) (hx:It w va x) (hy:It w vb y) (hsx:sz x<=2199023255552) (hsy:sz y<=2199023255552) :
  Calls Tryz.prog 135 #[va,vb] w fun e w'=>∃ v,e=.returned v/\It w' v (x-y)/\Below w.heap.size w w':=by
 obtain⟨a,ca,f,rfl,h1,h2,h3,h4,h5⟩:=hx.parts;obtain⟨b,cb,g,rfl,k1,k2,k3,k4,k5⟩:=hy.parts;have H5:=Qh h5;have K5:=Qh k5;clear h5 k5;obtain⟨W,hW,hw,d1,d2,d3,n1,n2,n3,-⟩:=Qbn w (decide (x<0)) (decide (y<0)) a b (sz x) (sz y) ca cb 33;replace hx:=hx.up hw;replace hy:=hy.up hw;clear h1 h2 h3 h4 k1 k2 k3 k4 H5 K5;go_enter Tryz.func135,Tryz.ntmps135
 go_wp2_with fail;rw[<- hW];clear hW;replace hw:=hw.drew;replace d1:=d1.drew;replace d2:=d2.drew;replace d3:=d3.drew;replace n3:=n3.drew;replace hx:=hx.drew;replace hy:=hy.drew
 go_region_held3 (fun w'=>w'.cell? ⟨w.heap.size,0,none⟩=some (.bool (decide (x<0)))/\w'.cell? ⟨w.heap.size,1,none⟩=some (.slice a (sz x) ca)/\w'.cell? ⟨w.heap.size+1,0,none⟩=some (.bool (decide (y<0)))/\w'.cell? ⟨w.heap.size+1,1,none⟩=some (.slice b (sz y) cb))
  (first|exact⟨d1.c0,d1.c1,d2.c0,d2.c1⟩|exact⟨((d1.other (by omega) _ _).other (by omega) _ _).c0,((d1.other (by omega) _ _).other (by omega) _ _).c1,((d2.other (by omega) _ _).other (by omega) _ _).c0,((d2.other (by omega) _ _).other (by omega) _ _).c1⟩|exact⟨(d1.up (Qc _ _)).c0,(d1.up (Qc _ _)).c1,(d2.up (Qc _ _)).c0,(d2.up (Qc _ _)).c1⟩|(go_keep;done)|(refine⟨?_,?_,?_,?_⟩ <;> (go_keep;done)))
  (first
   | (go_at_call 122;refine(QhA _ y _ hy (Qt hsy (by decide))).mono ?_;rintro e w1 ⟨vm,rfl,aA,hb⟩;replace n3:=n3.up d3.lt hb;replace d1:=d1.up hb;replace d2:=d2.up hb;replace d3:=d3.up hb;replace hx:=hx.up hb;replace hy:=hy.up hb;replace hw:=hw.trans (hb.mono hw.size);clear hb)
   | (go_at_call 165;refine(QcA _ vm x (-y) _ hx aA hsx (by rw[QgN];exact hsy)).mono ?_;rintro e w2 ⟨v,rfl,hv,hb⟩;replace n3:=n3.up d3.lt hb;replace d1:=d1.up hb;replace d2:=d2.up hb;replace d3:=d3.up hb;replace hw:=hw.trans (hb.mono hw.size);clear hb;have u0:=d3.c0;have u1:=d3.c1;have u2:=d3.f0;have u3:=d3.f1;obtain⟨s',a',n',aB,rfl⟩:=hv.shape))
 all_goals (go_wp2_with fail;rw[<- Int.sub_eq_add_neg] at hv;exact Qbt (B:=w.heap.size+2) rfl rfl rfl (d3.put _ _) ⟨_,rfl,hv.put n3 _ _ _ _,(hw.setCell (by show w.heap.size<=w.heap.size+2;omega) _).setCell (by show w.heap.size<=w.heap.size+2;omega) _⟩)
def orI (s:Int):Int:=if s=0 then 1 else s
theorem Qjr (s:Int) (w:World) (hs : -1<=s) (hs2:s<=1) (g:Nat) (h0:w.cell? ⟨g,0,none⟩=some (.int .i64 s)) (h1:w.cell? ⟨g,1,none⟩=some (.int .i64 1)) :
  Calls Tryz.prog 163 #[.slice (some ⟨g,0,none⟩) 2 2] w fun e w'=>e=.returned (.int .i64 (orI s))/\w=w':=by
 by_cases hz:s=0
 ·subst hz;go_enter Tryz.func163,Tryz.ntmps163
  go_wp2_with fail;refine wp_loop_rounds 3 ?_;rw[rounds_succ];go_wp2_with fail;rw[rounds_succ];go_wp2_with fail;go_ret
  exact⟨Qa2 (by unfold orI;rfl),rfl⟩
 ·have hb:(s != 0)=true:=by rw[bne_iff_ne];exact hz
  go_enter Tryz.func163,Tryz.ntmps163
  go_wp2_with fail;refine wp_loop_rounds 3 ?_;rw[rounds_succ];go_wp2_with fail;go_ret
  exact⟨Qa2 (by unfold orI;rw[if_neg hz];rfl),rfl⟩
theorem Qcu (w:World) (s1 s2:Bool) (a1 a2:Option Addr) (n1 n2 c1 c2 T:Nat) :
  ∃ W,W=(w.alloc (.cells #[.bool s1,.slice a1 n1 c1] T)).alloc (.cells #[.bool s2,.slice a2 n2 c2] T)/\Below w.heap.size w W /\
   Bx W w.heap.size (.bool s1) (.slice a1 n1 c1)/\Bx W (w.heap.size+1) (.bool s2) (.slice a2 n2 c2)/\NoW W w.heap.size/\NoW W (w.heap.size+1)/\W.heap.size=w.heap.size+2:=by
 have e1:(w.alloc (.cells #[.bool s1,.slice a1 n1 c1] T)).heap.size=w.heap.size+1:=Zk2 _ _;have b1:=Bx.new w (.bool s1) (.slice a1 n1 c1) T;have b2:=Bx.new (w.alloc (.cells #[.bool s1,.slice a1 n1 c1] T)) (.bool s2) (.slice a2 n2 c2) T;have aB:=NoW.new w #[.bool s1,.slice a1 n1 c1] T rfl;have aA:=NoW.new (w.alloc (.cells #[.bool s1,.slice a1 n1 c1] T)) #[.bool s2,.slice a2 n2 c2] T rfl;rw[e1] at b2 aA;exact⟨_,rfl,(Qc w _).alloc (by rw[e1];omega) _,b1.up (Qc _ _),b2,aB.alloc (by rw[e1];omega) _,aA,by rw[Zk2,e1]⟩
theorem QeG (x y:Int) (h:(decide (x<0) == decide (y<0))=false):QaW (QaW x 0) (QaW y 0)=QaW x y:=by
 unfold QaW;by_cases h1:x<0 <;> by_cases h2:y<0 <;> simp[h1,h2] at h |-
 ·have:0<=y:=by omega
  rcases Int.lt_or_eq_of_le this with c|c
  ·simp[c,show x<y by omega]
  ·subst c;simp[h1]
 ·have:0<=x:=by omega
  rcases Int.lt_or_eq_of_le this with c|c
  ·simp[c,show ¬ x<y by omega,show y<x by omega]
  ·subst c;simp[h2,show ¬ (0:Int)<y by omega]
theorem QfE (x y:Int) (f g:Nat->Nat) (n m:Nat) (hf:nv f n=x.natAbs) (hg:nv g m=y.natAbs) (h:(decide (x<0) == decide (y<0))=true) :
  QaW (nv f n:Int) (nv g m:Int)*orI (QaW x 0)=QaW x y:=by
 rw[hf,hg];unfold orI;have h':(x<0↔y<0):=by by_cases h1:x<0 <;> by_cases h2:y<0 <;> simp[h1,h2] at h |-
 rcases Int.lt_trichotomy x 0 with c|c|c
 ·have c2:=h'.1 c;rw[Qbb c];simp only[show ((-1:Int)=0)=False from by simp,if_false];rcases Int.lt_trichotomy x y with d|d|d
  ·rw[Qbb d,Qbc (by omega)];rfl
  ·rw[Qbx d,Qbx (by omega)];rfl
  ·rw[Qbc d,Qbb (by omega)];rfl
 ·subst c;have c2:¬ y<0:=fun e=>by have:=h'.2 e;omega
  rw[Qbx (x:=0) (y:=0) rfl,if_pos rfl,Int.mul_one];congr 1;omega
 ·have c2:¬ y<0:=fun e=>by have:=h'.2 e;omega
  rw[Qbc c];simp only[show ((1:Int)=0)=False from by simp,if_false,Int.mul_one];congr 1 <;> omega
theorem QbU (x y:Int) : -1<=QaW x y/\QaW x y<=1:=by unfold QaW;split <;> (try split) <;> omega
theorem Qbz (va vb:Value) (x y:Int) (w:World) (hx:It w va x) (hy:It w vb y) (hsx:sz x<=2199023255552) (hsy:sz y<=2199023255552) :
  Calls Tryz.prog 110 #[va,vb] w fun e w'=>e=.returned (.int .i64 (QaW x y))/\Below w.heap.size w w':=by
 obtain⟨a,ca,f,rfl,h1,h2,h3,h4,h5⟩:=hx.parts;obtain⟨b,cb,g,rfl,k1,k2,k3,k4,k5⟩:=hy.parts;have H5:=Qh h5;have K5:=Qh k5;clear h5 k5;obtain⟨W,hW,hw,d1,d2,n1,n2,-⟩:=Qcu w (decide (x<0)) (decide (y<0)) a b (sz x) (sz y) ca cb 33;replace hx:=hx.up hw;replace hy:=hy.up hw;replace h2:=h2.up hw;replace k2:=k2.up hw;have p1:=d1.c0;have q1:=d2.c0;by_cases hs:(decide (x<0) == decide (y<0))=false
 ·have HS:=Qh hs;go_enter Tryz.func110,Tryz.ntmps110
  go_wp2_with fail;rw[<- hW];clear hW;clear p1 q1;replace hw:=hw.drew;replace d1:=d1.drew;replace d2:=d2.drew;replace hx:=hx.drew;replace hy:=hy.drew;replace h2:=h2.drew;replace k2:=k2.drew
  go_region_held3 (fun w'=>w'.cell? ⟨w.heap.size,0,none⟩=some (.bool (decide (x<0)))/\w'.cell? ⟨w.heap.size,1,none⟩=some (.slice a (sz x) ca)/\w'.cell? ⟨w.heap.size+1,0,none⟩=some (.bool (decide (y<0)))/\w'.cell? ⟨w.heap.size+1,1,none⟩=some (.slice b (sz y) cb))
   (first|exact⟨d1.c0,d1.c1,d2.c0,d2.c1⟩|exact⟨((d1.other (by omega) _ _).other (by omega) _ _).c0,((d1.other (by omega) _ _).other (by omega) _ _).c1,((d2.other (by omega) _ _).other (by omega) _ _).c0,((d2.other (by omega) _ _).other (by omega) _ _).c1⟩|exact⟨(d1.up (Qc _ _)).c0,(d1.up (Qc _ _)).c1,(d2.up (Qc _ _)).c0,(d2.up (Qc _ _)).c1⟩|(go_keep;done)|(refine⟨?_,?_,?_,?_⟩ <;> (go_keep;done)))
   (first
    | (go_at_call 58;with_reducible (refine(Qa9 _ x _ hx).mono ?_);rintro e w1 ⟨rfl,hb⟩;replace d1:=d1.up hb;replace d2:=d2.up hb;replace hx:=hx.up hb;replace hy:=hy.up hb;replace hw:=hw.trans (hb.mono hw.size);clear hb)
    | (go_at_call 58;with_reducible (refine(Qa9 _ y _ hy).mono ?_);rintro e w1 ⟨rfl,hb⟩;replace d1:=d1.up hb;replace d2:=d2.up hb;replace hx:=hx.up hb;replace hy:=hy.up hb;replace hw:=hw.trans (hb.mono hw.size);clear hb)
    | (go_at_call 161;refine(QbK _ _ _).mono ?_;rintro e w1 ⟨rfl,rfl⟩))
  all_goals (go_wp2_with fail;go_ret;exact⟨Qa2 (by rw[<- QeG x y HS.out];rfl),hw⟩)
 ·have aD:(decide (x<0) == decide (y<0))=true:=by simpa using hs
  have HS:=Qh aD;clear hs;have aC:=QbU x 0;have he:=QfE x y f g _ _ H5.out K5.out HS.out;have aA:=QbU x y;rw[<- he] at aA;have aF:=aA.1;have aE:=aA.2;have HE:=Qh he;clear aA he;go_enter Tryz.func110,Tryz.ntmps110
  go_wp2_with fail;rw[<- hW];clear hW;clear p1 q1;replace hw:=hw.drew;replace d1:=d1.drew;replace d2:=d2.drew;replace hx:=hx.drew;replace hy:=hy.drew;replace h2:=h2.drew;replace k2:=k2.drew
  go_region_held3 (fun w'=>w'.cell? ⟨w.heap.size,0,none⟩=some (.bool (decide (x<0)))/\w'.cell? ⟨w.heap.size,1,none⟩=some (.slice a (sz x) ca)/\w'.cell? ⟨w.heap.size+1,1,none⟩=some (.slice b (sz y) cb))
   (first|exact⟨d1.c0,d1.c1,d2.c1⟩|exact⟨((d1.other (by omega) _ _).other (by omega) _ _).c0,((d1.other (by omega) _ _).other (by omega) _ _).c1,((d2.other (by omega) _ _).other (by omega) _ _).c1⟩|exact⟨(d1.up (Qc _ _)).c0,(d1.up (Qc _ _)).c1,(d2.up (Qc _ _)).c1⟩|(go_keep;done)|(refine⟨?_,?_,?_⟩ <;> (go_keep;done)))
   (first
    | (go_at_call 162;refine(Qbw a b (sz x) (sz y) ca cb f g _ (by omega) (by omega) h2 k2 h3 k3 h4 k4).mono ?_;rintro e w5 ⟨rfl,nk,aB⟩;replace hw:=Below.drewN hw nk;replace d1:=d1.drewN nk;replace d2:=d2.drewN nk;replace hx:=hx.drewN nk;rw[<- aB] at hw d1 d2 hx;clear aB)
    | (go_at_call 58;refine(Qa9 _ x _ hx).mono ?_;rintro e w1 ⟨rfl,hb⟩;replace d1:=d1.up hb;replace d2:=d2.up hb;replace hx:=hx.up hb;replace hw:=hw.trans (hb.mono hw.size);clear hb)
    | (go_at_call 163;refine(Qjr _ _ aC.1 aC.2 _ (by simp) (by simp)).mono ?_;rintro e w1 ⟨rfl,rfl⟩))
  all_goals (go_wp2_with fail;go_ret;exact⟨Qa2 (congrArg (Value.int .i64) ((IntWalk.i64_in _ (by omega)).trans HE.out)),hw.alloc hw.size _⟩)
def Vx (w:World) (B:Nat) (z:Int):Prop:=
 ∃ s a n c,Bx w B (.bool s) (.slice a n c)/\It w (Qlv s a n c) z/\NoW w B
theorem Vx.mk {w:World} {B:Nat} {s:Bool} {a:Option Addr} {n c:Nat} {z:Int} (h:Bx w B (.bool s) (.slice a n c)) (hv:It w (Qlv s a n c) z) (hn:NoW w B):Vx w B z:=⟨s,a,n,c,h,hv,hn⟩
theorem Vx.lt {w:World} {B:Nat} {z:Int} (h:Vx w B z):B<w.heap.size:=by
 obtain⟨s,a,n,c,h1,_⟩:=h;exact h1.lt
theorem Vx.up {w w':World} {B:Nat} {z:Int} (h:Vx w B z) (hb:Below w.heap.size w w'):Vx w' B z:=by
 obtain⟨s,a,n,c,h1,h2,h3⟩:=h;exact⟨s,a,n,c,h1.up hb,h2.up hb,h3.up h1.lt hb⟩
theorem Vx.alloc {w:World} {B:Nat} {z:Int} (h:Vx w B z) (o:Obj):Vx (w.alloc o) B z:=h.up (Qc _ _)
theorem Vx.drew {w:World} {B:Nat} {z:Int} (h:Vx w B z):Vx w.drew B z:=by
 obtain⟨s,a,n,c,h1,h2,h3⟩:=h;exact⟨s,a,n,c,h1.drew,h2.drew,h3.drew⟩
theorem Vx.new {w:World} {B T:Nat} {s:Bool} {a:Option Addr} {n c:Nat} {z:Int} (hB:B=w.heap.size) (hv:It w (Qlv s a n c) z):Vx (w.alloc (.cells #[.bool s,.slice a n c] T)) B z:=by
 subst hB;exact⟨s,a,n,c,Bx.new _ _ _ _,hv.up (Qc _ _),NoW.new _ _ _ rfl⟩
theorem Vx.new0 {w:World} {B T:Nat} (hB:B=w.heap.size):Vx (w.alloc (.cells #[.bool false,.slice none 0 0] T)) B 0:=Vx.new hB (QaY _)
def Va (w:World) (B:Nat):Prop:=∃ z,Vx w B z
theorem Vx.va {w:World} {B:Nat} {z:Int} (h:Vx w B z):Va w B:=⟨z,h⟩
theorem Va.up {w w':World} {B:Nat} (h:Va w B) (hb:Below w.heap.size w w'):Va w' B:=h.imp fun _ h=>h.up hb
theorem Va.alloc {w:World} {B:Nat} (h:Va w B) (o:Obj):Va (w.alloc o) B:=h.imp fun _ h=>h.alloc o
theorem Va.drew {w:World} {B:Nat} (h:Va w B):Va w.drew B:=h.imp fun _ h=>h.drew
theorem Va.new0 {w:World} {B T:Nat} (hB:B=w.heap.size):Va (w.alloc (.cells #[.bool false,.slice none 0 0] T)) B:=⟨0,Vx.new0 hB⟩
theorem Vx.put {w:World} {B:Nat} {s:Bool} {a:Option Addr} {n c:Nat} {z:Int} (h:Va w B) (hv:It w (Qlv s a n c) z) :
  Vx ((w.setCell ⟨B,0,none⟩ (.bool s)).setCell ⟨B,1,none⟩ (.slice a n c)) B z:=by
 obtain⟨z0,s',a',n',c',h1,h2,h3⟩:=h;exact⟨s,a,n,c,h1.put _ _,hv.put h3 _ _ _ _,(h3.set _ _ rfl).set _ _ rfl⟩
theorem Vx.other {w:World} {B B':Nat} {s:Bool} {a:Option Addr} {n c:Nat} {z:Int} (h:Vx w B z) (h':Va w B') (hne:B'≠B) :
  Vx ((w.setCell ⟨B',0,none⟩ (.bool s)).setCell ⟨B',1,none⟩ (.slice a n c)) B z:=by
 obtain⟨s1,a1,n1,c1,h1,h2,h3⟩:=h;obtain⟨z0,s2,a2,n2,c2,k1,k2,k3⟩:=h';exact⟨s1,a1,n1,c1,(h1.other hne _ _).other hne _ _,h2.put k3 _ _ _ _,(h3.set _ _ rfl).set _ _ rfl⟩
theorem Va.st {w:World} {B B':Nat} {s:Bool} {a:Option Addr} {n c:Nat} (h:Va w B) (h':Va w B') (hne:B'≠B) :
  Va ((w.setCell ⟨B',0,none⟩ (.bool s)).setCell ⟨B',1,none⟩ (.slice a n c)) B:=h.imp fun _ h=>h.other h' hne
theorem It.st {w:World} {B':Nat} {s:Bool} {a:Option Addr} {n c:Nat} {z:Int} {v:Value} (h:It w v z) (h':Va w B') :
  It ((w.setCell ⟨B',0,none⟩ (.bool s)).setCell ⟨B',1,none⟩ (.slice a n c)) v z:=by
 obtain⟨z0,s2,a2,n2,c2,k1,k2,k3⟩:=h';exact h.put k3 _ _ _ _
theorem It.alloc {w:World} {v:Value} {z:Int} (h:It w v z) (o:Obj):It (w.alloc o) v z:=h.up (Qc _ _)
theorem Nt.alloc {w:World} {v:Value} {x:Nat} (h:Nt w v x) (o:Obj):Nt (w.alloc o) v x:=h.up (Qc _ _)
theorem Nt.drew {w:World} {v:Value} {x:Nat} (h:Nt w v x):Nt w.drew v x:=h
theorem Nt.st {w:World} {B':Nat} {s:Bool} {a:Option Addr} {n c:Nat} {x:Nat} {v:Value} (h:Nt w v x) (h':Va w B') :
  Nt ((w.setCell ⟨B',0,none⟩ (.bool s)).setCell ⟨B',1,none⟩ (.slice a n c)) v x:=by
 obtain⟨z0,s2,a2,n2,c2,k1,k2,k3⟩:=h';exact(h.set k3 _ _).set (k3.set _ _ rfl) _ _
theorem Va.free {w:World} {B:Nat} (h:Va w B):w.frozen? ⟨B,0,none⟩=false/\w.frozen? ⟨B,1,none⟩=false:=by
 obtain⟨z,s,a,n,c,h1,h2,h3⟩:=h;exact⟨h1.f0,h1.f1⟩
theorem Va.cells {w:World} {B:Nat} (h:Va w B):∃ s a n c,w.cell? ⟨B,0,none⟩=some (.bool s)/\w.cell? ⟨B,1,none⟩=some (.slice a n c)/\w.frozen? ⟨B,0,none⟩=false/\w.frozen? ⟨B,1,none⟩=false:=by
 obtain⟨z,s,a,n,c,h1,h2,h3⟩:=h;exact⟨s,a,n,c,h1.c0,h1.c1,h1.f0,h1.f1⟩
theorem Bl.st {W w:World} {B':Nat} {s:Bool} {a:Option Addr} {n c:Nat} (h:Below W.heap.size W w) (hB:W.heap.size<=B') :
  Below W.heap.size W ((w.setCell ⟨B',0,none⟩ (.bool s)).setCell ⟨B',1,none⟩ (.slice a n c)):=(h.setCell (by exact hB) _).setCell (by exact hB) _
theorem Bl.alloc {W w:World} (h:Below W.heap.size W w) (o:Obj):Below W.heap.size W (w.alloc o):=h.alloc h.size o
theorem Bl.drew {W w:World} (h:Below W.heap.size W w):Below W.heap.size W w.drew:=h.drew
theorem Bl.up {W w w':World} (h:Below W.heap.size W w) (hb:Below w.heap.size w w'):Below W.heap.size W w':=h.trans (hb.mono h.size)
theorem QbE {w:World} {B o:Nat} {v:Value} (h:w.cell? ⟨B,o,none⟩=some v) (ob:Obj):(w.alloc ob).cell? ⟨B,o,none⟩=some v:=QaD (Qc _ _) h
theorem Qa7 {w:World} {B o:Nat} {v:Value} (h:w.cell? ⟨B,o,none⟩=some v):w.drew.cell? ⟨B,o,none⟩=some v:=h
theorem Qdg {w:World} {B B' o i:Nat} {v u:Value} (h:w.cell? ⟨B,o,none⟩=some v) (hne:B'≠B):(w.setCell ⟨B',i,none⟩ u).cell? ⟨B,o,none⟩=some v:=by
 rw[World.cell?_setCell_other _ _ _ _ (by simp[hne])];exact h
theorem Vx.cells {w:World} {B:Nat} {z:Int} (h:Vx w B z):∃ s a n c,w.cell? ⟨B,0,none⟩=some (.bool s)/\w.cell? ⟨B,1,none⟩=some (.slice a n c)/\w.frozen? ⟨B,0,none⟩=false/\w.frozen? ⟨B,1,none⟩=false/\It w (Qlv s a n c) z:=by
 obtain⟨s,a,n,c,h1,h2,h3⟩:=h;exact⟨s,a,n,c,h1.c0,h1.c1,h1.f0,h1.f1,h2⟩
theorem QbY {p:Prop} (h:p:=by(repeat' (first|with_reducible assumption|(with_reducible exact Vx.va (by with_reducible assumption))|(with_reducible refine Va.new0 (by first|rfl|(simp only[Zk2,World.size_drew,World.size_setCell];done)|(simp only[Zk2,World.size_drew,World.size_setCell];omega)|omega))|(with_reducible refine Va.alloc ?_ _)|(with_reducible refine Va.drew ?_)|(with_reducible refine Va.st ?_ ?_ (by omega))|(with_reducible refine Va.up ?_ (by with_reducible assumption))|(with_reducible refine Vx.put ?_ ?_)|(with_reducible refine Vx.other ?_ ?_ (by omega))|(with_reducible refine Vx.new0 (by first|rfl|(simp only[Zk2,World.size_drew,World.size_setCell];done)|(simp only[Zk2,World.size_drew,World.size_setCell];omega)|omega))|(with_reducible refine Vx.new (by first|rfl|(simp only[Zk2,World.size_drew,World.size_setCell];done)|(simp only[Zk2,World.size_drew,World.size_setCell];omega)|omega) ?_)|(with_reducible refine Vx.alloc ?_ _)|(with_reducible refine Vx.drew ?_)|(with_reducible refine Vx.up ?_ (by with_reducible assumption))|(with_reducible refine It.st ?_ ?_)|(with_reducible refine It.alloc ?_ _)|(with_reducible refine It.drew ?_)|(with_reducible refine It.up ?_ (by with_reducible assumption))|(with_reducible refine Nt.st ?_ ?_)|(with_reducible refine Nt.alloc ?_ _)|(with_reducible refine Nt.drew ?_)|(with_reducible refine Nt.up ?_ (by with_reducible assumption))|(with_reducible refine Bl.st ?_ (by omega))|(with_reducible refine Bl.alloc ?_ _)|(with_reducible refine Bl.drew ?_)|(with_reducible refine Bl.up ?_ (by with_reducible assumption))|(with_reducible exact Below.refl _ _)))):p:=h
theorem Qbl {fn:Func} {R:Ending->World->Prop} {t:Tmp} {a:Act} {w:World} {B:Nat} {z:Int} (hr:fn.results = #[.cell t 33]) (ht:a.tmps.getD t undef=.pointer (some ⟨B,0,none⟩)) (hd:a.defers=[])
  (h:Vx w B z) (hR:∀ v,It w v z->R (.returned v) w):bodyPost Tryz.prog fn R .ret a w:=by
 obtain⟨s,x,n,c,h1,h2,h3⟩:=h;exact Qbt hr ht hd h1 (hR _ h2)
theorem Qfu (n:Int) (h1 : -9223372036854775808<=n) (h2:n<=9223372036854775807) :
  nv (fun i=>if i=0 then n.natAbs%4294967296 else n.natAbs/4294967296) 2=n.natAbs/\Wf (fun i=>if i=0 then n.natAbs%4294967296 else n.natAbs/4294967296) 2:=by
 constructor
 ·simp[nv];omega
 ·intro i hi;show (if i=0 then _ else _)<_;split <;> omega
theorem Qbf (n:Int) (w:World) (h1 : -9223372036854775808<=n) (h2:n<=9223372036854775807) :
  Calls Tryz.prog 119 #[.int .i64 n] w fun e w'=>∃ v,e=.returned v/\It w' v n/\Below w.heap.size w w':=by
 go_enter Tryz.func119,Tryz.ntmps119
 go_wp2_with fail
 have hm:IntKind.u64.wrap (max n (wrap64 (-n)))=(n.natAbs:Int):=by
  simp[IntKind.wrap,IntKind.bits,IntKind.signed]
  unfold wrap64;omega
 rw[hm];clear hm;have e0:((n.natAbs:Int)%4294967296)=((n.natAbs%4294967296:Nat):Int):=by omega
 have e1:((n.natAbs:Int)/4294967296%4294967296)=((n.natAbs/4294967296:Nat):Int):=by omega
 rw[e0,e1];clear e0 e1;have aB:=(Qc w (Qlr 33 false none 0 0));have aA:=aB.alloc aB.size (.cells #[.int .u32 ((n.natAbs%4294967296:Nat):Int),.int .u32 ((n.natAbs/4294967296:Nat):Int)] 139);obtain⟨v1,v2⟩:=Qfu n h1 h2
 have hO:=Own.lit (w.alloc (Qlr 33 false none 0 0)) #[.int .u32 ((n.natAbs%4294967296:Nat):Int),.int .u32 ((n.natAbs/4294967296:Nat):Int)] 139 2 (wv fun i=>if i=0 then n.natAbs%4294967296 else n.natAbs/4294967296) rfl
  (fun i hi=>by rcases i with _|_|i;rfl;rfl;omega)
 have hx:=(Vx.new0 (w:=w) (T:=33) rfl).alloc (.cells #[.int .u32 ((n.natAbs%4294967296:Nat):Int),.int .u32 ((n.natAbs/4294967296:Nat):Int)] 139);simp only[Zk2] at hO;refine(QeF _ _ 2 2 _ _ (Nat.le_refl _) (by omega) hO.wd v2).mono ?_;rintro e w1 ⟨v,rfl,hv,hb⟩;rw[v1,QjK] at hv;replace hx:=hx.up hb;replace aA:=aA.trans (hb.mono aA.size);obtain⟨s',a',n',aC,rfl⟩:=hv.shape;clear hO hb aB;obtain⟨s,a,k,c,c0,c1,f0,f1,-⟩:=hx.cells;go_wp2_with fail;exact Qbl (B:=w.heap.size) rfl rfl rfl (Vx.put hx.va hv) (fun v hv=>⟨_,rfl,hv,Bl.st aA (Nat.le_refl _)⟩)
theorem QiE (s:Bool) (x:Nat):sz (sg s x)=Qq x:=by
 unfold sz sg;split <;> simp
theorem QeS (y:Int):sz (y.natAbs:Int)=sz y:=by unfold sz;simp
theorem Qhv (x y:Int) : -9223372036854775808<=QaW x y/\QaW x y<=9223372036854775807:=by unfold QaW;split <;> (try split) <;> omega
theorem Qj1 (x y:Int):sz (QaW x y)<=2199023255552:=by unfold QaW;split <;> (try split) <;> decide
theorem It.sgn {w:World} {s:Bool} {a:Option Addr} {n c:Nat} {z:Int} (h:It w (Qlv s a n c) z):s=decide (z<0):=by
 obtain⟨a',n',c',f,h1,_⟩:=h;simp at h1
 exact h1.1
theorem QdH (x y:Int) (hy:y≠0) (h:sg (decide (x<0)) (x.natAbs%y.natAbs)<0) :
  sg (!(decide (x<0) == decide (y<0))) (x.natAbs/y.natAbs)-QaW y 0=x/y/\sg (decide (x<0)) (x.natAbs%y.natAbs)+(y.natAbs:Int)=x%y:=by
 have hx:x<0:=by
  by_cases hx:x<0
  ·exact hx
  ·simp[sg,hx] at h;omega
 have hm:=Nat.mod_lt x.natAbs (Nat.pos_of_ne_zero (mt Int.natAbs_eq_zero.1 hy));have hd:=Nat.div_add_mod x.natAbs y.natAbs;rw[Nat.mul_comm] at hd;generalize x.natAbs/y.natAbs=q at *;generalize x.natAbs%y.natAbs=r at *;have aB:((q*y.natAbs:Nat):Int)+(r:Int)=(x.natAbs:Int):=by omega
 rw[Int.natCast_mul] at aB;have aC:(x.natAbs:Int) = -x:=by omega
 have hr:0<r:=by simp[sg,hx] at h;omega
 rcases Int.lt_or_gt_of_ne hy with hn|hp
 ·have aA:(y.natAbs:Int) = -y:=by omega
  rw[aC,aA] at aB;have:=(Int.ediv_emod_unique' (a:=x) (b:=y) (q:=sg (!(decide (x<0) == decide (y<0))) q-QaW y 0) (r:=sg (decide (x<0)) r+(y.natAbs:Int)) hn).2 ⟨?_,?_,?_⟩
  ·exact⟨this.1.symm,this.2.symm⟩
  ·rw[Qbb hn];simp only[sg,hx,hn,aA,decide_true,beq_self_eq_true,Bool.not_true,Bool.false_eq_true,if_false,if_true,Int.mul_sub,Int.mul_neg,Int.mul_one];rw[Int.mul_neg,Int.mul_comm] at aB;omega
  ·simp only[sg,hx,decide_true,if_true];omega
  ·simp only[sg,hx,decide_true,if_true];omega
 ·have aA:(y.natAbs:Int)=y:=by omega
  have hn:¬ y<0:=by omega
  rw[aC,aA] at aB;have:=(Int.ediv_emod_unique (a:=x) (b:=y) (q:=sg (!(decide (x<0) == decide (y<0))) q-QaW y 0) (r:=sg (decide (x<0)) r+(y.natAbs:Int)) hp).2 ⟨?_,?_,?_⟩
  ·exact⟨this.1.symm,this.2.symm⟩
  ·rw[Qbc hp];simp only[sg,hx,hn,aA,decide_true,decide_false,if_true,Int.mul_sub,Int.mul_neg,Int.mul_one,show (true == false)=false from rfl,Bool.not_false];rw[Int.mul_comm] at aB;omega
  ·simp only[sg,hx,decide_true,if_true];omega
  ·simp only[sg,hx,decide_true,if_true];omega
theorem Qdn (x y:Int) (hy:y≠0) (h:¬ sg (decide (x<0)) (x.natAbs%y.natAbs)<0) :
  sg (!(decide (x<0) == decide (y<0))) (x.natAbs/y.natAbs)=x/y/\sg (decide (x<0)) (x.natAbs%y.natAbs)=x%y:=by
 have hm:=Nat.mod_lt x.natAbs (Nat.pos_of_ne_zero (mt Int.natAbs_eq_zero.1 hy));have hd:=Nat.div_add_mod x.natAbs y.natAbs;rw[Nat.mul_comm] at hd;generalize x.natAbs/y.natAbs=q at *;generalize x.natAbs%y.natAbs=r at *;have aC:((q*y.natAbs:Nat):Int)+(r:Int)=(x.natAbs:Int):=by omega
 rw[Int.natCast_mul] at aC
 have aD:y*sg (!(decide (x<0) == decide (y<0))) q+sg (decide (x<0)) r=x:=by
  by_cases hx:x<0 <;> by_cases hn:y<0
  ·have aA:(y.natAbs:Int) = -y:=by omega
   have aB:(x.natAbs:Int) = -x:=by omega
   rw[aB,aA,Int.mul_neg,Int.mul_comm] at aC;simp only[sg,hx,hn,decide_true,beq_self_eq_true,Bool.not_true,Bool.false_eq_true,if_false,if_true];omega
  ·have aA:(y.natAbs:Int)=y:=by omega
   have aB:(x.natAbs:Int) = -x:=by omega
   rw[aB,aA,Int.mul_comm] at aC;simp only[sg,hx,hn,decide_true,decide_false,if_true,Int.mul_neg,show (true == false)=false from rfl,Bool.not_false];omega
  ·have aA:(y.natAbs:Int) = -y:=by omega
   have aB:(x.natAbs:Int)=x:=by omega
   rw[aB,aA,Int.mul_neg,Int.mul_comm] at aC;simp only[sg,hx,hn,decide_true,decide_false,if_true,if_false,Bool.false_eq_true,Int.mul_neg,show (false == true)=false from rfl,Bool.not_false];omega
  ·have aA:(y.natAbs:Int)=y:=by omega
   have aB:(x.natAbs:Int)=x:=by omega
   rw[aB,aA,Int.mul_comm] at aC;simp only[sg,hx,hn,decide_false,beq_self_eq_true,Bool.not_true,Bool.false_eq_true,if_false];omega
 have hs:sg (decide (x<0)) r<(y.natAbs:Int):=by unfold sg;split <;> omega
 rcases Int.lt_or_gt_of_ne hy with hn|hp
 ·have:=(Int.ediv_emod_unique' (a:=x) (b:=y) (q:=sg (!(decide (x<0) == decide (y<0))) q) (r:=sg (decide (x<0)) r) hn).2 ⟨by omega,by omega,by omega⟩;exact⟨this.1.symm,this.2.symm⟩
 ·have:=(Int.ediv_emod_unique (a:=x) (b:=y) (q:=sg (!(decide (x<0) == decide (y<0))) q) (r:=sg (decide (x<0)) r) hp).2 ⟨by omega,by omega,by omega⟩;exact⟨this.1.symm,this.2.symm⟩
theorem Qcm {fn:Func} {R:Ending->World->Prop} {a:Act} {w:World} {B C:Nat} {e y z:Int} (hr:fn.results = #[.cell 4 33,.cell 5 33,.tmp 6]) (ht:a.tmps.getD 4 undef=.pointer (some ⟨B,0,none⟩)) (ht':a.tmps.getD 5 undef=.pointer (some ⟨C,0,none⟩)) (h6:a.tmps.getD 6 undef=.int .i64 e) (hd:a.defers=[])
  (h:Vx w B y) (h':Vx w C z) (hR:∀ u v,It w u y->It w v z->R (.returned (.tuple #[u,v,.int .i64 e])) w):bodyPost Tryz.prog fn R .ret a w:=by
 obtain⟨s,x,n,c,h1,h2,h3⟩:=h;obtain⟨s',x',n',c',k1,k2,k3⟩:=h';refine bodyPost_ret ?_ hd (hR _ _ h2 k2);have hl:=QbP w B 0 _ _ h1.c0 h1.c1;have kl:=QbP w C 0 _ _ k1.c0 k1.c1;have aC:a.tmps[4]?.getD undef=.pointer (some ⟨B,0,none⟩):=by simpa using ht
 have aB:a.tmps[5]?.getD undef=.pointer (some ⟨C,0,none⟩):=by simpa using ht'
 have aA:a.tmps[6]?.getD undef=.int .i64 e:=by simpa using h6
 have hA:∀ B,(asAddr (.pointer (some ⟨B,0,none⟩))).run Tryz.prog w=.ok ⟨B,0,none⟩ w:=fun _=>rfl;simp[results,hr,aC,aB,aA,hl,kl,hA]
theorem QdI (w:World) (s1 s2:Bool) (a1 a2:Option Addr) (n1 n2 c1 c2 T:Nat) :
  ∃ W,W=(((w.alloc (.cells #[.bool s1,.slice a1 n1 c1] T)).alloc (.cells #[.bool s2,.slice a2 n2 c2] T)).alloc (.cells #[.bool false,.slice none 0 0] T)).alloc (.cells #[.bool false,.slice none 0 0] T)/\Below w.heap.size w W /\
   Bx W w.heap.size (.bool s1) (.slice a1 n1 c1)/\Bx W (w.heap.size+1) (.bool s2) (.slice a2 n2 c2)/\Bx W (w.heap.size+2) (.bool false) (.slice none 0 0)/\Bx W (w.heap.size+3) (.bool false) (.slice none 0 0) /\
   NoW W w.heap.size/\NoW W (w.heap.size+1)/\NoW W (w.heap.size+2)/\NoW W (w.heap.size+3)/\W.heap.size=w.heap.size+4:=by
 obtain⟨W,hW,b,d1,d2,d3,aC,aB,aA,hs⟩:=Qbn w s1 s2 a1 a2 n1 n2 c1 c2 T;rw[<- hW];have d4:=Bx.new W (.bool false) (.slice none 0 0) T;have n4:=NoW.new W #[.bool false,.slice none 0 0] T rfl;rw[hs] at d4 n4;exact⟨_,rfl,b.alloc b.size _,d1.up (Qc _ _),d2.up (Qc _ _),d3.up (Qc _ _),d4,aC.alloc d1.lt _,aB.alloc d2.lt _,aA.alloc d3.lt _,n4,by rw[Zk2,hs]⟩
theorem Qby (va vb:Value) (x y:Int) (w:World) (hx:It w va x) (hy:It w vb y) (hy0:y≠0) (hsx:sz x<=1099511627776) (hsy:sz y<=1099511627776) :
  Calls Tryz.prog 171 #[va,vb] w fun e w'=>∃ vq vr,e=.returned (.tuple #[vq,vr,.int .i64 0])/\It w' vq (x/y)/\It w' vr (x%y)/\Below w.heap.size w w':=by
 obtain⟨a,ca,f,rfl,h1,h2,h3,h4,h5⟩:=hx.parts;obtain⟨b,cb,g,rfl,k1,k2,k3,k4,k5⟩:=hy.parts;have H5:=Qh h5;have K5:=Qh k5;clear h5 k5;have hz:((sz y:Int) == 0)=false:=by rw[beq_eq_false_iff_ne];have:=mt QbF.1 hy0;omega
 obtain⟨W,hW,hw,d1,d2,d3,d4,n1,n2,n3,n4,-⟩:=QdI w (decide (x<0)) (decide (y<0)) a b (sz x) (sz y) ca cb 33;replace hx:=hx.up hw;replace hy:=hy.up hw;have aQ:Nt W (.slice a (sz x) ca) x.natAbs:=⟨a,sz x,ca,f,rfl,h1,h2.up hw,h3,h4,H5.out⟩;have aP:Nt W (.slice b (sz y) cb) y.natAbs:=⟨b,sz y,cb,g,rfl,k1,k2.up hw,k3,k4,K5.out⟩;have p1:=d1.c1;have p2:=d2.c1;clear h1 h2 h3 h4 k1 k2 k3 k4 H5 K5;go_enter Tryz.func171,Tryz.ntmps171
 go_wp2_with fail;rw[<- hW];clear hW;have vX:=Vx.mk d1 hx n1;have vY:=Vx.mk d2 hy n2;have vQ:=Vx.mk d3 (QaY W) n3;have vR:=Vx.mk d4 (QaY W) n4;have p0:=d1.c0;have q0:=d2.c0;have q1:=d2.c1;clear d1 d2 d3 d4 n1 n2 n3 n4;refine(Qgm _ _ x.natAbs y.natAbs W aQ aP (by omega) hsx hsy).mono ?_;rintro e w1 ⟨vq,vr,rfl,hq,hr,aS⟩;have zW:=vR.lt;have z1:=aS.size;have aM:Qq (x.natAbs/y.natAbs)<=4611686018427387904:=Qt (Qa6 (Nat.div_le_self _ _)) (Qt hsx (by decide));have aL:Qq (x.natAbs%y.natAbs)<=4611686018427387904:=Qt (Qa6 (Nat.mod_le _ _)) (Qt hsx (by decide));clear p1 p2;go_upto_region 4 with fail
 go_cut [9,10] (fun s9 s10 wc=>∃ B9 B10:Nat,s9=.pointer (some ⟨B9,0,none⟩)/\s10=.pointer (some ⟨B10,0,none⟩)/\B9≠B10/\w.heap.size+4<=B9/\w.heap.size+4<=B10/\Below w.heap.size w wc /\
  Vx wc (w.heap.size+1) y/\Vx wc (w.heap.size+2) 0/\Vx wc (w.heap.size+3) 0/\Vx wc B9 (sg (!(decide (x<0) == decide (y<0))) (x.natAbs/y.natAbs))/\Vx wc B10 (sg (decide (x<0)) (x.natAbs%y.natAbs)))
 case first=>
  go_region_held3 (fun w'=>w'.cell? ⟨w.heap.size,0,none⟩=some (.bool (decide (x<0)))/\w'.cell? ⟨w.heap.size+1,0,none⟩=some (.bool (decide (y<0))))
  ((repeat' (first|with_reducible assumption|(with_reducible refine And.intro ?_ ?_)|(with_reducible refine Qa7 ?_)|(with_reducible refine QbE ?_ _)|(with_reducible refine Qdg ?_ (by omega))|(with_reducible refine QaD (by with_reducible assumption) ?_))))
  (first
   | (go_at_call 116;with_reducible (refine(Qf6 _ vq (x.natAbs/y.natAbs) _ (by exact QbY) (by exact aM)).mono ?_);rintro e w2 ⟨q,rfl,bJ,bB⟩;obtain⟨cG,b7⟩:=QcT bB;have z2:=bB.size;(try simp only[Zk2,World.size_drew,World.size_setCell] at z2);(try have y2:=Nat.lt_of_succ_le z2);(try have x2:=Nat.lt_of_succ_le (Nat.le_of_succ_le z2));(try have aC:=Nat.lt_of_lt_of_le y3 z2);(try have aG:=Nat.lt_of_lt_of_le x3 z2);(try have aC:=Nat.lt_of_lt_of_le y3 (Nat.le_of_succ_le z2));(try have aG:=Nat.lt_of_lt_of_le x3 (Nat.le_of_succ_le z2));(try have aC:=Nat.lt_of_lt_of_le y3 (Nat.le_of_succ_le (Nat.le_of_succ_le z2)));(try have aG:=Nat.lt_of_lt_of_le x3 (Nat.le_of_succ_le (Nat.le_of_succ_le z2)));obtain⟨sq,aq,nq,cq,rfl⟩:=bJ.shape)
   | (go_at_call 116;with_reducible (refine(Qf6 _ vr (x.natAbs%y.natAbs) _ (by exact QbY) (by exact aL)).mono ?_);rintro e w3 ⟨r,rfl,bI,bA⟩;obtain⟨cF,b6⟩:=QcT bA;have z3:=bA.size;(try simp only[Zk2,World.size_drew,World.size_setCell] at z3);(try have y3:=Nat.lt_of_succ_le z3);(try have x3:=Nat.lt_of_succ_le (Nat.le_of_succ_le z3));(try have aD:=Nat.lt_of_lt_of_le y2 z3);(try have aH:=Nat.lt_of_lt_of_le x2 z3);(try have aD:=Nat.lt_of_lt_of_le y2 (Nat.le_of_succ_le z3));(try have aH:=Nat.lt_of_lt_of_le x2 (Nat.le_of_succ_le z3));(try have aD:=Nat.lt_of_lt_of_le y2 (Nat.le_of_succ_le (Nat.le_of_succ_le z3)));(try have aH:=Nat.lt_of_lt_of_le x2 (Nat.le_of_succ_le (Nat.le_of_succ_le z3)));obtain⟨sr,ar,nr,cr,rfl⟩:=bI.shape))
  all_goals go_wp2_with fail
  all_goals (go_meet;case rel=>(refine⟨_,_,rfl,rfl,by omega,by omega,by omega,?_,?_,?_,?_,?_,?_⟩ <;> exact QbY))
 case rest=>
  obtain⟨B9,B10,rfl,rfl,bZ,b0,bM,bP,cY,cQ,cR,c9,aI⟩:=hcut
  have aO:sz (sg (decide (x<0)) (x.natAbs%y.natAbs))<=2199023255552:=by
   rw[QiE];exact Qt (Qa6 (Nat.mod_le _ _)) (Qt hsx (by decide))
  have aW:sz (sg (!(decide (x<0) == decide (y<0))) (x.natAbs/y.natAbs))<=2199023255552:=by
   rw[QiE];exact Qt (Qa6 (Nat.div_le_self _ _)) (Qt hsx (by decide))
  have aK:sz (y.natAbs:Int)<=2199023255552:=Qt (Nat.le_of_eq (QeS y)) (Qt hsy (by decide));obtain⟨s10,bS,bC,bD,e0,e1,e2,e3,aJ⟩:=aI.cells;have es:=aJ.sgn;by_cases hneg:sg (decide (x<0)) (x.natAbs%y.natAbs)<0
  ·obtain⟨v1,v2⟩:=QdH x y hy0 hneg;replace v1:=Qh v1;replace v2:=Qh v2;have aT:s10=true:=by rw[es];simpa using hneg
   subst aT;clear es hneg;obtain⟨sy,ay,ny,ky,y0,y1,y2,y3,iy⟩:=cY.cells;have bN:=c9.lt;have aR:=aI.lt;clear vX vY vQ vR p0 q0 q1 hq hr aS zW z1 hx hy aQ aP hw aM aL;go_upto_region 6 with fail;go_cut [] (fun wd=>Below w.heap.size w wd/\Vx wd (w.heap.size+1) y/\Vx wd (w.heap.size+2) 0/\Vx wd (w.heap.size+3) 0/\Vx wd B9 (sg (!(decide (x<0) == decide (y<0))) (x.natAbs/y.natAbs))/\Vx wd B10 (x%y))
   case first=>
    go_region_with
    (first
     | (go_at_call 118;with_reducible (refine(QdQ _ y _ (by exact QbY) (by exact Qt hsy (by decide))).mono ?_);rintro e w4 ⟨q,rfl,bL,a6⟩;obtain⟨cE,b5⟩:=QcT a6;have z4:=a6.size;(try simp only[Zk2,World.size_drew,World.size_setCell] at z4);(try have y4:=Nat.lt_of_succ_le z4);(try have x4:=Nat.lt_of_succ_le (Nat.le_of_succ_le z4));have bY:w4.cell? ⟨B10,0,none⟩=some (.bool true):=(by(repeat' (first|with_reducible assumption|(with_reducible refine And.intro ?_ ?_)|(with_reducible refine Qa7 ?_)|(with_reducible refine QbE ?_ _)|(with_reducible refine Qdg ?_ (by omega))|(with_reducible refine QaD (by with_reducible assumption) ?_))));have bX:w4.cell? ⟨B10,1,none⟩=some (.slice bS bC bD):=(by(repeat' (first|with_reducible assumption|(with_reducible refine And.intro ?_ ?_)|(with_reducible refine Qa7 ?_)|(with_reducible refine QbE ?_ _)|(with_reducible refine Qdg ?_ (by omega))|(with_reducible refine QaD (by with_reducible assumption) ?_))));obtain⟨s4,a4,n4,k4,rfl⟩:=bL.shape)
     | (go_at_call 165;with_reducible (refine(QcA _ _ (sg (decide (x<0)) (x.natAbs%y.natAbs)) (y.natAbs:Int) _ (by exact QbY) (by exact QbY) (by exact aO) (by exact aK)).mono ?_);rintro e w5 ⟨r,rfl,aV,a0⟩;rw[v2.out] at aV;obtain⟨cD,b4⟩:=QcT a0;have z5:=a0.size;(try simp only[Zk2,World.size_drew,World.size_setCell] at z5);(try have y5:=Nat.lt_of_succ_le z5);(try have x5:=Nat.lt_of_succ_le (Nat.le_of_succ_le z5));(try have aB:=Nat.lt_of_lt_of_le y4 z5);(try have aF:=Nat.lt_of_lt_of_le x4 z5);(try have aB:=Nat.lt_of_lt_of_le y4 (Nat.le_of_succ_le z5));(try have aF:=Nat.lt_of_lt_of_le x4 (Nat.le_of_succ_le z5));(try have aB:=Nat.lt_of_lt_of_le y4 (Nat.le_of_succ_le (Nat.le_of_succ_le z5)));(try have aF:=Nat.lt_of_lt_of_le x4 (Nat.le_of_succ_le (Nat.le_of_succ_le z5)));obtain⟨sj,aj,nj,kj,bH,bG,bF,bE⟩:=Va.cells (show Va w5 B10 by exact QbY);obtain⟨s5,a5,n5,k5,rfl⟩:=aV.shape))
    all_goals (go_wp2_with fail;go_meet;case rel=>(refine⟨?_,?_,?_,?_,?_,?_⟩ <;> exact QbY))
   case rest=>
    obtain⟨bO,dY,dQ,dR,d9,bR⟩:=hcut;clear c9 aI cY cQ cR bP bN aR e0 e1 e2 e3 aJ y0 y1 y2 y3 iy aO aK v2;obtain⟨s9,a9,n9,k9,e0,e1,e2,e3,i9⟩:=d9.cells;obtain⟨sy,ay,ny,ky,y0,y1,y2,y3,iy⟩:=dY.cells;go_upto_region 7 with fail;go_cut [] (fun we=>Below w.heap.size w we/\Vx we (w.heap.size+1) y/\Vx we (w.heap.size+2) 0/\Vx we (w.heap.size+3) 0/\Vx we B9 (x/y)/\Vx we B10 (x%y))
    case first=>
     go_region_with
     (first
     | (go_at_call 58;with_reducible (refine(Qa9 _ y _ (by exact QbY)).mono ?_);rintro e w6 ⟨rfl,aZ⟩;obtain⟨cC,b3⟩:=QcT aZ;have z6:=aZ.size;(try simp only[Zk2,World.size_drew,World.size_setCell] at z6);(try have y6:=Nat.lt_of_succ_le z6);(try have x6:=Nat.lt_of_succ_le (Nat.le_of_succ_le z6));have bW:w6.cell? ⟨B9,0,none⟩=some (.bool s9):=(by(repeat' (first|with_reducible assumption|(with_reducible refine And.intro ?_ ?_)|(with_reducible refine Qa7 ?_)|(with_reducible refine QbE ?_ _)|(with_reducible refine Qdg ?_ (by omega))|(with_reducible refine QaD (by with_reducible assumption) ?_))));have bV:w6.cell? ⟨B9,1,none⟩=some (.slice a9 n9 k9):=(by(repeat' (first|with_reducible assumption|(with_reducible refine And.intro ?_ ?_)|(with_reducible refine Qa7 ?_)|(with_reducible refine QbE ?_ _)|(with_reducible refine Qdg ?_ (by omega))|(with_reducible refine QaD (by with_reducible assumption) ?_)))))
     | (go_at_call 119;with_reducible (refine(Qbf (QaW y 0) _ (by exact(Qhv y 0).1) (by exact(Qhv y 0).2)).mono ?_);rintro e w7 ⟨q,rfl,bK,aY⟩;obtain⟨b9,b2⟩:=QcT aY;have z7:=aY.size;(try simp only[Zk2,World.size_drew,World.size_setCell] at z7);(try have y7:=Nat.lt_of_succ_le z7);(try have x7:=Nat.lt_of_succ_le (Nat.le_of_succ_le z7));have bU:w7.cell? ⟨B9,0,none⟩=some (.bool s9):=(by(repeat' (first|with_reducible assumption|(with_reducible refine And.intro ?_ ?_)|(with_reducible refine Qa7 ?_)|(with_reducible refine QbE ?_ _)|(with_reducible refine Qdg ?_ (by omega))|(with_reducible refine QaD (by with_reducible assumption) ?_))));have bT:w7.cell? ⟨B9,1,none⟩=some (.slice a9 n9 k9):=(by(repeat' (first|with_reducible assumption|(with_reducible refine And.intro ?_ ?_)|(with_reducible refine Qa7 ?_)|(with_reducible refine QbE ?_ _)|(with_reducible refine Qdg ?_ (by omega))|(with_reducible refine QaD (by with_reducible assumption) ?_))));obtain⟨s7,a7,n7,k7,rfl⟩:=bK.shape)
     | (go_at_call 135;with_reducible (refine(Qe6 _ _ (sg (!(decide (x<0) == decide (y<0))) (x.natAbs/y.natAbs)) (QaW y 0) _ (by exact QbY) (by exact QbY) (by exact aW) (by exact Qj1 y 0)).mono ?_);rintro e w8 ⟨r,rfl,aU,aX⟩;rw[v1.out] at aU;obtain⟨b8,b1⟩:=QcT aX;have z8:=aX.size;(try simp only[Zk2,World.size_drew,World.size_setCell] at z8);(try have y8:=Nat.lt_of_succ_le z8);(try have x8:=Nat.lt_of_succ_le (Nat.le_of_succ_le z8));(try have aA:=Nat.lt_of_lt_of_le y7 z8);(try have aE:=Nat.lt_of_lt_of_le x7 z8);(try have aA:=Nat.lt_of_lt_of_le y7 (Nat.le_of_succ_le z8));(try have aE:=Nat.lt_of_lt_of_le x7 (Nat.le_of_succ_le z8));(try have aA:=Nat.lt_of_lt_of_le y7 (Nat.le_of_succ_le (Nat.le_of_succ_le z8)));(try have aE:=Nat.lt_of_lt_of_le x7 (Nat.le_of_succ_le (Nat.le_of_succ_le z8)));obtain⟨sj,aj,nj,kj,bH,bG,bF,bE⟩:=Va.cells (show Va w8 B9 by exact QbY);obtain⟨s8,a8,n8,k8,rfl⟩:=aU.shape))
     all_goals (go_wp2_with fail;go_meet;case rel=>(refine⟨?_,?_,?_,?_,?_,?_⟩ <;> exact QbY))
    case rest=>
     obtain⟨cH,eY,eQ,eR,e9,bQ⟩:=hcut;clear d9 bR dY dQ dR bO e0 e1 e2 e3 i9 y0 y1 y2 y3 iy;obtain⟨s1,a1,n1,k1,e0,e1,e2,e3,i1⟩:=e9.cells;obtain⟨s2,a2,n2,k2,f0,f1,f2,f3,i2⟩:=bQ.cells;obtain⟨s3,a3,n3,k3,g0,g1,g2,g3,i3⟩:=eQ.cells;obtain⟨s4,a4,n4,k4,l0,l1,l2,l3,i4⟩:=eR.cells;go_upto_region 8 with fail;go_region
     all_goals go_wp2_with fail
     all_goals (refine Qcm (B:=w.heap.size+1+1) (C:=w.heap.size+1+1+1) (y:=x/y) (z:=x%y) rfl rfl rfl rfl rfl ?_ ?_ (fun u v hu hv=>⟨u,v,rfl,hu,hv,?_⟩))
     all_goals exact QbY
  ·obtain⟨v1,v2⟩:=Qdn x y hy0 hneg;rw[v1] at c9;have aT:s10=false:=by rw[es];simpa using hneg
   rw[v2] at aI aJ;subst aT;clear es hneg v1 v2 aW aO aK;clear vX vY vQ vR p0 q0 q1 hq hr aS zW z1 hx hy aQ aP hw aM aL;obtain⟨s1,a1,n1,k1,f0,f1,f2,f3,i1⟩:=c9.cells;obtain⟨s3,a3,n3,k3,g0,g1,g2,g3,i3⟩:=cQ.cells;obtain⟨s4,a4,n4,k4,l0,l1,l2,l3,i4⟩:=cR.cells;go_upto_region 8 with fail;go_region
   all_goals go_wp2_with fail
   all_goals (refine Qcm (B:=w.heap.size+1+1) (C:=w.heap.size+1+1+1) (y:=x/y) (z:=x%y) rfl rfl rfl rfl rfl ?_ ?_ (fun u v hu hv=>⟨u,v,rfl,hu,hv,?_⟩))
   all_goals exact QbY
theorem Qch (w:World) {va vb:Value} {x y:Int} (hx:It w va x) (hy:It w vb y) :
  ∃ W s1 a1 n1 c1 s2 a2 n2 c2,va=.agg #[.bool s1,.slice a1 n1 c1]/\vb=.agg #[.bool s2,.slice a2 n2 c2]/\W=((w.alloc (Qlr 33 s1 a1 n1 c1)).alloc (Qlr 33 s2 a2 n2 c2)).alloc (Qlr 33 false none 0 0) /\
   Below w.heap.size w W/\Vx W w.heap.size x/\Vx W (w.heap.size+1) y/\Vx W (w.heap.size+1+1) 0/\W.heap.size=w.heap.size+3 /\
   W.cell? ⟨w.heap.size,0,none⟩=some (.bool s1)/\W.cell? ⟨w.heap.size,1,none⟩=some (.slice a1 n1 c1)/\W.cell? ⟨w.heap.size+1,0,none⟩=some (.bool s2)/\W.cell? ⟨w.heap.size+1,1,none⟩=some (.slice a2 n2 c2) /\
   It W va x/\It W vb y:=by
 obtain⟨s1,a1,n1,c1,rfl⟩:=hx.shape;obtain⟨s2,a2,n2,c2,rfl⟩:=hy.shape;obtain⟨W,hW,b,d1,d2,d3,k1,k2,k3,hs⟩:=Qbn w s1 s2 a1 a2 n1 n2 c1 c2 33;exact⟨W,s1,a1,n1,c1,s2,a2,n2,c2,rfl,rfl,hW,b,⟨_,_,_,_,d1,hx.up b,k1⟩,⟨_,_,_,_,d2,hy.up b,k2⟩,⟨_,_,_,_,d3,QaY _,k3⟩,hs,d1.c0,d1.c1,d2.c0,d2.c1,hx.up b,hy.up b⟩
theorem QjL (va vb:Value) (x y:Int) (w:World) (hx:It w va x) (hy:It w vb y) (hy0:y≠0) (hsx:sz x<=1099511627776) (hsy:sz y<=1099511627776) :
  Calls Tryz.prog 164 #[va,vb] w fun e w'=>∃ v,e=.returned v/\It w' v (x%y)/\Below w.heap.size w w':=by
 obtain⟨W,s1,a1,n1,c1,s2,a2,n2,c2,rfl,rfl,hW,b,vX,vY,vR,hs,p0,p1,q0,q1,aC,aB⟩:=Qch w hx hy;clear hx hy;go_enter Tryz.func164,Tryz.ntmps164
 go_wp2_with fail;rw[<- hW];clear hW;refine(Qby _ _ x y W aC aB hy0 hsx hsy).mono ?_;rintro e w1 ⟨vq,vr,rfl,hq,hr,aA⟩;have z1:=aA.size;rw[hs] at z1;obtain⟨sq,aq,nq,cq,rfl⟩:=hq.shape;obtain⟨sr,ar,nr,cr,rfl⟩:=hr.shape;replace vR:=vR.up aA;have aD:=Bl.up b aA;obtain⟨s3,a3,n3,k3,g0,g1,g2,g3,-⟩:=vR.cells;have t3:=vR.lt;have t4:w.heap.size+1+1<=w1.heap.size:=Nat.le_of_lt t3;have t5:w.heap.size+1<w1.heap.size:=t4;clear p0 p1 q0 q1 vX vY hq;go_wp2_with fail;refine Qbl (B:=w.heap.size+1+1) (z:=x%y) rfl rfl rfl ?_ (fun v hv=>⟨v,rfl,hv,?_⟩)
 all_goals exact QbY
theorem Vx.szs {w:World} {B:Nat} {z:Int} (h:Vx w B z):∃ a c,w.cell? ⟨B,0,none⟩=some (.bool (decide (z<0)))/\w.cell? ⟨B,1,none⟩=some (.slice a (sz z) c)/\w.frozen? ⟨B,0,none⟩=false/\w.frozen? ⟨B,1,none⟩=false/\It w (.agg #[.bool (decide (z<0)),.slice a (sz z) c]) z:=by
 obtain⟨s,a,n,c,h1,h2,h3⟩:=h;obtain⟨a',c',f,e,-⟩:=h2.parts;simp at e
 obtain⟨rfl,rfl,rfl,rfl⟩:=e;exact⟨a,c,h1.c0,h1.c1,h1.f0,h1.f1,h2⟩
theorem Y2 {x y:Int} (h:x.natAbs<=y.natAbs):sz x<=sz y:=Qa6 h
theorem QfX (p q:Int) (hq:q≠0):Int.gcd q (p%q)=Int.gcd p q:=by
 have h:=Int.emod_add_mul_ediv p q;conv=>rhs;rw[<- h,Int.gcd_comm]
 rw[Int.gcd_add_mul_left_right]
theorem Qeh (p q:Int) (hq:q≠0):(p%q).natAbs<q.natAbs:=by
 have h1:=Int.emod_nonneg p hq;have h2:=Int.emod_lt p hq;omega
theorem QdZ (va vb:Value) (x y:Int) (w:World) (hx:It w va x) (hy:It w vb y) (hsx:sz x<=1099511627776) (hsy:sz y<=1099511627776) :
  Calls Tryz.prog 111 #[va,vb] w fun e w'=>∃ v,e=.returned v/\It w' v (Int.gcd x y)/\Below w.heap.size w w':=by
 obtain⟨W,s1,a1,n1,c1,s2,a2,n2,c2,rfl,rfl,hW,b,vX,vY,vR,hs,p0,p1,q0,q1,aF,aE⟩:=Qch w hx hy;clear hx hy p0 p1 q0 q1 aF aE;go_enter Tryz.func111,Tryz.ntmps111
 go_wp2_with fail;rw[<- hW];clear hW;go_loopg [] (y.natAbs) (fun k wr=>∃ p q:Int,k=q.natAbs/\Below w.heap.size w wr/\Vx wr w.heap.size p/\Vx wr (w.heap.size+1) q/\Vx wr (w.heap.size+1+1) 0/\Int.gcd p q=Int.gcd x y/\sz p<=1099511627776/\sz q<=1099511627776)
 case atStart=>exact⟨x,y,rfl,b,vX,vY,vR,rfl,hsx,hsy⟩
 case round=>
  obtain⟨p,q,rfl,hb,vp,vq,vr,hg,aH,aA⟩:=hrel;have HG:=Qh hg;clear hg vX vY vR b hs;obtain⟨ap,cp,p0,p1,p2,p3,ip⟩:=vp.szs;obtain⟨aq,cq,q0,q1,q2,q3,iq⟩:=vq.szs;by_cases hq0:q=0
  ·subst hq0;rw[show sz 0=0 from rfl] at *;obtain⟨ar,cr,r0,r1,r2,r3,ir⟩:=vr.szs;clear q2 q3 iq vq aA ir;have z4:=vp.lt;have z5:=vr.lt;go_wp2_with fail;refine(QdQ _ p _ ip (by omega)).mono ?_;rintro e w1 ⟨v,rfl,hv,aD⟩;obtain⟨s',a',n',aJ,rfl⟩:=hv.shape;have aB:=vr.up aD;have aI:=Bl.up hb aD;obtain⟨ar,cr,r0,r1,r2,r3,ir⟩:=aB.szs;have e1:p.natAbs=Int.gcd x y:=by rw[<- HG.out,Int.gcd_zero]
   rw[e1] at hv;clear e1;go_wp2_with fail;refine Qbl (B:=w.heap.size+1+1) (z:=Int.gcd x y) rfl rfl rfl ?_ (fun v hv=>⟨v,rfl,hv,?_⟩)
   ·exact Vx.put aB.va hv
   ·exact Bl.st aI (by omega)
  ·have hz:(0:Int)<(sz q:Int):=by have:=mt QbF.1 hq0;omega
   have z4:=vr.lt;go_upto_region 2 with fail
   go_region_with
    (first
     | (go_at_call 164;with_reducible (refine(QjL _ _ p q _ (by exact QbY) (by exact QbY) (by exact hq0) (by exact aH) (by exact aA)).mono ?_);rintro e w4 ⟨r,rfl,aG,aC⟩;obtain⟨aO,aM⟩:=QcT aC;have z4:=aC.size;(try simp only[Zk2,World.size_drew,World.size_setCell] at z4);(try have y4:=Nat.lt_of_succ_le z4);(try have x4:=Nat.lt_of_succ_le (Nat.le_of_succ_le z4));have aL:w4.cell? ⟨w.heap.size+1,0,none⟩=some (.bool (decide (q<0))):=(by(repeat' (first|with_reducible assumption|(with_reducible refine And.intro ?_ ?_)|(with_reducible refine Qa7 ?_)|(with_reducible refine QbE ?_ _)|(with_reducible refine Qdg ?_ (by omega))|(with_reducible refine QaD (by with_reducible assumption) ?_))));have aK:w4.cell? ⟨w.heap.size+1,1,none⟩=some (.slice aq (sz q) cq):=(by(repeat' (first|with_reducible assumption|(with_reducible refine And.intro ?_ ?_)|(with_reducible refine Qa7 ?_)|(with_reducible refine QbE ?_ _)|(with_reducible refine Qdg ?_ (by omega))|(with_reducible refine QaD (by with_reducible assumption) ?_))));obtain⟨sj,aj,nj,kj,j0,j1,j2,j3⟩:=Va.cells (show Va w4 w.heap.size by exact QbY);obtain⟨j4,j5⟩:=Va.free (show Va w4 (w.heap.size+1) by exact QbY);obtain⟨s4,a4,n4,k4,rfl⟩:=aG.shape))
   all_goals go_wp2_with fail
   all_goals (go_roundg (p%q).natAbs)
   all_goals first
    | exact Qeh p q hq0
    | (refine⟨q,p%q,rfl,?_,?_,?_,?_,(QfX p q hq0).trans HG.out,aA,Qt (Y2 (Nat.le_of_lt (Qeh p q hq0))) aA⟩ <;> exact QbY)
