/-
  append to a slice of the call's own whose elements were made by the call itself: what all cells of its block are.
-/
import Derived.Deep.AppendLies
import Derived.Test.YteidokhjmbihlaaGreatFD1
set_option linter.all false
namespace Go.Proofs.YteidokhjmbihlaaGreat
open Go.RowKit
theorem QaE:(Tryz.prog.info? 33).map (fun i=>(i.zero,i.size,i.bytes))=some (some (Qlv false none 0 0),2,32):=by kernel_rfl
def Ri (w:World) (a:Option Addr) (l:List Int):Prop:=
 l=[]\/∃ b off,a=some ⟨b,off,none⟩/\b<w.heap.size/\∀ i,i<l.length->∃ s c n k,w.cell? ⟨b,off+i*2,none⟩=some (.bool s)/\w.cell? ⟨b,off+i*2+1,none⟩=some (.slice c n k)/\It w (Qlv s c n k) (l.getD i 0)
def Rw (w:World) (v:Value) (l:List Int):Prop:=∃ a cap,v=.slice a l.length cap/\l.length<=cap/\Ri w a l
theorem Ri.up {w w':World} {a:Option Addr} {l:List Int} (h:Ri w a l) (hb:Below w.heap.size w w'):Ri w' a l:=by
 rcases h with h|⟨b,off,h1,h2,h3⟩
 ·exact .inl h
 ·refine .inr ⟨b,off,h1,Nat.lt_of_lt_of_le h2 hb.size,fun i hi=>?_⟩;obtain⟨s,c,n,k,c0,c1,c2⟩:=h3 i hi;exact⟨s,c,n,k,(hb.cell (p:=⟨b,_,none⟩) h2).trans c0,(hb.cell (p:=⟨b,_,none⟩) h2).trans c1,c2.up hb⟩
theorem Rw.up {w w':World} {v:Value} {l:List Int} (h:Rw w v l) (hb:Below w.heap.size w w'):Rw w' v l:=by
 obtain⟨a,aA,h1,h2,h3⟩:=h;exact⟨a,aA,h1,h2,h3.up hb⟩
theorem Rw.alloc {w:World} {v:Value} {l:List Int} (h:Rw w v l) (o:Obj):Rw (w.alloc o) v l:=h.up (Qc _ _)
theorem Rw.drew {w:World} {v:Value} {l:List Int} (h:Rw w v l):Rw w.drew v l:=h
theorem Ri.at {w:World} {a:Option Addr} {l:List Int} (h:Ri w a l) {i:Nat} (hi:i<l.length) :
  ∃ b off,a=some ⟨b,off,none⟩/\b<w.heap.size/\∀ i,i<l.length->∃ s c n k,w.cell? ⟨b,off+i*2,none⟩=some (.bool s)/\w.cell? ⟨b,off+i*2+1,none⟩=some (.slice c n k)/\It w (Qlv s c n k) (l.getD i 0):=by
 rcases h with rfl|h
 ·simp at hi
 ·exact h
def Ow (w:World) (g:Nat) (l:List Int):Prop:=
 ∃ cur,w.heap[g]? = some (.cells cur 33 (0,0))/\cur.size=l.length*2/\NoW w g/\∀ i,i<l.length->∃ s c n k,cur[i*2]? = some (.bool s)/\cur[i*2+1]? = some (.slice c n k)/\It w (Qlv s c n k) (l.getD i 0)
theorem Ow.lt {w:World} {g:Nat} {l:List Int} (h:Ow w g l):g<w.heap.size:=by
 obtain⟨aA,h1,_⟩:=h;exact(Ql h1).1
theorem Ow.cells {w:World} {g:Nat} {l:List Int} (h:Ow w g l) {i:Nat} (hi:i<l.length) :
  ∃ s c n k,w.cell? ⟨g,i*2,none⟩=some (.bool s)/\w.cell? ⟨g,i*2+1,none⟩=some (.slice c n k)/\It w (Qlv s c n k) (l.getD i 0):=by
 obtain⟨aA,h1,h2,h3,h4⟩:=h;obtain⟨s,c,n,k,c0,c1,c2⟩:=h4 i hi;exact⟨s,c,n,k,by simp[World.cell?,h1,c0],by simp[World.cell?,h1,c1],c2⟩
theorem Ow.free {w:World} {g:Nat} {l:List Int} (h:Ow w g l) (i:Nat):w.frozen? ⟨g,i,none⟩=false:=by
 obtain⟨aA,h1,_⟩:=h;simp[World.frozen?,h1]
theorem Ow.row {w:World} {g:Nat} {l:List Int} (h:Ow w g l) {cap:Nat} (hc:l.length<=cap):Rw w (.slice (some ⟨g,0,none⟩) l.length cap) l:=by
 refine⟨_,_,rfl,hc,.inr ⟨g,0,rfl,h.lt,fun i hi=>?_⟩⟩;obtain⟨s,c,n,k,c0,c1,c2⟩:=h.cells hi;exact⟨s,c,n,k,by rw[Nat.zero_add];exact c0,by rw[Nat.zero_add];exact c1,c2⟩
theorem Ow.up {w w':World} {g:Nat} {l:List Int} (h:Ow w g l) (hb:Below w.heap.size w w'):Ow w' g l:=by
 have hl:=h.lt;obtain⟨aA,h1,h2,h3,h4⟩:=h;refine⟨aA,(hb.block g hl).trans h1,h2,h3.up hl hb,fun i hi=>?_⟩;obtain⟨s,c,n,k,c0,c1,c2⟩:=h4 i hi;exact⟨s,c,n,k,c0,c1,c2.up hb⟩
theorem Ow.alloc {w:World} {g:Nat} {l:List Int} (h:Ow w g l) (o:Obj):Ow (w.alloc o) g l:=h.up (Qc _ _)
theorem Ow.drew {w:World} {g:Nat} {l:List Int} (h:Ow w g l):Ow w.drew g l:=h
theorem Ow.set {w:World} {g:Nat} {l:List Int} (h:Ow w g l) {i:Nat} (hi:i<l.length) {s:Bool} {a:Option Addr} {n c:Nat} {z:Int} (hv:It w (Qlv s a n c) z) :
  Ow ((w.setCell ⟨g,i*2,none⟩ (.bool s)).setCell ⟨g,i*2+1,none⟩ (.slice a n c)) g (l.set i z):=by
 obtain⟨aB,h1,h2,h3,h4⟩:=h;have aA:=(h3.set ⟨g,i*2,none⟩ (.bool s) rfl).set ⟨g,i*2+1,none⟩ (.slice a n c) rfl;have QD:∀ {v z},It w v z->It ((w.setCell ⟨g,i*2,none⟩ (.bool s)).setCell ⟨g,i*2+1,none⟩ (.slice a n c)) v z:=fun hv=>(hv.set h3 _ _).set (h3.set _ _ rfl) _ _;refine⟨(aB.setIfInBounds (i*2) (.bool s)).setIfInBounds (i*2+1) (.slice a n c),?_,by simpa using h2,aA,?_⟩
 ·simp[World.setCell,Array.getElem?_modify,h1]
 ·intro j hj;simp only[List.length_set] at hj;by_cases e:i=j
  ·subst e;refine⟨s,a,n,c,?_,?_,?_⟩
   ·rw[Array.getElem?_setIfInBounds_ne (by omega),Array.getElem?_setIfInBounds_self_of_lt (by omega)]
   ·rw[Array.getElem?_setIfInBounds_self_of_lt (by simp;omega)]
   ·simp only[Zk3,List.getElem?_set_self hi,Option.getD_some];exact QD hv
  ·obtain⟨s',c',n',k',c0,c1,c2⟩:=h4 j hj;refine⟨s',c',n',k',?_,?_,?_⟩
   ·rw[Array.getElem?_setIfInBounds_ne (by omega),Array.getElem?_setIfInBounds_ne (by omega)];exact c0
   ·rw[Array.getElem?_setIfInBounds_ne (by omega),Array.getElem?_setIfInBounds_ne (by omega)];exact c1
   ·simp only[Zk3,List.getElem?_set_ne e];exact QD (by simpa using c2)
theorem Qkp (n i:Nat):(List.replicate n (0:Int)).getD i 0=0:=by
 simp only[Zk3,List.getElem?_replicate];split <;> rfl
def Mi (w:World) (a:Option Addr) (m:List (List Int)):Prop:=
 m=[]\/∃ b off,a=some ⟨b,off,none⟩/\b<w.heap.size/\∀ i,i<m.length->∃ c k,w.cell? ⟨b,off+i,none⟩=some (.slice c (m.getD i []).length k)/\Rw w (.slice c (m.getD i []).length k) (m.getD i [])
def Mx (w:World) (v:Value) (m:List (List Int)):Prop:=∃ a cap,v=.slice a m.length cap/\m.length<=cap/\Mi w a m
theorem Mi.up {w w':World} {a:Option Addr} {m:List (List Int)} (h:Mi w a m) (hb:Below w.heap.size w w'):Mi w' a m:=by
 rcases h with h|⟨b,off,h1,h2,h3⟩
 ·exact .inl h
 ·refine .inr ⟨b,off,h1,Nat.lt_of_lt_of_le h2 hb.size,fun i hi=>?_⟩;obtain⟨c,k,c0,c1⟩:=h3 i hi;exact⟨c,k,(hb.cell (p:=⟨b,_,none⟩) h2).trans c0,c1.up hb⟩
theorem Mx.up {w w':World} {v:Value} {m:List (List Int)} (h:Mx w v m) (hb:Below w.heap.size w w'):Mx w' v m:=by
 obtain⟨a,aA,h1,h2,h3⟩:=h;exact⟨a,aA,h1,h2,h3.up hb⟩
theorem Mx.alloc {w:World} {v:Value} {m:List (List Int)} (h:Mx w v m) (o:Obj):Mx (w.alloc o) v m:=h.up (Qc _ _)
theorem Mx.drew {w:World} {v:Value} {m:List (List Int)} (h:Mx w v m):Mx w.drew v m:=h
theorem Mi.at {w:World} {a:Option Addr} {m:List (List Int)} (h:Mi w a m) {i:Nat} (hi:i<m.length) :
  ∃ b off,a=some ⟨b,off,none⟩/\b<w.heap.size/\∀ i,i<m.length->∃ c k,w.cell? ⟨b,off+i,none⟩=some (.slice c (m.getD i []).length k)/\Rw w (.slice c (m.getD i []).length k) (m.getD i []):=by
 rcases h with rfl|h
 ·simp at hi
 ·exact h
def Sl (w:World) (g:Nat):Prop:=∀ o v,w.cell? ⟨g,o,none⟩=some v->∃ a n c,v=.slice a n c
def Om (w:World) (g:Nat) (m:List (List Int)):Prop:=
 ∃ cur,w.heap[g]? = some (.cells cur 46 (0,0))/\cur.size=m.length/\∀ i,i<m.length->∃ c k,cur[i]? = some (.slice c (m.getD i []).length k)/\Rw w (.slice c (m.getD i []).length k) (m.getD i [])
theorem Om.lt {w:World} {g:Nat} {m:List (List Int)} (h:Om w g m):g<w.heap.size:=by
 obtain⟨aA,h1,_⟩:=h;exact(Ql h1).1
theorem Om.cells {w:World} {g:Nat} {m:List (List Int)} (h:Om w g m) {i:Nat} (hi:i<m.length) :
  ∃ c k,w.cell? ⟨g,i,none⟩=some (.slice c (m.getD i []).length k)/\Rw w (.slice c (m.getD i []).length k) (m.getD i []):=by
 obtain⟨aA,h1,h2,h3⟩:=h;obtain⟨c,k,c0,c1⟩:=h3 i hi;exact⟨c,k,by simp[World.cell?,h1,c0],c1⟩
theorem Om.free {w:World} {g:Nat} {m:List (List Int)} (h:Om w g m) (i:Nat):w.frozen? ⟨g,i,none⟩=false:=by
 obtain⟨aA,h1,_⟩:=h;simp[World.frozen?,h1]
theorem Om.sl {w:World} {g:Nat} {m:List (List Int)} (h:Om w g m):Sl w g:=by
 obtain⟨aA,h1,h2,h3⟩:=h;intro o v hv;simp only[World.cell?,h1] at hv
 have:o<m.length:=by
  rcases Nat.lt_or_ge o m.length with h|h
  ·exact h
  ·simp[Array.getElem?_eq_none (show aA.size<=o by omega)] at hv
 obtain⟨c,k,c0,c1⟩:=h3 o this;simp[c0] at hv
 exact⟨_,_,_,hv.symm⟩
theorem Om.up {w w':World} {g:Nat} {m:List (List Int)} (h:Om w g m) (hb:Below w.heap.size w w'):Om w' g m:=by
 have hl:=h.lt;obtain⟨aA,h1,h2,h3⟩:=h;refine⟨aA,(hb.block g hl).trans h1,h2,fun i hi=>?_⟩;obtain⟨c,k,c0,c1⟩:=h3 i hi;exact⟨c,k,c0,c1.up hb⟩
theorem Om.alloc {w:World} {g:Nat} {m:List (List Int)} (h:Om w g m) (o:Obj):Om (w.alloc o) g m:=h.up (Qc _ _)
theorem Om.drew {w:World} {g:Nat} {m:List (List Int)} (h:Om w g m):Om w.drew g m:=h
theorem Sl.noW {w:World} {g:Nat} (h:Sl w g):NoW w g:=by
 intro o x hx;obtain⟨a,n,c,e⟩:=h _ _ hx
 cases e
theorem Rw.set {w:World} {v:Value} {l:List Int} (h:Rw w v l) {g:Nat} (hg:Sl w g) (i:Nat) (u:Value):Rw (w.setCell ⟨g,i,none⟩ u) v l:=by
 obtain⟨a,aB,h1,h2,h3⟩:=h;refine⟨a,aB,h1,h2,?_⟩;rcases h3 with h|⟨b,off,e1,e2,e3⟩
 ·exact .inl h
 ·refine .inr ⟨b,off,e1,by simpa using e2,fun j hj=>?_⟩;obtain⟨s,c,n,k,c0,c1,c2⟩:=e3 j hj
  have aA:g≠b:=by
   rintro rfl;obtain⟨x,y,z,e⟩:=hg _ _ c0
   cases e
  exact⟨s,c,n,k,by rw[World.cell?_setCell_other _ _ _ _ (by simp[aA])];exact c0,by rw[World.cell?_setCell_other _ _ _ _ (by simp[aA])];exact c1,c2.set hg.noW _ _⟩
theorem Om.set {w:World} {g:Nat} {m:List (List Int)} (h:Om w g m) {i:Nat} (hi:i<m.length) {v:Value} {l:List Int} (hv:Rw w v l) :
  Om (w.setCell ⟨g,i,none⟩ v) g (m.set i l):=by
 have aA:=h.sl;obtain⟨aC,h1,h2,h3⟩:=h;refine⟨aC.setIfInBounds i v,?_,by simpa using h2,?_⟩
 ·simp[World.setCell,Array.getElem?_modify,h1]
 ·intro j hj;simp only[List.length_set] at hj;by_cases e:i=j
  ·subst e;have aB:=hv.set aA i v;obtain⟨a,aD,rfl,k1,k2⟩:=hv;refine⟨a,aD,?_,?_⟩
   ·rw[Array.getElem?_setIfInBounds_self_of_lt (by omega)];simp only[Zk3,List.getElem?_set_self hi,Option.getD_some]
   ·simp only[Zk3,List.getElem?_set_self hi,Option.getD_some];exact aB
  ·obtain⟨c,k,c0,c1⟩:=h3 j hj;refine⟨c,k,?_,?_⟩
   ·rw[Array.getElem?_setIfInBounds_ne e];simp only[Zk3,List.getElem?_set_ne e];simpa using c0
   ·simp only[Zk3,List.getElem?_set_ne e];exact(by simpa using c1:Rw w _ _).set aA _ _
structure But (g:Nat) (w w':World):Prop where
 os:w'.os=w.os
 tape:w'.tape=w.tape
 output:w'.output=w.output
 size:w.heap.size<=w'.heap.size
 block:∀ k,k<w.heap.size->k≠g->w'.heap[k]? = w.heap[k]?
theorem But.refl (g:Nat) (w:World):But g w w:=⟨rfl,rfl,rfl,Nat.le_refl _,fun _ _ _=>rfl⟩
theorem But.trans {g:Nat} {a b c:World} (h:But g a b) (k:But g b c):But g a c:=
 ⟨k.os.trans h.os,k.tape.trans h.tape,k.output.trans h.output,Qt h.size k.size,fun i hi hg=>(k.block i (Nat.lt_of_lt_of_le hi h.size) hg).trans (h.block i hi hg)⟩
theorem But.up {g:Nat} {a b c:World} (h:But g a b) (k:Below b.heap.size b c):But g a c:=
 h.trans ⟨k.os,k.tape,k.output,k.size,fun i hi _=>k.block i hi⟩
theorem But.alloc {g:Nat} {a b:World} (h:But g a b) (o:Obj):But g a (b.alloc o):=h.up (Qc _ _)
theorem But.drew {g:Nat} {a b:World} (h:But g a b):But g a b.drew:=⟨h.os,h.tape,h.output,h.size,h.block⟩
theorem But.set {g:Nat} {a b:World} (h:But g a b) (i:Nat) (v:Value):But g a (b.setCell ⟨g,i,none⟩ v):=
 h.trans ⟨rfl,rfl,rfl,by simp,fun k _ hg=>Below.heap_setCell _ _ _ _ hg⟩
theorem But.below {g:Nat} {W a b:World} (h:Below W.heap.size W a) (hg:W.heap.size<=g) (k:But g a b):Below W.heap.size W b:=
 h.trans ⟨k.os,k.tape,k.output,k.size,fun i hi=>k.block i (Nat.lt_of_lt_of_le hi h.size) (by omega)⟩
theorem But.st {g:Nat} {a b:World} (h:But g a b) {B:Nat} (hB:a.heap.size<=B) (i:Nat) (v:Value):But g a (b.setCell ⟨B,i,none⟩ v):=
 ⟨h.os,h.tape,h.output,by simpa using h.size,fun k hk hg=>(Below.heap_setCell _ _ _ _ (by show k≠B;omega)).trans (h.block k hk hg)⟩
theorem Wd.but {w w':World} {a:Option Addr} {n:Nat} {f:Nat->Nat} (h:Wd w a n f) {g:Nat} (hg:NoW w g) (hb:But g w w'):Wd w' a n f:=by
 rcases h with h|⟨b,off,h1,h2,h3⟩
 ·exact .inl h
 ·rcases Nat.eq_zero_or_pos n with hn|hn
  ·exact .inl hn
  ·have aA:b≠g:=by
    rintro rfl;exact hg _ _ (h3 0 hn)
   exact .inr ⟨b,off,h1,Nat.lt_of_lt_of_le h2 hb.size,fun i hi=>(World.cell?_of_block (w:=w) (hb.block b h2 aA)).trans (h3 i hi)⟩
theorem It.but {w w':World} {v:Value} {z:Int} (h:It w v z) {g:Nat} (hg:NoW w g) (hb:But g w w'):It w' v z:=by
 obtain⟨a,n,aA,f,h1,h2,h3,h4⟩:=h;exact⟨a,n,aA,f,h1,h2,h3.but hg hb,h4⟩
theorem Rw.but {w w':World} {v:Value} {l:List Int} (h:Rw w v l) {g:Nat} (hg:Sl w g) (hb:But g w w'):Rw w' v l:=by
 obtain⟨a,aB,h1,h2,h3⟩:=h;refine⟨a,aB,h1,h2,?_⟩;rcases h3 with h|⟨b,off,e1,e2,e3⟩
 ·exact .inl h
 ·refine .inr ⟨b,off,e1,Nat.lt_of_lt_of_le e2 hb.size,fun j hj=>?_⟩;obtain⟨s,c,n,k,c0,c1,c2⟩:=e3 j hj
  have aA:b≠g:=by
   rintro rfl;obtain⟨x,y,z,e⟩:=hg _ _ c0
   cases e
  exact⟨s,c,n,k,(World.cell?_of_block (w:=w) (hb.block b e2 aA)).trans c0,(World.cell?_of_block (w:=w) (hb.block b e2 aA)).trans c1,c2.but hg.noW hb⟩
def PutAt (g i:Nat) (v:Value) (w w':World):Prop:=∃ cur,w.heap[g]? = some (.cells cur 46 (0,0))/\w'.heap[g]? = some (.cells (cur.setIfInBounds i v) 46 (0,0))
theorem Om.block {w:World} {g:Nat} {m:List (List Int)} (h:Om w g m):∃ cur,w.heap[g]? = some (.cells cur 46 (0,0)):=h.imp fun _ h=>h.1
theorem PutAt.set {w w1:World} {g i:Nat} (h:∃ cur,w.heap[g]? = some (.cells cur 46 (0,0))) (hb:w1.heap[g]? = w.heap[g]?) (v:Value):PutAt g i v w (w1.setCell ⟨g,i,none⟩ v):=by
 obtain⟨cur,h⟩:=h;refine⟨cur,h,?_⟩;simp[World.setCell,Array.getElem?_modify,hb,h]
theorem PutAt.up {w w1 w2:World} {g i:Nat} {v:Value} (h:PutAt g i v w w1) (hb:w2.heap[g]? = w1.heap[g]?):PutAt g i v w w2:=by
 obtain⟨aA,h1,h2⟩:=h;exact⟨aA,h1,hb.trans h2⟩
theorem Om.put {w w':World} {g:Nat} {m:List (List Int)} (h:Om w g m) {i:Nat} (hi:i<m.length) {v:Value} {l:List Int} (hb:But g w w') (hp:PutAt g i v w w') (hv:Rw w' v l):Om w' g (m.set i l):=by
 have aB:=h.sl;obtain⟨aD,h1,h2,h3⟩:=h;obtain⟨aC,k1,k2⟩:=hp;rw[h1] at k1
 cases k1
 refine⟨_,k2,by simpa using h2,?_⟩;intro j hj;simp only[List.length_set] at hj;by_cases e:i=j
 ·subst e;obtain⟨a,aA,rfl,q1,q2⟩:=hv;refine⟨a,aA,?_,?_⟩
  ·rw[Array.getElem?_setIfInBounds_self_of_lt (by omega)];simp only[Zk3,List.getElem?_set_self hi,Option.getD_some]
  ·simp only[Zk3,List.getElem?_set_self hi,Option.getD_some];exact⟨a,aA,rfl,q1,q2⟩
 ·obtain⟨c,k,c0,c1⟩:=h3 j hj;refine⟨c,k,?_,?_⟩
  ·rw[Array.getElem?_setIfInBounds_ne e];simp only[Zk3,List.getElem?_set_ne e];simpa using c0
  ·simp only[Zk3,List.getElem?_set_ne e];exact(by simpa using c1:Rw w _ _).but aB hb
theorem Below.but {w w':World} (h:Below w.heap.size w w') (g:Nat):But g w w':=(But.refl g w).up h
theorem Below.at {w w':World} {g:Nat} (h:Below w.heap.size w w') (hg:g<w.heap.size):w'.heap[g]? = w.heap[g]?:=h.block g hg
theorem Rw.len {w:World} {a:Option Addr} {N cap:Nat} {l:List Int} (h:Rw w (.slice a N cap) l):l.length=N:=by
 obtain⟨_,_,e,-⟩:=h;injection e with e1 e2 e3;exact e2.symm
theorem Below.of_grown {w w':World} {base:Nat} {row:Option Nat} (hg:w.grownBy w' row) (hbase:base<=w.heap.size) (hr:∀ k,row=some k->base<=k):Below base w w':=
 (Below.refl _ _).grown hg hbase hr
def Ar (w0 w:World) (base:Nat) (v:Value) (l:List Int):Prop:=
 ∃ xs,w.ownsRow base 33 2 v l.length xs/\∀ i,i<l.length->∃ s c n k,xs[i*2]? = some (.bool s)/\xs[i*2+1]? = some (.slice c n k)/\It w0 (Qlv s c n k) (l.getD i 0)
theorem Ar.nil (w0 w:World) (base:Nat):Ar w0 w base (.slice none 0 0) []:=⟨[],World.ownsRow_nil _ _ _ _,fun i hi=>absurd hi (Nat.not_lt_zero i)⟩
theorem Ar.keep {w0 w w':World} {base:Nat} {v:Value} {l:List Int} (h:Ar w0 w base v l) (hb:Below w.heap.size w w'):Ar w0 w' base v l:=by
 obtain⟨xs,h1,h2⟩:=h;refine⟨xs,h1.kept (row:=none) ⟨hb.os,hb.tape,hb.output,hb.size,fun k hk _=>hb.block k hk⟩ ?_,h2⟩
 cases hv:v.ownBlock with
 | none=>exact .inl rfl
 | some k=>exact .inr (by simp)
theorem Ar.alloc {w0 w:World} {base:Nat} {v:Value} {l:List Int} (h:Ar w0 w base v l) (o:Obj):Ar w0 (w.alloc o) base v l:=h.keep (Qc _ _)
theorem Ar.drew {w0 w:World} {base:Nat} {v:Value} {l:List Int} (h:Ar w0 w base v l):Ar w0 w.drew base v l:=h
theorem Ar.form {w0 w:World} {base:Nat} {v:Value} {l:List Int} (h:Ar w0 w base v l):(v=.slice none 0 0/\l=[])\/∃ g cap,v=.slice (some ⟨g,0,none⟩) l.length cap/\base<=g/\g<w.heap.size/\l.length<=cap:=by
 obtain⟨xs,⟨h0,h1⟩,h2⟩:=h;rcases h1 with ⟨h3,h4⟩|⟨g,cap,cur,h3,h4,h5,h6,-⟩
 ·exact .inl ⟨h3,List.eq_nil_of_length_eq_zero h4⟩
 ·exact .inr ⟨g,cap,h3,h4,(Ql h5).1,h6⟩
theorem Ar.rw {w0 w:World} {base:Nat} {v:Value} {l:List Int} (h:Ar w0 w base v l) (hb:Below w0.heap.size w0 w):Rw w v l:=by
 obtain⟨xs,h1,h2⟩:=h;have hx:=h1.1;rcases h1.2 with ⟨rfl,h0⟩|⟨g,cap,cur,rfl,h3,h4,h5,-⟩
 ·have:l=[]:=List.eq_nil_of_length_eq_zero h0;subst this;exact⟨none,0,rfl,Nat.le_refl _,.inl rfl⟩
 ·refine⟨_,cap,rfl,h5,.inr ⟨g,0,rfl,(Ql h4).1,fun i hi=>?_⟩⟩;obtain⟨s,c,n,k,c0,c1,c2⟩:=h2 i hi;have e0:=h1.cellAt (i*2) (by omega);have e1:=h1.cellAt (i*2+1) (by omega);exact⟨s,c,n,k,by rw[Nat.zero_add,e0];exact c0,by rw[Nat.zero_add,e1];exact c1,c2.up hb⟩
def Alc (p:Value->Bool) (w:World) (g:Nat):Prop:=∀ o v,w.cell? ⟨g,o,none⟩=some v->p v=true
theorem Alc.of {p:Value->Bool} {w:World} {g T:Nat} {fr:Nat×Nat} {cs:Array Value} (hg:w.heap[g]? = some (.cells cs T fr)) (h:∀ u∈cs.toList,p u=true):Alc p w g:=by
 intro o v e;simp only[World.cell?,hg] at e;exact h v (List.mem_of_getElem? (by rw[Array.getElem?_toList];exact e))
theorem Alc.mem {p:Value->Bool} {w:World} {g T:Nat} {fr:Nat×Nat} {cs:Array Value} (h:Alc p w g) (hg:w.heap[g]? = some (.cells cs T fr)):∀ u∈cs.toList,p u=true:=by
 intro u hu;obtain⟨i,hi,e⟩:=List.mem_iff_getElem.1 hu;refine h i u ?_;simp only[World.cell?,hg];rw[<- Array.getElem?_toList,Zk4 hi,e];simp
theorem Alc.up {p:Value->Bool} {w w':World} {g:Nat} (h:Alc p w g) (hg:g<w.heap.size) (hb:Below w.heap.size w w'):Alc p w' g:=fun o v e=>h o v (by rw[<- hb.cell (p:=⟨g,o,none⟩) hg];exact e)
theorem QfO {p:Value->Bool} (z:Array Value) (n:Nat) (h:∀ u∈z.toList,p u=true):∀ u∈(Builtin.zeroCells z n).toList,p u=true:=by
 intro u hu;unfold Builtin.zeroCells at hu;simp only[Array.toList_map,Array.toList_range,List.mem_map,List.mem_range] at hu;obtain⟨i,hi,rfl⟩:=hu
 have h0:0<z.size:=by
  rcases Nat.eq_zero_or_pos z.size with e|e
  ·rw[e] at hi;simp at hi
  ·exact e
 have hl:=Nat.mod_lt i h0;rw[getElem!_pos z _ hl];exact h _ (by simp)
theorem Qfn (p:Value->Bool) (w:World) (t ty:TypeId) (base:Nat) (e:TypeId) (i:TypeInfo) (z:Value) (size bytes:Nat) (ht:Tryz.prog.underlying t=some (.slice e)) (hi:Tryz.prog.info? e=some i) (hz:i.zero=some z)
  (hsize:i.size=size) (hby:i.bytes=bytes) (hzs:z.cells.size=size) (hsz:0<size)
  (v:Value) (n:Nat) (xs:List Value) (hown:w.ownsRow base e size v n xs)
  (ad:Addr) (m c:Nat) (news:List Value) (hl:news.length=m*size) (hnews:∀ j u,news[j]? = some u->w.cell? (ad.add j)=some u) (h1:∀ u∈news,u.oneCell'=true)
  (hm:0<m) (h63:n+m<=maxLen) (hbytes:(n+m)*bytes<=140737488355328) (hbase:base<=w.heap.size)
  (hp:∀ g,v.ownBlock=some g->Alc p w g) (hpn:∀ u∈news,p u=true) (hpz:∀ u∈z.cells.toList,p u=true) :
  ∃ g cap w',(Builtin.append_ #[t,t] ty #[v,.slice (some ad) m c]).run Tryz.prog w=.ok (.slice (some ⟨g,0,none⟩) (n+m) cap) w' /\
   w'.ownsRow base e size (.slice (some ⟨g,0,none⟩) (n+m) cap) (n+m) (xs++news)/\w.grownBy w' v.ownBlock/\(v.ownBlock=some g\/g=w.heap.size)/\g<w'.heap.size/\Alc p w' g:=by
 obtain⟨g,cap,w',hr,h2,h3,h4,h5⟩:=run_append_lies (P:=Tryz.prog) w t ty base e i z size bytes ht hi hz hsize hby hzs hsz v n xs hown ad m c news hl hnews h1 hm h63 hbytes hbase _ rfl;refine⟨g,cap,w',hr,h2,h3,h4,h5,?_⟩;subst hsize;subst hby;have aE:n+m<=9223372036854775807:=by simp only[maxLen] at h63;omega
 rcases hown.2 with ⟨rfl,rfl⟩|⟨g',cap',cur,rfl,hbg,hg,hnc,hcm,hcs,htake⟩
 ·have aA:=run_append_nil (P:=Tryz.prog) w t ty e i z ht hi hz ad m c news hl hnews hm (by omega) (by simp only[Nat.zero_add] at hbytes;omega);rw[hr] at aA;injection aA with e1 e2;injection e1 with e1;injection e1 with e1;injection e1 with e1;subst e1 e2;refine Alc.of (Zk1 w.drew _) ?_;intro u hu;simp only[Array.toList_append,List.mem_append] at hu;rcases hu with hu|hu
  ·exact hpn u hu
  ·exact QfO _ _ hpz u hu
 ·have aC:=(hp g' rfl).mem hg;by_cases hroom:n+m<=cap'
  ·have aD:n*i.size+news.length<=cur.size:=by rw[hl,hcs,<- Nat.add_mul];exact Nat.mul_le_mul_right _ hroom
   have aA:=run_append_room (P:=Tryz.prog) w t ty e i ht hi g' n cap' cur hg ad m c news hl hnews h1 hroom aD;rw[hr] at aA;injection aA with e1 e2;injection e1 with e1;injection e1 with e1;injection e1 with e1;subst e1 e2;refine Alc.of (setRow_heap w g cur _ e _ hg) ?_;intro u hu;simp only[List.mem_append] at hu;rcases hu with (hu|hu)|hu
   ·exact aC u (List.mem_of_mem_take hu)
   ·exact hpn u hu
   ·exact aC u (List.mem_of_mem_drop hu)
  ·have aB:∀ j u,xs[j]? = some u->w.cell? ((⟨g',0,none⟩:Addr).add j)=some u:=hown.cells (g:=g') rfl;have aA:=run_append_grow (P:=Tryz.prog) w t ty e i z ht hi hz ⟨g',0,none⟩ n cap' xs hown.1 aB ad m c news hl hnews (by omega) (by omega) (growslice_fits (by omega) hbytes);rw[hr] at aA;injection aA with e1 e2;injection e1 with e1;injection e1 with e1;injection e1 with e1;subst e1 e2;refine Alc.of (Zk1 w.drew _) ?_;intro u hu;simp only[Array.toList_append,List.mem_append] at hu;rcases hu with (hu|hu)|hu
   ·refine aC u (List.mem_of_mem_take (i:=n*i.size) ?_);rw[htake];exact hu
   ·exact hpn u hu
   ·exact QfO _ _ hpz u hu
theorem It.grown {w w':World} {row:Option Nat} (hg:w.grownBy w' row) (hr:∀ g,row=some g->Alc noW w g) {v:Value} {z:Int} (h:It w v z):It w' v z:=by
 cases row with
 | none=>exact h.up ⟨hg.os,hg.tape,hg.output,hg.size,fun k hk=>hg.block k hk (by simp)⟩
 | some g =>
   refine h.but (g:=g) (fun o x e=>?_) ⟨hg.os,hg.tape,hg.output,hg.size,fun k hk hne=>hg.block k hk (by simp[hne])⟩;have:=hr g rfl o _ e;simp[noW] at this
def Ap (w:World) (base:Nat) (v:Value) (l:List Int):Prop:=Ar w w base v l/\∀ g,v.ownBlock=some g->Alc noW w g
theorem Ap.lit0 (w:World) {base:Nat} (hb:base<=w.heap.size):Ap (w.alloc (.cells #[] 33)) base (.slice (some ⟨w.heap.size,0,none⟩) 0 0) []:=by
 refine⟨⟨_,World.ownsRow_lit w #[] 0 hb (by decide) rfl,fun i hi=>absurd hi (Nat.not_lt_zero i)⟩,fun g hg=>?_⟩;simp[Value.ownBlock] at hg
 subst hg;exact Alc.of (Zk1 w _) (by simp)
theorem Ap.up {w w':World} {base:Nat} {v:Value} {l:List Int} (h:Ap w base v l) (hb:Below w.heap.size w w'):Ap w' base v l:=by
 obtain⟨h1,h2⟩:=h;have aB:=h1;obtain⟨xs,k1,-⟩:=aB;obtain⟨aA,p1,p2⟩:=h1.keep hb;refine⟨⟨aA,p1,fun i hi=>?_⟩,fun g hg=>(h2 g hg).up (k1.lt g hg).2 hb⟩;obtain⟨s,c,n,k,c0,c1,c2⟩:=p2 i hi;exact⟨s,c,n,k,c0,c1,c2.up hb⟩
theorem Ap.alloc {w:World} {base:Nat} {v:Value} {l:List Int} (h:Ap w base v l) (o:Obj):Ap (w.alloc o) base v l:=h.up (Qc _ _)
theorem Ap.drew {w:World} {base:Nat} {v:Value} {l:List Int} (h:Ap w base v l):Ap w.drew base v l:=h
theorem Ap.rw {w:World} {base:Nat} {v:Value} {l:List Int} (h:Ap w base v l):Rw w v l:=h.1.rw (Below.refl _ _)
