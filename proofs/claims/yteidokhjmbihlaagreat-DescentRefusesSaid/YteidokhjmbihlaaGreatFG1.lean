/-
  slices.Grow of the nil slice, slices.Concat, factor.numbers.
-/
import Derived.Laws.CopyRow
import Derived.Deep.AppendSrc
import Derived.Lib.AppendZeros
import Derived.Test.YteidokhjmbihlaaGreatFE1
import Derived.Test.YteidokhjmbihlaaGreatFF
set_option linter.all false
set_option maxRecDepth 100000
set_option maxHeartbeats 2000000
namespace Go.Proofs.YteidokhjmbihlaaGreat
open Go.RowKit
structure ButS (S:Nat->Prop) (w w':World):Prop where
 os:w'.os=w.os
 tape:w'.tape=w.tape
 output:w'.output=w.output
 size:w.heap.size<=w'.heap.size
 block:∀ k,k<w.heap.size->¬ S k->w'.heap[k]? = w.heap[k]?
theorem ButS.of {w w':World} (h:Below w.heap.size w w') (S:Nat->Prop):ButS S w w':=⟨h.os,h.tape,h.output,h.size,fun k hk _=>h.block k hk⟩
theorem ButS.refl (S:Nat->Prop) (w:World):ButS S w w:=⟨rfl,rfl,rfl,Nat.le_refl _,fun _ _ _=>rfl⟩
theorem ButS.mono {S S':Nat->Prop} {w w':World} (h:ButS S w w') (hS:∀ k,k<w.heap.size->S k->S' k):ButS S' w w':=⟨h.os,h.tape,h.output,h.size,fun k hk hn=>h.block k hk (fun hs=>hn (hS k hk hs))⟩
theorem ButS.trans {S:Nat->Prop} {a b c:World} (h:ButS S a b) (k:ButS S b c):ButS S a c:=
 ⟨k.os.trans h.os,k.tape.trans h.tape,k.output.trans h.output,Qt h.size k.size,fun i hi hn=>(k.block i (Nat.lt_of_lt_of_le hi h.size) hn).trans (h.block i hi hn)⟩
theorem ButS.step {S S':Nat->Prop} {a b c:World} (h:ButS S a b) (k:ButS S' b c) (hS:∀ i,S' i->S i\/a.heap.size<=i):ButS S a c:=
 ⟨k.os.trans h.os,k.tape.trans h.tape,k.output.trans h.output,Qt h.size k.size,fun i hi hn=>(k.block i (Nat.lt_of_lt_of_le hi h.size) (fun hs=>(hS i hs).elim hn (fun h=>absurd hi (by omega)))).trans (h.block i hi hn)⟩
theorem ButS.up {S:Nat->Prop} {a b c:World} (h:ButS S a b) (k:Below b.heap.size b c):ButS S a c:=h.trans (ButS.of k S)
theorem ButS.below {S:Nat->Prop} {B:Nat} {a b c:World} (h:Below B a b) (k:ButS S b c) (hB:B<=b.heap.size) (hS:∀ i,S i->B<=i):Below B a c:=
 ⟨k.os.trans h.os,k.tape.trans h.tape,k.output.trans h.output,Qt h.size k.size,fun i hi=>(k.block i (by omega) (fun hs=>by have:=hS i hs;omega)).trans (h.block i hi)⟩
theorem ButS.grown {w w':World} {row:Option Nat} (h:w.grownBy w' row):ButS (fun k=>row=some k) w w':=⟨h.os,h.tape,h.output,h.size,fun k hk hn=>h.block k hk (fun e=>hn e.symm)⟩
theorem ButS.set (w:World) (g i:Nat) (v:Value):ButS (fun k=>k=g) w (w.setCell ⟨g,i,none⟩ v):=⟨rfl,rfl,rfl,by simp,fun k _ hn=>Below.heap_setCell _ _ _ _ hn⟩
theorem Qg8 {w:World} {g:Nat} (h:NoW w g):Alc noW w g:=fun o v e=>by
 cases hv:noW v with
 | true=>rfl
 | false =>
   exfalso
   unfold noW at hv;split at hv
   ·exact h o _ e
   ·cases hv
theorem YW {w:World} {g:Nat} (h:Alc noW w g):NoW w g:=fun o x e=>by
 have:=h o _ e;simp[noW] at this
theorem Yc {S:Nat->Prop} {w w':World} (h:ButS S w w') {b o:Nat} {v:Value} (hb:b<w.heap.size) (hn:¬ S b) (hc:w.cell? ⟨b,o,none⟩=some v):w'.cell? ⟨b,o,none⟩=some v:=
 (World.cell?_of_block (w:=w) (h.block b hb hn)).trans hc
theorem Qe9 {w:World} {b o:Nat} {v:Value} (hc:w.cell? ⟨b,o,none⟩=some v):b<w.heap.size:=by
 rcases Nat.lt_or_ge b w.heap.size with h|h
 ·exact h
 ·simp[World.cell?,Array.getElem?_eq_none h] at hc
theorem Yl {S:Nat->Prop} {w w':World} (h:ButS S w w') {b o:Nat} {c:Bool} (hb:b<w.heap.size) (hn:¬ S b) (hc:w.frozen? ⟨b,o,none⟩=c):w'.frozen? ⟨b,o,none⟩=c:=
 (World.frozen?_of_block (w:=w) (h.block b hb hn)).trans hc
theorem Wd.fr {S:Nat->Prop} {w w':World} (hb:ButS S w w') (hS:∀ g,S g->NoW w g) {a:Option Addr} {n:Nat} {f:Nat->Nat} (h:Wd w a n f):Wd w' a n f:=by
 rcases h with h|⟨b,off,h1,h2,h3⟩
 ·exact .inl h
 ·rcases Nat.eq_zero_or_pos n with hn|hn
  ·exact .inl hn
  ·have aA:¬ S b:=fun hs=>hS b hs _ _ (h3 0 hn);exact .inr ⟨b,off,h1,Nat.lt_of_lt_of_le h2 hb.size,fun i hi=>Yc hb h2 aA (h3 i hi)⟩
theorem It.fr {S:Nat->Prop} {w w':World} (hb:ButS S w w') (hS:∀ g,S g->NoW w g) {v:Value} {z:Int} (h:It w v z):It w' v z:=by
 obtain⟨a,n,aA,f,h1,h2,h3,h4⟩:=h;exact⟨a,n,aA,f,h1,h2,h3.fr hb hS,h4⟩
theorem NoW.fr {S:Nat->Prop} {w w':World} (hb:ButS S w w') {B:Nat} (hB:B<w.heap.size) (hn:¬ S B) (h:NoW w B):NoW w' B:=fun o x e=>h o x (by
 rw[<- World.cell?_of_block (w:=w) (w':=w') (a:=⟨B,o,none⟩) (hb.block B hB hn)];exact e)
theorem Bx.fr {S:Nat->Prop} {w w':World} (hb:ButS S w w') {B:Nat} {x y:Value} (hn:¬ S B) (h:Bx w B x y):Bx w' B x y:=by
 have hl:=h.lt;exact⟨Yc hb hl hn h.c0,Yc hb hl hn h.c1,Yl hb hl hn h.f0,Yl hb hl hn h.f1⟩
theorem Vx.fr {S:Nat->Prop} {w w':World} (hb:ButS S w w') (hS:∀ g,S g->NoW w g) {B:Nat} {z:Int} (hn:¬ S B) (h:Vx w B z):Vx w' B z:=by
 have hl:=h.lt;obtain⟨s,a,n,c,h1,h2,h3⟩:=h;exact⟨s,a,n,c,h1.fr hb hn,h2.fr hb hS,h3.fr hb hl hn⟩
structure Elt (α : Type) where
 T:TypeId
 k:Nat
 b:Nat
 z:Value
 ok:World->List Value -> α -> Prop
 hk:0<k
 hb:b<=128
 info:(Tryz.prog.info? T).map (fun i=>(i.zero,i.size,i.bytes))=some (some z,k,b)
 zc:z.cells.size=k
 zn:∀ u∈z.cells.toList,noW u=true
 zo:∀ u∈z.cells.toList,u.oneCell'=true
 len:∀ {w cs x},ok w cs x->cs.length=k
 one:∀ {w cs x},ok w cs x->∀ u∈cs,noW u=true/\u.oneCell'=true
 fr:∀ {w w':World} {S:Nat->Prop},ButS S w w'->(∀ g,S g->NoW w g)->∀ {cs x},ok w cs x->ok w' cs x
section
variable {α : Type} {E:Elt α}
def Sc (E:Elt α) (w:World) (b off:Nat) (l:List α):Prop:=
 ∀ i (hi:i<l.length),∃ cs,E.ok w cs l[i]/\∀ j u,cs[j]? = some u->w.cell? ⟨b,off+i*E.k+j,none⟩=some u
def Sr (E:Elt α) (w:World) (v:Value) (l:List α):Prop:=
 ∃ a cap,v=.slice a l.length cap/\l.length<=cap/\(l=[]\/∃ b off,a=some ⟨b,off,none⟩/\b<w.heap.size/\Sc E w b off l)
theorem Elt.up (E:Elt α) {w w':World} (h:Below w.heap.size w w') {cs:List Value} {x : α} (hx:E.ok w cs x):E.ok w' cs x:=E.fr (ButS.of h (fun _=>False)) (fun _ h=>h.elim) hx
theorem Sc.fr {S:Nat->Prop} {w w':World} (hb:ButS S w w') (hS:∀ g,S g->NoW w g) {b off:Nat} {l:List α} (hl:b<w.heap.size) (hn:¬ S b) (h:Sc E w b off l):Sc E w' b off l:=fun i hi=>by
 obtain⟨cs,h1,h2⟩:=h i hi;exact⟨cs,E.fr hb hS h1,fun j u e=>Yc hb hl hn (h2 j u e)⟩
theorem Sr.fr {S:Nat->Prop} {w w':World} (hb:ButS S w w') (hS:∀ g,S g->NoW w g) {v:Value} {l:List α} (hn:l≠[]->∀ g,v.ownBlock=some g->¬ S g) (h:Sr E w v l):Sr E w' v l:=by
 obtain⟨a,aA,rfl,h2,h3⟩:=h;refine⟨a,aA,rfl,h2,?_⟩;rcases h3 with h3|⟨b,off,rfl,h4,h5⟩
 ·exact .inl h3
 ·by_cases hl:l=[]
  ·exact .inl hl
  ·exact .inr ⟨b,off,rfl,Nat.lt_of_lt_of_le h4 hb.size,h5.fr hb hS h4 (hn hl b rfl)⟩
theorem Sr.up {w w':World} {v:Value} {l:List α} (h:Sr E w v l) (hb:Below w.heap.size w w'):Sr E w' v l:=h.fr (ButS.of hb (fun _=>False)) (fun _ h=>h.elim) (fun _ _ _ h=>h.elim)
theorem Sr.alloc {w:World} {v:Value} {l:List α} (h:Sr E w v l) (o:Obj):Sr E (w.alloc o) v l:=h.up (Qc _ _)
theorem Sr.drew {w:World} {v:Value} {l:List α} (h:Sr E w v l):Sr E w.drew v l:=h.up ((Below.refl _ w).drew)
theorem Sr.nil (E:Elt α) (w:World):Sr E w (.slice none 0 0) []:=⟨none,0,rfl,Nat.le_refl _,.inl rfl⟩
theorem Sr.lt {w:World} {v:Value} {l:List α} (h:Sr E w v l) (hl:l≠[]):∀ g,v.ownBlock=some g->g<w.heap.size:=by
 obtain⟨a,aA,rfl,h2,h3⟩:=h;rcases h3 with h3|⟨b,off,rfl,h4,h5⟩
 ·exact absurd h3 hl
 ·intro g hg;simp[Value.ownBlock] at hg
  rw[<- hg];exact h4
def So (E:Elt α) (w:World) (base:Nat) (v:Value) (l:List α):Prop:=
 ∃ xs,w.ownsRow base E.T E.k v l.length xs/\(∀ i (hi:i<l.length),∃ cs,E.ok w cs l[i]/\∀ j u,cs[j]? = some u->xs[i*E.k+j]? = some u)/\∀ g,v.ownBlock=some g->NoW w g
theorem So.nil (E:Elt α) (w:World) (base:Nat):So E w base (.slice none 0 0) []:=⟨[],World.ownsRow_nil _ _ _ _,fun i hi=>absurd hi (Nat.not_lt_zero i),fun g hg=>by cases hg⟩
theorem So.lt {w:World} {base:Nat} {v:Value} {l:List α} (h:So E w base v l):∀ g,v.ownBlock=some g->base<=g/\g<w.heap.size:=by
 obtain⟨xs,h1,-⟩:=h;exact fun g hg=>h1.lt g hg
theorem So.nw {w:World} {base:Nat} {v:Value} {l:List α} (h:So E w base v l):∀ g,v.ownBlock=some g->NoW w g:=by
 obtain⟨xs,-,-,h3⟩:=h;exact h3
theorem So.base {w:World} {base base':Nat} {v:Value} {l:List α} (h:So E w base v l) (hb:base'<=base):So E w base' v l:=by
 obtain⟨xs,⟨k1,k2⟩,h2,h3⟩:=h;refine⟨xs,⟨k1,?_⟩,h2,h3⟩;rcases k2 with k2|⟨g,cap,cur,e,k3,k4⟩
 ·exact .inl k2
 ·exact .inr ⟨g,cap,cur,e,Qt hb k3,k4⟩
theorem So.self {w:World} {base:Nat} {v:Value} {l:List α} (h:So E w base v l) {b':Nat} (hb:∀ g,v.ownBlock=some g->b'<=g):So E w b' v l:=by
 obtain⟨xs,⟨k1,k2⟩,h2,h3⟩:=h;refine⟨xs,⟨k1,?_⟩,h2,h3⟩;rcases k2 with k2|⟨g,cap,cur,rfl,k3,k4⟩
 ·exact .inl k2
 ·exact .inr ⟨g,cap,cur,rfl,hb g rfl,k4⟩
theorem So.fr {S:Nat->Prop} {w w':World} (hb:ButS S w w') (hS:∀ g,S g->NoW w g) {base:Nat} {v:Value} {l:List α} (hn:∀ g,v.ownBlock=some g->¬ S g) (h:So E w base v l):So E w' base v l:=by
 have aA:=h.lt;obtain⟨xs,⟨k1,k2⟩,h2,h3⟩:=h;refine⟨xs,⟨k1,?_⟩,fun i hi=>?_,fun g hg=>(h3 g hg).fr hb (aA g hg).2 (hn g hg)⟩
 ·rcases k2 with k2|⟨g,cap,cur,rfl,k3,k4,k5⟩
  ·exact .inl k2
  ·exact .inr ⟨g,cap,cur,rfl,k3,(hb.block g (aA g rfl).2 (hn g rfl)).trans k4,k5⟩
 ·obtain⟨cs,c1,c2⟩:=h2 i hi;exact⟨cs,E.fr hb hS c1,c2⟩
theorem So.up {w w':World} {base:Nat} {v:Value} {l:List α} (h:So E w base v l) (hb:Below w.heap.size w w'):So E w' base v l:=h.fr (ButS.of hb (fun _=>False)) (fun _ h=>h.elim) (fun _ _ h=>h.elim)
theorem So.alloc {w:World} {base:Nat} {v:Value} {l:List α} (h:So E w base v l) (o:Obj):So E (w.alloc o) base v l:=h.up (Qc _ _)
theorem So.drew {w:World} {base:Nat} {v:Value} {l:List α} (h:So E w base v l):So E w.drew base v l:=h.up ((Below.refl _ w).drew)
theorem So.sr {w:World} {base:Nat} {v:Value} {l:List α} (h:So E w base v l):Sr E w v l:=by
 have aA:=h.lt;obtain⟨xs,k1,h2,h3⟩:=h;have hx:=k1.1;rcases k1.2 with ⟨rfl,k3⟩|⟨g,cap,cur,rfl,k3,k4,k5,-⟩
 ·have:l=[]:=List.eq_nil_of_length_eq_zero k3;subst this;exact Sr.nil E w
 ·refine⟨_,cap,rfl,k5,.inr ⟨g,0,rfl,(aA g rfl).2,fun i hi=>?_⟩⟩;obtain⟨cs,c1,c2⟩:=h2 i hi;refine⟨cs,c1,fun j u e=>?_⟩;have e1:=c2 j u e
  have hj:i*E.k+j<l.length*E.k:=by
   rw[<- hx];exact(List.getElem?_eq_some_iff.1 e1).1
  rw[Nat.zero_add,k1.cellAt _ hj];exact e1
theorem So.form {w:World} {base:Nat} {v:Value} {l:List α} (h:So E w base v l):(v=.slice none 0 0/\l=[])\/∃ g cap,v=.slice (some ⟨g,0,none⟩) l.length cap/\base<=g/\g<w.heap.size/\l.length<=cap:=by
 obtain⟨xs,⟨h0,h1⟩,h2⟩:=h;rcases h1 with ⟨h3,h4⟩|⟨g,cap,cur,h3,h4,h5,h6,-⟩
 ·exact .inl ⟨h3,List.eq_nil_of_length_eq_zero h4⟩
 ·exact .inr ⟨g,cap,h3,h4,(Ql h5).1,h6⟩
theorem So.slice {w:World} {base:Nat} {v:Value} {l:List α} (h:So E w base v l):∃ a cap,v=.slice a l.length cap/\l.length<=cap:=by
 obtain⟨a,cap,e,h,-⟩:=h.sr;exact⟨a,cap,e,h⟩
theorem Sc.flat {w:World} {b off:Nat} {l:List α} (h:Sc E w b off l):∃ news:List Value,news.length=l.length*E.k/\(∀ j u,news[j]? = some u->w.cell? ⟨b,off+j,none⟩=some u)/\(∀ u∈news,noW u=true/\u.oneCell'=true) /\
  ∀ i (hi:i<l.length),∃ cs,E.ok w cs l[i]/\∀ j u,cs[j]? = some u->news[i*E.k+j]? = some u:=by
 induction l generalizing off with
 | nil=>exact⟨[],by simp,fun j u e=>by simp at e,fun u hu=>by simp at hu,fun i hi=>absurd hi (Nat.not_lt_zero i)⟩
 | cons x l ih =>
   obtain⟨cs,c1,c2⟩:=h 0 (by simp);have aA:=E.len c1
   obtain⟨news,n1,n2,n3,n4⟩:=ih (off:=off+E.k) (fun i hi=>by
    obtain⟨ds,d1,d2⟩:=h (i+1) (by simpa using hi);exact⟨ds,by simpa using d1,fun j u e=>by have:=d2 j u e;rw[Nat.add_mul,Nat.one_mul] at this;rw[show off+E.k+i*E.k+j=off+(i*E.k+E.k)+j by omega];exact this⟩)
   refine⟨cs++news,by rw[List.length_append,aA,n1,List.length_cons,Nat.add_mul];omega,fun j u e=>?_,fun u hu=>?_,fun i hi=>?_⟩
   ·rcases Nat.lt_or_ge j cs.length with hj|hj
    ·rw[List.getElem?_append_left hj] at e;have:=c2 j u e;rw[Nat.zero_mul,Nat.add_zero] at this;exact this
    ·rw[List.getElem?_append_right hj] at e;have:=n2 _ u e;rw[aA] at this hj;rw[show off+j=off+E.k+(j-E.k) by omega];exact this
   ·rcases List.mem_append.1 hu with hu|hu
    ·exact E.one c1 u hu
    ·exact n3 u hu
   ·rcases i with _|i
    ·refine⟨cs,c1,fun j u e=>?_⟩;rw[Nat.zero_mul,Nat.zero_add,List.getElem?_append_left (List.getElem?_eq_some_iff.1 e).1];exact e
    ·obtain⟨ds,d1,d2⟩:=n4 i (by simpa using hi);refine⟨ds,by simpa using d1,fun j u e=>?_⟩;rw[List.getElem?_append_right (by rw[aA,Nat.add_mul];omega),aA,show (i+1)*E.k+j-E.k=i*E.k+j by rw[Nat.add_mul];omega];exact d2 j u e
theorem QdT {w:World} {base:Nat} {v:Value} {l l':List α} (t ty:TypeId) (ht:Tryz.prog.underlying t=some (.slice E.T)) (h:So E w base v l) (hbase:base<=w.heap.size) {b off c1:Nat}
  (h':Sc E w b off l') (hne:0<l'.length) (hl:l.length+l'.length<=1099511627776) :
  ∃ g cap w',(Builtin.append_ #[t,t] ty #[v,.slice (some ⟨b,off,none⟩) l'.length c1]).run Tryz.prog w=.ok (.slice (some ⟨g,0,none⟩) (l.length+l'.length) cap) w' /\
   So E w' base (.slice (some ⟨g,0,none⟩) (l.length+l'.length) cap) (l++l')/\ButS (fun k=>v.ownBlock=some k) w w'/\(v.ownBlock=some g\/g=w.heap.size):=by
 obtain⟨i0,hi,aE,aD,aC⟩:=info_parts E.info;obtain⟨xs,k1,k2,k3⟩:=h;obtain⟨aA,n1,n2,n3,n4⟩:=h'.flat;have hb:=E.hb
 obtain⟨g,cap,w',hr,q1,q2,q3,q4,q5⟩:=Qfn noW w t ty base E.T i0 E.z E.k E.b ht hi aE aD aC E.zc E.hk v l.length xs k1 ⟨b,off,none⟩ l'.length c1 aA n1
  (fun j u e=>(by have h0:=n2 j u e;unfold Addr.add;split;(rename_i hj;rw[hj] at h0;exact h0);exact h0)) (fun u hu=>(n3 u hu).2) hne (by unfold maxLen;omega) (by
   calc (l.length+l'.length)*E.b<=1099511627776*128:=Nat.mul_le_mul hl hb
    _<=_:=by decide) hbase (fun g hg=>Qg8 (k3 g hg)) (fun u hu=>(n3 u hu).1) E.zn
 have aB:=ButS.grown q2;have hx:=k1.1;refine⟨g,cap,w',hr,⟨xs++aA,by rw[List.length_append];exact q1,fun i hi'=>?_,fun g' hg'=>?_⟩,aB,q3⟩
 ·rw[List.length_append] at hi';rcases Nat.lt_or_ge i l.length with hil|hil
  ·obtain⟨cs,c1,c2⟩:=k2 i hil;refine⟨cs,by rw[List.getElem_append_left hil];exact E.fr aB k3 c1,fun j u e=>?_⟩;have:=c2 j u e;rw[List.getElem?_append_left (List.getElem?_eq_some_iff.1 this).1];exact this
  ·obtain⟨cs,c1,c2⟩:=n4 (i-l.length) (by omega);refine⟨cs,by rw[List.getElem_append_right hil];exact E.fr aB k3 c1,fun j u e=>?_⟩;have hm:l.length*E.k<=i*E.k:=Nat.mul_le_mul_right _ hil;rw[List.getElem?_append_right (by rw[hx];omega),hx,show i*E.k+j-l.length*E.k=(i-l.length)*E.k+j by rw[Nat.sub_mul];omega];exact c2 j u e
 ·have:g'=g:=by simp[Value.ownBlock] at hg';exact hg'.symm
  subst this;exact YW q5
end
theorem QgS {wx:World} {D TD:Nat} {x0 x1 x2 x3 x4:Value} (h:wx.heap[D]? = some (.cells #[x0,x1,x2,x3,x4] TD)) :
  wx.cell? ⟨D,0,none⟩=some x0/\wx.cell? ⟨D,1,none⟩=some x1/\wx.cell? ⟨D,2,none⟩=some x2/\wx.cell? ⟨D,3,none⟩=some x3/\wx.cell? ⟨D,4,none⟩=some x4 /\
   wx.frozen? ⟨D,0,none⟩=false/\wx.frozen? ⟨D,1,none⟩=false/\wx.frozen? ⟨D,2,none⟩=false/\wx.frozen? ⟨D,3,none⟩=false/\wx.frozen? ⟨D,4,none⟩=false:=by
 refine⟨?_,?_,?_,?_,?_,?_,?_,?_,?_,?_⟩ <;> simp[World.cell?,World.frozen?,h]
theorem Qir (w:World) (D:Nat) (y0 y1 y2 y3 y4:Value):ButS (fun k=>k=D) w (((((w.setCell ⟨D,0,none⟩ y0).setCell ⟨D,1,none⟩ y1).setCell ⟨D,2,none⟩ y2).setCell ⟨D,3,none⟩ y3).setCell ⟨D,4,none⟩ y4):=
 ((((ButS.set w D 0 _).trans (ButS.set _ D 1 _)).trans (ButS.set _ D 2 _)).trans (ButS.set _ D 3 _)).trans (ButS.set _ D 4 _)
theorem Qhm {w:World} {D TD:Nat} {x0 x1 x2 x3 x4:Value} (h:w.heap[D]? = some (.cells #[x0,x1,x2,x3,x4] TD)) (y0 y1 y2 y3 y4:Value) :
  (((((w.setCell ⟨D,0,none⟩ y0).setCell ⟨D,1,none⟩ y1).setCell ⟨D,2,none⟩ y2).setCell ⟨D,3,none⟩ y3).setCell ⟨D,4,none⟩ y4).heap[D]? = some (.cells #[y0,y1,y2,y3,y4] TD):=by
 simp[World.setCell,Array.getElem?_modify,h]
theorem QjO {w:World} {D TD:Nat} {s:Bool} {a aP aR:Option Addr} {n c nP cP nR cR:Nat} {b:Int} (h:w.heap[D]? = some (.cells #[.bool s,.slice a n c,.slice aP nP cP,.slice aR nR cR,.int .i64 b] TD)):∀ g,g=D->NoW w g:=by
 rintro g rfl o x hx;simp only[World.cell?,h] at hx;rcases o with _|_|_|_|_|o <;> simp at hx
def QaQ (w:World) (cs:List Value) (p:Int×Int):Prop:=∃ s a n c,cs=[.bool s,.slice a n c,.int .i64 p.2]/\It w (Qlv s a n c) p.1
def okI (w:World) (cs:List Value) (x:Int):Prop:=∃ s a n c,cs=[.bool s,.slice a n c]/\It w (Qlv s a n c) x
def okN (_:World) (cs:List Value) (x:Int):Prop:=cs=[.int .i64 x]
theorem QaB:(Tryz.prog.info? 147).map (fun i=>(i.zero,i.size,i.bytes))=some (some (.agg #[.bool false,.slice none 0 0,.int .i64 0]),3,40):=by kernel_rfl
theorem Qac:(Tryz.prog.info? 2).map (fun i=>(i.zero,i.size,i.bytes))=some (some (.int .i64 0),1,8):=by kernel_rfl
theorem J7:(Tryz.prog.info? 3).map (fun i=>(i.zero,i.size,i.bytes))=some (some (.int .i64 0),1,8):=by kernel_rfl
def eP:Elt (Int×Int) where
 T:=147
 k:=3
 b:=40
 z:=.agg #[.bool false,.slice none 0 0,.int .i64 0]
 ok:=QaQ
 hk:=by decide
 hb:=by decide
 info:=QaB
 zc:=rfl
 zn:=by decide
 zo:=by decide
 len:=by rintro w cs x ⟨s,a,n,c,rfl,-⟩;rfl
 one:=by
  rintro w cs x ⟨s,a,n,c,rfl,-⟩ u hu;simp only[List.mem_cons,List.not_mem_nil,or_false] at hu;rcases hu with rfl|rfl|rfl <;> exact⟨rfl,rfl⟩
 fr:=by
  rintro w w' S hb hS cs x ⟨s,a,n,c,h,hi⟩;exact⟨s,a,n,c,h,hi.fr hb hS⟩
def eI:Elt Int where
 T:=33
 k:=2
 b:=32
 z:=.agg #[.bool false,.slice none 0 0]
 ok:=okI
 hk:=by decide
 hb:=by decide
 info:=QaE
 zc:=rfl
 zn:=by decide
 zo:=by decide
 len:=by rintro w cs x ⟨s,a,n,c,rfl,-⟩;rfl
 one:=by
  rintro w cs x ⟨s,a,n,c,rfl,-⟩ u hu;simp only[List.mem_cons,List.not_mem_nil,or_false] at hu;rcases hu with rfl|rfl <;> exact⟨rfl,rfl⟩
 fr:=by
  rintro w w' S hb hS cs x ⟨s,a,n,c,h,hi⟩;exact⟨s,a,n,c,h,hi.fr hb hS⟩
def eN (T:TypeId) (h:(Tryz.prog.info? T).map (fun i=>(i.zero,i.size,i.bytes))=some (some (.int .i64 0),1,8)):Elt Int where
 T:=T
 k:=1
 b:=8
 z:=.int .i64 0
 ok:=okN
 hk:=by decide
 hb:=by decide
 info:=h
 zc:=rfl
 zn:=by decide
 zo:=by decide
 len:=by rintro w cs x rfl;rfl
 one:=by
  rintro w cs x rfl u hu;simp only[List.mem_cons,List.not_mem_nil,or_false] at hu;rcases hu with rfl;exact⟨rfl,rfl⟩
 fr:=by
  rintro w w' S hb hS cs x h;exact h
def e64:Elt Int:=eN 2 Qac
def J1:Elt Int:=eN 3 J7
theorem Sc.pow {w:World} {b off:Nat} {l:List (Int×Int)} (h:Sc eP w b off l) {i:Nat} (hi:i<l.length) :
  ∃ s c n k,w.cell? ⟨b,off+i*3,none⟩=some (.bool s)/\w.cell? ⟨b,off+i*3+1,none⟩=some (.slice c n k)/\w.cell? ⟨b,off+i*3+2,none⟩=some (.int .i64 (l.getD i (0,0)).2)/\It w (Qlv s c n k) (l.getD i (0,0)).1:=by
 obtain⟨cs,⟨s,a,n,c,rfl,h1⟩,h2⟩:=h i hi;have e:l.getD i (0,0)=l[i]:=by simp[Zk3,Zk4 hi]
 rw[e];exact⟨s,a,n,c,h2 0 _ rfl,h2 1 _ rfl,h2 2 _ rfl,h1⟩
theorem Sc.int {w:World} {b off:Nat} {l:List Int} (h:Sc eI w b off l) {i:Nat} (hi:i<l.length) :
  ∃ s c n k,w.cell? ⟨b,off+i*2,none⟩=some (.bool s)/\w.cell? ⟨b,off+i*2+1,none⟩=some (.slice c n k)/\It w (Qlv s c n k) (l.getD i 0):=by
 obtain⟨cs,⟨s,a,n,c,rfl,h1⟩,h2⟩:=h i hi;have e:l.getD i 0=l[i]:=by simp[Zk3,Zk4 hi]
 rw[e];exact⟨s,a,n,c,h2 0 _ rfl,h2 1 _ rfl,h1⟩
theorem Sr.at {α : Type} {E:Elt α} {w:World} {a:Option Addr} {n cap:Nat} {l:List α} (h:Sr E w (.slice a n cap) l) {i:Nat} (hi:i<l.length):∃ b off,a=some ⟨b,off,none⟩/\b<w.heap.size/\Sc E w b off l:=by
 obtain⟨a',aA,e,h2,h3⟩:=h;injection e with e1 e2 e3;subst e1;rcases h3 with rfl|h3
 ·simp at hi
 ·exact h3
theorem Sr.len {α : Type} {E:Elt α} {w:World} {a:Option Addr} {n cap:Nat} {l:List α} (h:Sr E w (.slice a n cap) l):l.length=n/\n<=cap:=by
 obtain⟨a',aA,e,h2,h3⟩:=h;injection e with e1 e2 e3;subst e2 e3;exact⟨rfl,h2⟩
theorem Rw.sr {w:World} {v:Value} {l:List Int} (h:Rw w v l):Sr eI w v l:=by
 obtain⟨a,aA,rfl,h2,h3⟩:=h;refine⟨a,aA,rfl,h2,?_⟩;rcases h3 with h3|⟨b,off,rfl,h4,h5⟩
 ·exact .inl h3
 ·refine .inr ⟨b,off,rfl,h4,fun i hi=>?_⟩;obtain⟨s,c,n,k,c0,c1,c2⟩:=h5 i hi;have e:l.getD i 0=l[i]:=by simp[Zk3,Zk4 hi]
  rw[e] at c2;refine⟨[.bool s,.slice c n k],⟨s,c,n,k,rfl,c2⟩,fun j u hu=>?_⟩;rcases j with _|_|j
  ·simp at hu;subst hu;exact c0
  ·simp at hu;subst hu;exact c1
  ·simp at hu
theorem Sr.rw {w:World} {v:Value} {l:List Int} (h:Sr eI w v l):Rw w v l:=by
 obtain⟨a,aA,rfl,h2,h3⟩:=h;refine⟨a,aA,rfl,h2,?_⟩;rcases h3 with h3|⟨b,off,rfl,h4,h5⟩
 ·exact .inl h3
 ·exact .inr ⟨b,off,rfl,h4,fun i hi=>h5.int hi⟩
theorem Sc.one {α : Type} {E:Elt α} {w:World} {B T:Nat} {fr:Nat×Nat} {cs:List Value} {x : α} (hB:w.heap[B]? = some (.cells cs.toArray T fr)) (h:E.ok w cs x):Sc E w B 0 [x]:=by
 intro i hi;have:i=0:=by simpa using hi
 subst this;refine⟨cs,h,fun j u e=>?_⟩;simp only[World.cell?,hB];simpa using e
section
variable {α : Type} {E:Elt α}
theorem QbX {ops:Array Oper} {o:Oper} {a:Act} {K:Act->World->Prop} {Q:Exit->Act->World->Prop} {F:Prop} {w:World} (hgd:o.guard=none) (su sx:Operand) (t:TypeId)
  (ho:o.op=.call { callee:=.builtin .append,args:=#[su,sx],argTypes:=#[t,t] }) (ht:Tryz.prog.underlying t=some (.slice E.T)) (base:Nat) (v:Value) (l l':List α) (hs:a.eval su=v) (h:So E w base v l) (hbase:base<=w.heap.size)
  (b off m c1:Nat) (hxv:a.eval sx=.slice (some ⟨b,off,none⟩) m c1) (hm:l'.length=m) (h':Sc E w b off l') (hne:0<m) (hl:l.length+m<=1099511627776)
  (hK:∀ g cap w',So E w' base (.slice (some ⟨g,0,none⟩) (l.length+m) cap) (l++l')->ButS (fun k=>v.ownBlock=some k) w w'->(v.ownBlock=some g\/g=w.heap.size)->K (a.put o.dst (.slice (some ⟨g,0,none⟩) (l.length+m) cap)) w') :
  if Region.wanted o (yielded ops a.tmps)=true then Oper.wp Tryz.prog o a w K Q else F:=by
 subst hm;have hw:Region.wanted o (yielded ops a.tmps)=true:=by simp[Region.wanted,hgd]
 rw[if_pos hw];obtain⟨g,cap,w',hr,h2,h3,h4⟩:=QdT t o.type ht h hbase (c1:=c1) h' hne hl;unfold Oper.wp execOp;simp only[ho,resolve,invoke,builtin,Sem.run_bind,Sem.run_pure,Result.andThen_ok,List.map_toArray,List.map_cons,List.map_nil,hs,hxv,hr];exact hK g cap w' h2 h3 h4
theorem Qc3 {ops:Array Oper} {rest:List Oper} {o:Oper} {a:Act} {Q:Exit->Act->World->Prop} {w:World} (hgd:o.guard=none) (su sx:Operand) (t:TypeId)
  (ho:o.op=.call { callee:=.builtin .append,args:=#[su,sx],argTypes:=#[t,t] }) (ht:Tryz.prog.underlying t=some (.slice E.T)) (base:Nat) (v:Value) (l l':List α) (hs:a.eval su=v) (h:So E w base v l) (hbase:base<=w.heap.size)
  (b off m c1:Nat) (hxv:a.eval sx=.slice (some ⟨b,off,none⟩) m c1) (hm:l'.length=m) (h':Sc E w b off l') (hne:0<m) (hl:l.length+m<=1099511627776)
  (hK:∀ g cap w',So E w' base (.slice (some ⟨g,0,none⟩) (l.length+m) cap) (l++l')->ButS (fun k=>v.ownBlock=some k) w w'->(v.ownBlock=some g\/g=w.heap.size)->wpList Tryz.prog ops Q rest (a.put o.dst (.slice (some ⟨g,0,none⟩) (l.length+m) cap)) w') :
  wpList Tryz.prog ops Q (o :: rest) a w:=by
 subst hm;refine wpList_plain hgd fun K hK'=>?_;obtain⟨g,cap,w',hr,h2,h3,h4⟩:=QdT t o.type ht h hbase (c1:=c1) h' hne hl;unfold Oper.wp execOp;simp only[ho,resolve,invoke,builtin,Sem.run_bind,Sem.run_pure,Result.andThen_ok,List.map_toArray,List.map_cons,List.map_nil,hs,hxv,hr];exact hK' _ _ (hK g cap w' h2 h3 h4)
end
theorem Qfq {P:Program} (w:World) (t ty e:TypeId) (i:TypeInfo) (ht:P.underlying t=some (.slice e)) (hi:P.info? e=some i) (base:Option Addr) (n cap:Nat) (hn:n<=cap) (b:Option Addr) (c:Nat) :
  (Builtin.append_ #[t,t] ty #[.slice base n cap,.slice b 0 c]).run P w=.ok (.slice base n cap) w:=by
 have hf:(Builtin.firstCells i.size 0 (.slice b 0 c)).run P w=.ok ([]:List Value).toArray w:=by
  cases b with
  | none=>exact run_firstCells_none w i.size 0 0 c
  | some a=>exact run_firstCells_some w i.size 0 a 0 c [] (by simp) (by simp)
 cases base with
 | none=>simp[Builtin.append_,run_underlying ht,sizeOf,typeInfo,hi,Builtin.lenOf,hn,hf]
 | some ad=>simp[Builtin.append_,run_underlying ht,sizeOf,typeInfo,hi,Builtin.lenOf,hn,hf,storeCells]
section
variable {α : Type} {E:Elt α}
theorem Qio {w:World} {base:Nat} {v u:Value} {l l':List α} (t ty:TypeId) (ht:Tryz.prog.underlying t=some (.slice E.T)) (h:So E w base v l) (hbase:base<=w.heap.size) (h':Sr E w u l') (hl:l.length+l'.length<=1099511627776) :
  ∃ v' w',(Builtin.append_ #[t,t] ty #[v,u]).run Tryz.prog w=.ok v' w'/\So E w' base v' (l++l')/\ButS (fun k=>v.ownBlock=some k) w w'/\(∀ g,v'.ownBlock=some g->v.ownBlock=some g\/g=w.heap.size)/\(v ≠ .slice none 0 0->v' ≠ .slice none 0 0):=by
 obtain⟨a,aA,rfl,h2,h3⟩:=h';by_cases hn:l'=[]
 ·subst hn;obtain⟨a0,c0,rfl,aB⟩:=h.slice;obtain⟨i0,hi,aF,aE,aD⟩:=info_parts E.info;refine⟨_,w,Qfq w t ty E.T i0 ht hi a0 l.length c0 aB a aA,by rw[List.append_nil];exact h,ButS.refl _ _,fun g hg=>.inl hg,fun h=>h⟩
 ·obtain⟨b,aC,rfl,h4,h5⟩:=h3.resolve_left hn;obtain⟨g,c,w',hr,k1,k2,k3⟩:=QdT t ty ht h hbase (c1:=aA) h5 (List.length_pos_iff.2 hn) hl;refine⟨_,w',hr,by simpa using k1,k2,fun g' hg'=>?_,fun _ e=>by injection e with e1 _ _;cases e1⟩;have:g'=g:=by simp[Value.ownBlock] at hg';exact hg'.symm
  subst this;exact k3
theorem Qd6 {ops:Array Oper} {rest:List Oper} {o:Oper} {a:Act} {Q:Exit->Act->World->Prop} {w:World} (hgd:o.guard=none) (su sx:Operand) (t:TypeId)
  (ho:o.op=.call { callee:=.builtin .append,args:=#[su,sx],argTypes:=#[t,t] }) (ht:Tryz.prog.underlying t=some (.slice E.T)) (base:Nat) (v u:Value) (l l':List α) (hs:a.eval su=v) (h:So E w base v l) (hbase:base<=w.heap.size)
  (hxv:a.eval sx=u) (h':Sr E w u l') (hl:l.length+l'.length<=1099511627776)
  (hK:∀ v' w',So E w' base v' (l++l')->ButS (fun k=>v.ownBlock=some k) w w'->(∀ g,v'.ownBlock=some g->v.ownBlock=some g\/g=w.heap.size)->(v ≠ .slice none 0 0->v' ≠ .slice none 0 0)->wpList Tryz.prog ops Q rest (a.put o.dst v') w') :
  wpList Tryz.prog ops Q (o :: rest) a w:=by
 refine wpList_plain hgd fun K hK'=>?_;obtain⟨v',w',hr,h2,h3,h4,h5⟩:=Qio t o.type ht h hbase h' hl;unfold Oper.wp execOp;simp only[ho,resolve,invoke,builtin,Sem.run_bind,Sem.run_pure,Result.andThen_ok,List.map_toArray,List.map_cons,List.map_nil,hs,hxv,hr];exact hK' _ _ (hK v' w' h2 h3 h4 h5)
theorem So.lit0 (E:Elt α) (w:World) {base:Nat} (hb:base<=w.heap.size):So E (w.alloc (.cells #[] E.T)) base (.slice (some ⟨w.heap.size,0,none⟩) 0 0) []:=by
 refine⟨[],⟨by simp,.inr ⟨w.heap.size,0,#[],rfl,hb,Zk1 w _,Nat.le_refl _,by decide,by simp,by simp⟩⟩,fun i hi=>absurd hi (Nat.not_lt_zero i),fun g hg=>?_⟩;have:g=w.heap.size:=by simp[Value.ownBlock] at hg;exact hg.symm
 subst this;exact NoW.new w #[] E.T rfl
theorem So.take {w:World} {base g cap n:Nat} {l:List α} (h:So E w base (.slice (some ⟨g,0,none⟩) l.length cap) l) (hn:n<=l.length):So E w base (.slice (some ⟨g,0,none⟩) n cap) (l.take n):=by
 obtain⟨xs,⟨k1,k2⟩,h2,h3⟩:=h;have aA:(l.take n).length=n:=by simp;omega
 refine⟨xs.take (n*E.k),⟨by rw[aA,List.length_take,k1];exact Nat.min_eq_left (Nat.mul_le_mul_right _ hn),?_⟩,fun i hi=>?_,h3⟩
 ·rcases k2 with ⟨e,-⟩|⟨g',cap',cur,e,k3,k4,k5,k6,k7,k8⟩
  ·injection e with e1;cases e1
  ·injection e with e1 e2 e3;subst e3;refine .inr ⟨g',cap,cur,by rw[aA,e1],k3,k4,by omega,k6,k7,?_⟩;rw[<- k8,List.take_take,aA,Nat.min_eq_left (Nat.mul_le_mul_right _ hn)]
 ·rw[aA] at hi;obtain⟨cs,c1,c2⟩:=h2 i (by omega);refine⟨cs,by rw[List.getElem_take];exact c1,fun j u e=>?_⟩;have hj:=E.len c1;have aB:=(List.getElem?_eq_some_iff.1 e).1;rw[List.getElem?_take_of_lt]
  ·exact c2 j u e
  ·calc i*E.k+j<i*E.k+E.k:=by omega
    _=(i+1)*E.k:=by rw[Nat.add_mul];omega
    _<=n*E.k:=Nat.mul_le_mul_right _ (by omega)
theorem So.sc {w:World} {base g n cap:Nat} {l:List α} (h:So E w base (.slice (some ⟨g,0,none⟩) n cap) l):Sc E w g 0 l:=by
 obtain⟨a,c,e,h2,h3⟩:=h.sr;injection e with e1 e2 e3;rcases h3 with rfl|⟨b,off,e4,h4,h5⟩
 ·intro i hi;simp at hi
 ·rw[e4] at e1;injection e1 with e1;injection e1 with e5 e6;subst e5 e6;exact h5
theorem Sc.drop {w:World} {b off:Nat} {l:List α} (h:Sc E w b off l) (n:Nat):Sc E w b (off+n*E.k) (l.drop n):=fun i hi=>by
 rw[List.length_drop] at hi;obtain⟨cs,c1,c2⟩:=h (n+i) (by omega);refine⟨cs,by rw[List.getElem_drop];exact c1,fun j u e=>?_⟩;rw[show off+n*E.k+i*E.k+j=off+(n+i)*E.k+j by rw[Nat.add_mul];omega];exact c2 j u e
theorem So.put {w:World} {base g cap:Nat} {cur c2:Array Value} (hg:w.heap[g]? = some (.cells cur E.T (0,0))) (hS:NoW w g) (hbg:base<=g) (hcap:cap<=maxLen) (hs:c2.size=cap*E.k) (l:List α) (hn:l.length<=cap)
  (hel:∀ i (hi:i<l.length),∃ cs,E.ok w cs l[i]/\∀ j u,cs[j]? = some u->c2.toList[i*E.k+j]? = some u) (hno:∀ u∈c2.toList,noW u=true) :
  So E (w.setRow g c2) base (.slice (some ⟨g,0,none⟩) l.length cap) l/\ButS (fun k=>k=g) w (w.setRow g c2):=by
 have hh:(w.setRow g c2).heap[g]? = some (.cells c2 E.T (0,0)):=by
  simp[World.setRow,Array.getElem?_modify,hg]
 have aA:ButS (fun k=>k=g) w (w.setRow g c2):=⟨rfl,rfl,rfl,by simp[World.setRow],fun k hk hne=>by
  have:¬ g=k:=fun e=>hne e.symm;simp[World.setRow,Array.getElem?_modify,this]⟩
 refine⟨⟨c2.toList.take (l.length*E.k),⟨?_,.inr ⟨g,cap,c2,rfl,hbg,hh,hn,hcap,hs,rfl⟩⟩,fun i hi=>?_,fun g' hg'=>?_⟩,aA⟩
 ·have:c2.toList.length=cap*E.k:=by rw[Array.length_toList];exact hs
  rw[List.length_take,this];exact Nat.min_eq_left (Nat.mul_le_mul_right _ hn)
 ·obtain⟨cs,d1,d2⟩:=hel i hi;refine⟨cs,E.fr aA (fun g' hg'=>by rw[hg'];exact hS) d1,fun j u e=>?_⟩;have hj:=E.len d1;have aB:=(List.getElem?_eq_some_iff.1 e).1;rw[List.getElem?_take_of_lt]
  ·exact d2 j u e
  ·calc i*E.k+j<i*E.k+E.k:=by omega
    _=(i+1)*E.k:=by rw[Nat.add_mul];omega
    _<=l.length*E.k:=Nat.mul_le_mul_right _ (by omega)
 ·have:g'=g:=by simp[Value.ownBlock] at hg';exact hg'.symm
  subst this;exact YW (Alc.of hh hno)
end
attribute [local go_sem ↓] Go.wp_at_zero Go.wp_at_succ
theorem QgF (va:Value) (l:List (Int×Int)) (w:World) (h:Sr eP w va l) (hl:l.length<=1099511627776) :
  Calls Tryz.prog 213 #[va] w fun e w'=>∃ v,e=.returned v/\So eP w' w.heap.size v l/\Below w.heap.size w w':=by
 obtain⟨a,aA,rfl,h2,h3⟩:=id h;have hq:∀ (W:World) (n c:Nat),(binOp .eql 144 (.slice a n c) (.slice none 0 0)).run Tryz.prog W=.ok (.bool a.isNone) W:=fun W n c=>Lib.run_eql_slice_nil W _ _ a n c 0 0 Tryz.underlying144
 cases a with
 | none =>
   have hn:l=[]:=h3.resolve_right (fun⟨b,off,e,_⟩=>by cases e);subst hn;go_enter Tryz.func213,Tryz.ntmps213
   go_wp2_with fail;go_ret
   exact⟨_,rfl,So.nil eP w _,Below.refl _ _⟩
 | some ad =>
   go_enter Tryz.func213,Tryz.ntmps213
   go_wp2_with (at_builtin;go_must (refine Qd6 (E:=eP) rfl (.tmp 5) (.tmp 6) _ rfl Tryz.underlying144 w.heap.size (.slice (some ⟨w.heap.size,0,none⟩) 0 0) (.slice (some ad) l.length aA) [] l rfl (So.lit0 eP w (Nat.le_refl _)) (by simp) rfl (h.up (Qc _ _)) (by simpa using hl) ?_);intro v' w1 hS hb hg aB)
   go_ret
   refine⟨_,rfl,?_,?_⟩
   ·rw[List.nil_append] at hS;exact hS
   ·exact ButS.below (Qc w (.cells #[] 147)) hb (by simp) (fun i hi=>by simp[Value.ownBlock] at hi;omega)
theorem Qgq (va:Value) (l:List Int) (w:World) (h:Sr eI w va l) (hl:l.length<=1099511627776) :
  Calls Tryz.prog 139 #[va] w fun e w'=>∃ v,e=.returned v/\So eI w' w.heap.size v l/\Below w.heap.size w w':=by
 obtain⟨a,aA,rfl,h2,h3⟩:=id h;have hq:∀ (W:World) (n c:Nat),(binOp .eql 46 (.slice a n c) (.slice none 0 0)).run Tryz.prog W=.ok (.bool a.isNone) W:=fun W n c=>Lib.run_eql_slice_nil W _ _ a n c 0 0 Tryz.underlying46
 cases a with
 | none =>
   have hn:l=[]:=h3.resolve_right (fun⟨b,off,e,_⟩=>by cases e);subst hn;go_enter Tryz.func139,Tryz.ntmps139
   go_wp2_with fail;go_ret
   exact⟨_,rfl,So.nil eI w _,Below.refl _ _⟩
 | some ad =>
   go_enter Tryz.func139,Tryz.ntmps139
   go_wp2_with (at_builtin;go_must (refine Qd6 (E:=eI) rfl (.tmp 5) (.tmp 6) _ rfl Tryz.underlying46 w.heap.size (.slice (some ⟨w.heap.size,0,none⟩) 0 0) (.slice (some ad) l.length aA) [] l rfl (So.lit0 eI w (Nat.le_refl _)) (by simp) rfl (h.up (Qc _ _)) (by simpa using hl) ?_);intro v' w1 hS hb hg aB)
   go_ret
   refine⟨_,rfl,?_,?_⟩
   ·rw[List.nil_append] at hS;exact hS
   ·exact ButS.below (Qc w (.cells #[] 33)) hb (by simp) (fun i hi=>by simp[Value.ownBlock] at hi;omega)
theorem Qcg {zero:Array Value} (h0:0<zero.size) (hz:∀ u∈zero.toList,noW u=true) (n:Nat):(Builtin.zeroCells zero n).size=n*zero.size/\(∀ u∈(Builtin.zeroCells zero n).toList,noW u=true):=by
 unfold Builtin.zeroCells;refine⟨by simp,fun u hu=>?_⟩;simp only[Array.toList_map,List.mem_map] at hu;obtain⟨i,-,rfl⟩:=hu;have hi:i%zero.size<zero.size:=Nat.mod_lt _ h0;rw[getElem!_pos zero (i%zero.size) hi];exact hz _ (Array.getElem_mem_toList hi)
section
variable {α : Type} (E:Elt α)
theorem So.row0 (w:World) {base:Nat} (cs:Array Value) (cap:Nat) (hb:base<=w.heap.size) (hs:cs.size=cap*E.k) (hc:cap<=maxLen) (hno:∀ u∈cs.toList,noW u=true) :
  So E (w.alloc (.cells cs E.T)) base (.slice (some ⟨w.heap.size,0,none⟩) 0 cap) []:=by
 refine⟨[],⟨by simp,.inr ⟨w.heap.size,cap,cs,rfl,hb,Zk1 w _,Nat.zero_le _,hc,by simpa using hs,by simp⟩⟩,fun i hi=>absurd hi (Nat.not_lt_zero i),fun g hg=>?_⟩;have:g=w.heap.size:=by simp[Value.ownBlock] at hg;exact hg.symm
 subst this;exact NoW.new w cs E.T (List.all_eq_true.2 hno)
set_option maxRecDepth 10000 in
theorem QeT {w:World} (t tn ty:TypeId) (kn:IntKind) (ht:Tryz.prog.underlying t=some (.slice E.T)) (htn:Tryz.prog.underlying tn=some (.int kn)) (n:Nat) (h0:0<n) (hn:n<=1099511627776) :
  ∃ cap w',(Builtin.append_ #[t,tn] ty #[.slice none 0 0,.int .i64 n]).run Tryz.prog w=.ok (.slice (some ⟨w.heap.size,0,none⟩) n cap) w'/\n<=cap /\
   So E w' w.heap.size (.slice (some ⟨w.heap.size,0,none⟩) 0 cap) []/\Below w.heap.size w w':=by
 obtain⟨i0,hi,aB,aG,aF⟩:=info_parts E.info;have hk:=E.hk;have hb:=E.hb
 have aE:n*i0.bytes<=281474976710656:=by
  have:n*i0.bytes<=1099511627776*128:=Nat.mul_le_mul hn (by omega);omega
 have hr:=Lib.run_append_nil_zeros (P:=Tryz.prog) w t tn ty E.T i0 E.z .i64 kn ht htn hi aB n h0 (by omega) (by omega) aE;have aD:=grownCap_ge w n 0 E.T;have aC:=grownCap_le_maxLen w n 0 E.T (by unfold maxLen;omega);have aA:0<E.z.cells.size:=by rw[E.zc];exact hk
 obtain⟨s1,n1⟩:=Qcg aA E.zn n;obtain⟨s2,n2⟩:=Qcg aA E.zn (grownCap w n 0 E.T-n);refine⟨_,_,hr,aD,?_,(Below.refl _ _).drew.trans ((Qc w.drew _).mono (Nat.le_refl _))⟩;refine So.row0 E w.drew _ _ (Nat.le_refl _) ?_ aC (fun u hu=>?_)
 ·rw[Array.size_append,s1,s2,E.zc,<- Nat.add_mul];congr 1;omega
 ·rw[Array.toList_append,List.mem_append] at hu;exact hu.elim (n1 u) (n2 u)
variable {E}
theorem Qek {ops:Array Oper} {rest:List Oper} {o:Oper} {a:Act} {Q:Exit->Act->World->Prop} {w:World} (hgd:o.guard=none) (su sx:Operand) (t tn:TypeId)
  (ho:o.op=.call { callee:=.builtin .append,args:=#[su,sx],argTypes:=#[t,tn] }) (kn:IntKind) (ht:Tryz.prog.underlying t=some (.slice E.T)) (htn:Tryz.prog.underlying tn=some (.int kn)) (n:Nat) (h0:0<n) (hn:n<=1099511627776)
  (hs:a.eval su=.slice none 0 0) (hxv:a.eval sx=.int .i64 n)
  (hK:∀ cap w',n<=cap->So E w' w.heap.size (.slice (some ⟨w.heap.size,0,none⟩) 0 cap) []->Below w.heap.size w w'->wpList Tryz.prog ops Q rest (a.put o.dst (.slice (some ⟨w.heap.size,0,none⟩) n cap)) w') :
  wpList Tryz.prog ops Q (o :: rest) a w:=by
 refine wpList_plain hgd fun K hK'=>?_;obtain⟨cap,w',hr,h2,h3,h4⟩:=QeT E (w:=w) t tn o.type kn ht htn n h0 hn;unfold Oper.wp execOp;simp only[ho,resolve,invoke,builtin,Sem.run_bind,Sem.run_pure,Result.andThen_ok,List.map_toArray,List.map_cons,List.map_nil,hs,hxv,hr];exact hK' _ _ (hK cap w' h2 h3 h4)
end
theorem QgP (n:Nat) (w:World) (hn:n<=1099511627776) :
  Calls Tryz.prog 132 #[.slice none 0 0,.int .i64 (n:Int)] w fun e w'=>∃ v,e=.returned v/\So eP w' w.heap.size v []/\Below w.heap.size w w':=by
 rcases Nat.eq_zero_or_pos n with h0|h0
 ·subst h0;go_enter Tryz.func132,Tryz.ntmps132
  go_wp2_with fail;go_ret
  exact⟨_,rfl,So.nil eP w _,Below.refl _ _⟩
 ·have i1:¬ (n:Int)<0:=by omega
  have i2:(n:Int)>0:=by omega
  go_enter Tryz.func132,Tryz.ntmps132
  go_wp2_with (at_builtin;go_must (refine Qek (E:=eP) rfl (.tmp 20) (.tmp 21) _ _ rfl .i64 Tryz.underlying144 Tryz.underlying3 n h0 hn rfl rfl ?_);intro aB w1 aA hS hb)
  go_ret
  exact⟨_,rfl,hS,hb⟩
def Ss {α : Type} (E:Elt α) (w:World) (v:Value) (ls:List (List α)):Prop:=
 ∃ a cap F,v=.slice a ls.length cap/\Cl w a ls.length F/\∀ i,i<ls.length->Sr E w (F i) (ls.getD i [])
theorem Ss.up {α : Type} {E:Elt α} {w w':World} {v:Value} {ls:List (List α)} (h:Ss E w v ls) (hb:Below w.heap.size w w'):Ss E w' v ls:=by
 obtain⟨a,aA,F,rfl,h1,h2⟩:=h;exact⟨a,aA,F,rfl,h1.up hb,fun i hi=>(h2 i hi).up hb⟩
def Qh5 {α : Type} (ls:List (List α)) (i:Nat):Nat:=(ls.take i).flatten.length
theorem QeD {α : Type} {ls:List (List α)} {i:Nat} (hi:i<ls.length):Qh5 ls (i+1)=Qh5 ls i+(ls.getD i []).length:=by
 unfold Qh5;rw[List.take_succ_eq_append_getElem hi,List.flatten_append,List.length_append];simp[Zk3,hi]
theorem QhU {α : Type} {ls:List (List α)} (i:Nat):Qh5 ls i<=ls.flatten.length:=by
 unfold Qh5;conv=>rhs;rw[<- List.take_append_drop i ls]
 rw[List.flatten_append,List.length_append];omega
theorem QgT {α : Type} {ls:List (List α)} {i:Nat} (hi:i<ls.length):(ls.take (i+1)).flatten=(ls.take i).flatten++ls.getD i []:=by
 rw[List.take_succ_eq_append_getElem hi,List.flatten_append];simp[Zk3,hi]
theorem Qe7 (va:Value) (ls:List (List (Int×Int))) (w:World) (h:Ss eP w va ls) (hl:ls.flatten.length<=1099511627776) (hn:ls.length<=1000) :
  Calls Tryz.prog 86 #[va] w fun e w'=>∃ v,e=.returned v/\So eP w' w.heap.size v ls.flatten/\Below w.heap.size w w':=by
 obtain⟨a,aV,F,rfl,hC,hF⟩:=h;go_enter Tryz.func86,Tryz.ntmps86
 go_wp2_with fail
 go_loopw [3,5,11] (fun s3 s5 s11 wr=>∃ i:Nat,s3=.int .i64 (Qh5 ls i:Int)/\s11=.int .i64 (i:Int)/\i<=ls.length/\∃ q,wr=w.drewN q)
  (fun _ _ s11 _=>ls.length-(intOf s11).toNat)
 case atStart=>exact⟨0,rfl,rfl,Nat.zero_le _,0,rfl⟩
 case round=>
  obtain⟨i,rfl,rfl,hi,q,rfl⟩:=hrel;by_cases hlt:i<ls.length
  ·obtain⟨b,aK,rfl,hb,hc⟩:=(hC.up (Go.Proofs.YteidokhjmbihlaaGreat.Below.drewN (Below.refl w.heap.size w) q)).at (i:=i) hlt;have aC:=hc i hlt;obtain⟨a',c',e',aH,-⟩:=id (hF i hlt);rw[e'] at aC;have h1:=QeD hlt;have h2:=QhU (ls:=ls) (i+1);obtain⟨L,hL⟩:∃ L,Qh5 ls i=L:=⟨_,rfl⟩;obtain⟨n',aF⟩:∃ n',(ls.getD i []).length=n':=⟨_,rfl⟩;rw[aF] at aC aH h1;rw[hL] at h1 |-;have H1:=Qh h1;have aL:L+n'<=1099511627776:=by omega
   clear hc h1 h2 e' hL aF;have i0:(0:Int)<=(i:Int):=by omega
   have i1:(i:Int)<(ls.length:Int):=by omega
   have i2:¬ (L:Int)+(n':Int)<0:=by omega
   have i3:IntKind.i64.wrap ((L:Int)+(n':Int))=(L:Int)+(n':Int):=by rw[IntKind.wrap_i64];omega
   go_wp2_with fail;refine⟨⟨i+1,?_,by go_num,by omega,_,rfl⟩,by simp[intOf];omega⟩;rw[H1.out];simp
  ·obtain rfl:i=ls.length:=by omega
   obtain⟨L,hL⟩:∃ L,ls.flatten.length=L:=⟨_,rfl⟩;have aB:Qh5 ls ls.length=L:=by unfold Qh5;rw[List.take_length,hL]
   rw[hL] at hl;rw[aB];have HL:=Qh hL;clear aB hL;have aI:Below w.heap.size w (w.drewN q):=Go.Proofs.YteidokhjmbihlaaGreat.Below.drewN (Below.refl _ _) q;have HC:=Qh hC;have HF:=Qh hF;clear hC hF;go_wp2_with fail;refine(QgP L _ hl).mono ?_;rintro e w1 ⟨v,rfl,hv,hb⟩;have aJ:Below w.heap.size w w1:=aI.trans hb;have aE:So eP w1 w.heap.size v []:=hv;have aR:=Qh aE;have aT:=Qh aJ;clear hb hv aJ aE aI;go_wp2_with fail
   go_loopw [6,8,27] (fun s6 s8 s27 wr=>∃ i:Nat,s27=.int .i64 (i:Int)/\i<=ls.length/\So eP wr w.heap.size s6 (ls.take i).flatten/\Below w.heap.size w wr)
    (fun _ _ s27 _=>ls.length-(intOf s27).toNat)
   case atStart=>exact⟨0,rfl,Nat.zero_le _,aR.out,aT.out⟩
   case round=>
    obtain⟨i,rfl,hi,hS,aA⟩:=hrel;by_cases hlt:i<ls.length
    ·obtain⟨b,aK,rfl,hb,hc⟩:=(HC.out.up aA).at (i:=i) hlt;have aC:=hc i hlt;have aD:=(HF.out i hlt).up aA;obtain⟨a',c',e',aH,-⟩:=id aD;rw[e'] at aC aD;have aG:=QgT hlt
     have aO:(ls.take i).flatten.length+(ls.getD i []).length<=1099511627776:=by
      have h1:=QeD hlt;have h2:=QhU (ls:=ls) (i+1);have:=HL.out;unfold Qh5 at h1 h2;omega
     have aS:=Qh aG;clear hc e' aG;generalize ls.getD i []=l' at *;generalize (ls.take i).flatten=l at *;have i0:(0:Int)<=(i:Int):=by omega
     have i1:(i:Int)<(ls.length:Int):=by omega
     go_wp2_with (at_builtin;go_must (refine Qd6 (E:=eP) rfl (.tmp 31) (.tmp 32) _ rfl Tryz.underlying144 w.heap.size _ _ l l' rfl hS aA.size rfl aD aO ?_);intro v' w2 aQ aP aU aM)
     refine⟨⟨i+1,by go_num,by omega,by rw[aS.out];exact aQ,ButS.below aA aP aA.size (fun g hg=>(hS.lt g hg).1)⟩,by simp[intOf];omega⟩
    ·obtain rfl:i=ls.length:=by omega
     go_wp2_with fail;go_ret
     rw[List.take_length] at hS;exact⟨_,rfl,hS,aA⟩
