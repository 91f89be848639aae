/-
  nat.cmp.
-/
import Derived.WalkKit
import Derived.WalkSpells
import Derived.WalkLawsBesides
import Derived.Lib.Hide
import Derived.BigQuiet
import Derived.Deep.QuietTactic
import Derived.Test.YteidokhjmbihlaaGreatProg
import Derived.Test.YteidokhjmbihlaaGreatQ0
set_option linter.all false
set_option maxRecDepth 100000
set_option maxHeartbeats 2000000
namespace Go.Proofs.YteidokhjmbihlaaGreat
theorem nzz {p q:Prop} [Decidable p] (h:decide p=false:=by rfl):p->q:=fun e=>absurd e (of_decide_eq_false h)
def nv (f:Nat->Nat):Nat->Nat
 | 0=>0
 | n+1=>nv f n+f n*4294967296 ^ n
def Wf (f:Nat->Nat) (n:Nat):Prop:=∀ i,i<n->f i<4294967296
def Can (f:Nat->Nat) (n:Nat):Prop:=n=0\/f (n-1)≠0
def Qq (x:Nat):Nat:=if x=0 then 0 else Nat.log2 x/32+1
def sz (z:Int):Nat:=Qq z.natAbs
def upd (f:Nat->Nat) (i x:Nat):Nat->Nat:=fun j=>if j=i then x else f j
theorem QaZ (f:Nat->Nat) (i x:Nat):upd f i x i=x:=by simp[upd]
theorem QaU (f:Nat->Nat) (i x j:Nat) (h:j≠i):upd f i x j=f j:=by simp[upd,h]
theorem QdE (n:Nat):0<4294967296 ^ n:=Nat.pow_pos (by decide)
theorem Qbg {f g:Nat->Nat}:∀ {n:Nat},(∀ i,i<n->f i=g i)->nv f n=nv g n
 | 0,_=>rfl
 | n + 1, h => by
   have ih:=Qbg (n:=n) (fun i hi=>h i (by omega));simp only[nv,ih,h n (by omega)]
theorem Wf.mono {f:Nat->Nat} {n m:Nat} (h:Wf f n) (hm:m<=n):Wf f m:=fun i hi=>h i (by omega)
theorem Wf.congr {f g:Nat->Nat} {n:Nat} (h:Wf f n) (he:∀ i,i<n->f i=g i):Wf g n:=fun i hi=>he i hi▸h i hi
theorem Qbk {f:Nat->Nat}:∀ {n:Nat},Wf f n->nv f n<4294967296 ^ n
 | 0,_=>by simp[nv]
 | n + 1, h => by
   have ih:=Qbk (n:=n) (h.mono (by omega));have hn:=h n (by omega);have:f n*4294967296 ^ n<=4294967295*4294967296 ^ n:=Nat.mul_le_mul_right _ (by omega);simp only[nv,Nat.pow_succ];omega
theorem QbN {f:Nat->Nat} (i x:Nat):∀ (n:Nat),n<=i->nv (upd f i x) n=nv f n:=by
 intro n hn;exact Qbg (fun j hj=>QaU _ _ _ _ (by omega))
theorem QbR {f:Nat->Nat}:∀ {n:Nat},(∀ i,i<n->f i=0)->nv f n=0
 | 0,_=>rfl
 | n+1,h=>by simp[nv,QbR (n:=n) (fun i hi=>h i (by omega)),h n (by omega)]
theorem Qc8 (f:Nat->Nat) (m:Nat):∀ n,nv f (m+n)=nv f m+4294967296 ^ m*nv (fun i=>f (m+i)) n
 | 0=>by simp[nv]
 | n + 1 => by
   rw[<- Nat.add_assoc,nv,Qc8 f m n,nv,Nat.mul_add,Nat.pow_add];rw[Nat.add_assoc];congr 1
   congr 1
   rw[Nat.mul_left_comm]
theorem QhK (f:Nat->Nat) (n:Nat):nv f (n+1)=f 0+4294967296*nv (fun i=>f (i+1)) n:=by
 rw[Nat.add_comm n 1,Qc8 f 1 n];simp[nv,Nat.add_comm 1]
theorem QbS {f:Nat->Nat} {n i:Nat} (hi:i<n):f i*4294967296 ^ i<=nv f n:=by
 induction n with
 | zero=>omega
 | succ n ih =>
   simp only[nv];by_cases h:i=n
   ·subst h;omega
   ·have:=ih (by omega);omega
theorem YO:Qq 0=0:=rfl
theorem YS {x:Nat} (h:0<x):0<Qq x:=by unfold Qq;rw[if_neg (by omega)];omega
theorem Qef {x:Nat}:Qq x=0↔x=0:=by
 constructor
 ·intro h;rcases Nat.eq_zero_or_pos x with hx|hx
  ·exact hx
  ·have:=YS hx;omega
 ·rintro rfl;rfl
theorem Qi (x:Nat):x<4294967296 ^ Qq x:=by
 unfold Qq;split
 ·subst_vars;decide
 ·rename_i h
  have h1:=Nat.lt_log2_self (n:=x)
  have:4294967296 ^ (Nat.log2 x/32+1)=2 ^ (32*(Nat.log2 x/32+1)):=by
   rw[Nat.pow_mul]
  rw[this];exact Nat.lt_of_lt_of_le h1 (Nat.pow_le_pow_right (by decide) (by omega))
theorem Yh {x:Nat} (h:0<x):4294967296 ^ (Qq x-1)<=x:=by
 unfold Qq;rw[if_neg (by omega),Nat.add_sub_cancel];have:4294967296 ^ (Nat.log2 x/32)=2 ^ (32*(Nat.log2 x/32)):=by rw[Nat.pow_mul]
 rw[this];exact Qt (Nat.pow_le_pow_right (by decide) (by omega)) (Nat.log2_self_le (by omega))
theorem Qf {x n:Nat} (h:x<4294967296 ^ n):Qq x<=n:=by
 rcases Nat.eq_zero_or_pos x with hx|hx
 ·subst hx;simp[YO]
 ·have h1:=Yh hx;have h2:=Nat.lt_of_le_of_lt h1 h;have h3:=(Nat.pow_lt_pow_iff_right (a:=4294967296) (by decide)).1 h2;have:=YS hx;omega
theorem QcD {x n:Nat}:Qq x<=n↔x<4294967296 ^ n:=
 ⟨fun h=>Nat.lt_of_lt_of_le (Qi x) (Nat.pow_le_pow_right (by decide) h),Qf⟩
theorem Qa6 {x y:Nat} (h:x<=y):Qq x<=Qq y:=Qf (Nat.lt_of_le_of_lt h (Qi y))
theorem YU (x y:Nat):Qq (x+y)<=max (Qq x) (Qq y)+1:=by
 apply Qf
 have hx:=Qi x;have hy:=Qi y;have h1:4294967296 ^ Qq x<=4294967296 ^ max (Qq x) (Qq y):=Nat.pow_le_pow_right (by decide) (Nat.le_max_left _ _);have h2:4294967296 ^ Qq y<=4294967296 ^ max (Qq x) (Qq y):=Nat.pow_le_pow_right (by decide) (Nat.le_max_right _ _);rw[Nat.pow_succ];omega
theorem Y6 (x y:Nat):Qq (x*y)<=Qq x+Qq y:=by
 apply Qf
 rw[Nat.pow_add];have hx:=Qi x;have hy:=Qi y;exact Nat.mul_lt_mul'' hx hy
theorem QaV {f:Nat->Nat} {n:Nat} (hw:Wf f n) (hc:Can f n):Qq (nv f n)=n:=by
 apply Nat.le_antisymm (Qf (Qbk hw))
 rcases hc with rfl|hc
 ·omega
 ·rcases Nat.eq_zero_or_pos n with h|h
  ·omega
  ·have h1:=QbS (f:=f) (n:=n) (i:=n-1) (by omega);have h2:1*4294967296 ^ (n-1)<=f (n-1)*4294967296 ^ (n-1):=Nat.mul_le_mul_right _ (by omega);rcases Nat.lt_or_ge (Qq (nv f n)) n with h3|h3
   ·have h4:=(QcD (x:=nv f n) (n:=n-1)).1 (by omega);omega
   ·exact h3
theorem JI (x y:Int):sz (x+y)<=max (sz x) (sz y)+1:=by
 unfold sz;exact Qt (Qa6 (Int.natAbs_add_le x y)) (YU _ _)
theorem QgN (x:Int):sz (-x)=sz x:=by simp[sz]
theorem Qjl (x y:Int):sz (x-y)<=max (sz x) (sz y)+1:=by
 have:=JI x (-y);rw[QgN] at this;simpa [Int.sub_eq_add_neg] using this
theorem QM (x y:Int):sz (x*y)<=sz x+sz y:=by
 unfold sz;rw[Int.natAbs_mul];exact Y6 _ _
open Go.RowKit
def Cl (w:World) (a:Option Addr) (n:Nat) (F:Nat->Value):Prop:=
 n=0\/∃ b off,a=some ⟨b,off,none⟩/\b<w.heap.size/\∀ i,i<n->w.cell? ⟨b,off+i,none⟩=some (F i)
def QiH:Value->Nat | .slice _ k _=>k|_=>0
def wv (f:Nat->Nat):Nat->Value:=fun i=>.int .u32 (f i:Int)
def Wd (w:World) (a:Option Addr) (n:Nat) (f:Nat->Nat):Prop:=Cl w a n (wv f)
def Own (w:World) (g T n:Nat) (F:Nat->Value):Prop:=
 ∃ cur,w.heap[g]? = some (.cells cur T (0,0))/\cur.size=n/\∀ i,i<n->cur[i]? = some (F i)
def Qax (F:Nat->Value) (i:Nat) (v:Value):Nat->Value:=fun j=>if j=i then v else F j
theorem Cl.congr {w:World} {a:Option Addr} {n:Nat} {F G:Nat->Value} (h:Cl w a n F) (e:∀ i,i<n->F i=G i):Cl w a n G:=by
 rcases h with h|⟨b,off,h1,h2,h3⟩
 ·exact .inl h
 ·exact .inr ⟨b,off,h1,h2,fun i hi=>e i hi▸h3 i hi⟩
theorem Cl.mono {w:World} {a:Option Addr} {n m:Nat} {F:Nat->Value} (h:Cl w a n F) (hm:m<=n):Cl w a m F:=by
 rcases h with h|⟨b,off,h1,h2,h3⟩
 ·exact .inl (by omega)
 ·exact .inr ⟨b,off,h1,h2,fun i hi=>h3 i (by omega)⟩
theorem Cl.up {w w':World} {a:Option Addr} {n:Nat} {F:Nat->Value} (h:Cl w a n F) (hb:Below w.heap.size w w'):Cl w' a n F:=by
 rcases h with h|⟨b,off,h1,h2,h3⟩
 ·exact .inl h
 ·exact .inr ⟨b,off,h1,Nat.lt_of_lt_of_le h2 hb.size,fun i hi=>(hb.cell h2).trans (h3 i hi)⟩
theorem Cl.at {w:World} {a:Option Addr} {n:Nat} {F:Nat->Value} (h:Cl w a n F) {i:Nat} (hi:i<n) :
  ∃ b off,a=some ⟨b,off,none⟩/\b<w.heap.size/\∀ i,i<n->w.cell? ⟨b,off+i,none⟩=some (F i):=by
 rcases h with h|h
 ·omega
 ·exact h
theorem Wd.up {w w':World} {a:Option Addr} {n:Nat} {f:Nat->Nat} (h:Wd w a n f) (hb:Below w.heap.size w w'):Wd w' a n f:=Cl.up h hb
theorem Wd.mono {w:World} {a:Option Addr} {n m:Nat} {f:Nat->Nat} (h:Wd w a n f) (hm:m<=n):Wd w a m f:=Cl.mono h hm
theorem Wd.nil (w:World) (a:Option Addr) (f:Nat->Nat):Wd w a 0 f:=.inl rfl
theorem Wd.at {w:World} {a:Option Addr} {n:Nat} {f:Nat->Nat} (h:Wd w a n f) {i:Nat} (hi:i<n) :
  ∃ b off,a=some ⟨b,off,none⟩/\b<w.heap.size/\∀ i,i<n->w.cell? ⟨b,off+i,none⟩=some (.int .u32 (f i:Int)):=Cl.at h hi
theorem Wd.congr {w:World} {a:Option Addr} {n:Nat} {f g:Nat->Nat} (h:Wd w a n f) (e:∀ i,i<n->f i=g i):Wd w a n g:=
 Cl.congr h (fun i hi=>by simp[wv,e i hi])
theorem Own.lt {w:World} {g T n:Nat} {F:Nat->Value} (h:Own w g T n F):g<w.heap.size:=by
 obtain⟨aA,h1,_⟩:=h;exact(Ql h1).1
theorem Own.cell {w:World} {g T n:Nat} {F:Nat->Value} (h:Own w g T n F) {i:Nat} (hi:i<n):w.cell? ⟨g,i,none⟩=some (F i):=by
 obtain⟨aA,h1,h2,h3⟩:=h;simp[World.cell?,h1,h3 i hi]
theorem Own.free {w:World} {g T n:Nat} {F:Nat->Value} (h:Own w g T n F) (i:Nat):w.frozen? ⟨g,i,none⟩=false:=by
 obtain⟨aA,h1,h2,h3⟩:=h;simp[World.frozen?,h1]
theorem Own.cl {w:World} {g T n:Nat} {F:Nat->Value} (h:Own w g T n F):Cl w (some ⟨g,0,none⟩) n F:=
 .inr ⟨g,0,rfl,h.lt,fun i hi=>by rw[Nat.zero_add];exact h.cell hi⟩
theorem Own.wd {w:World} {g T n:Nat} {f:Nat->Nat} (h:Own w g T n (wv f)):Wd w (some ⟨g,0,none⟩) n f:=h.cl
theorem Own.congr {w:World} {g T n:Nat} {F G:Nat->Value} (h:Own w g T n F) (e:∀ i,i<n->F i=G i):Own w g T n G:=by
 obtain⟨aA,h1,h2,h3⟩:=h;exact⟨aA,h1,h2,fun i hi=>e i hi▸h3 i hi⟩
theorem Own.block {w w':World} {g T n:Nat} {F:Nat->Value} (h:Own w g T n F) (e:w'.heap[g]? = w.heap[g]?):Own w' g T n F:=by
 obtain⟨aA,h1,h2,h3⟩:=h;exact⟨aA,e.trans h1,h2,h3⟩
theorem Own.up {w w':World} {g T n:Nat} {F:Nat->Value} (h:Own w g T n F) (hb:Below w.heap.size w w'):Own w' g T n F:=h.block (hb.block g h.lt)
theorem Own.set {w:World} {g T n:Nat} {F:Nat->Value} (h:Own w g T n F) {i:Nat} (hi:i<n) (v:Value):Own (w.setCell ⟨g,i,none⟩ v) g T n (Qax F i v):=by
 obtain⟨aA,h1,h2,h3⟩:=h;refine⟨aA.setIfInBounds i v,?_,by simpa using h2,?_⟩
 ·simp[World.setCell,Array.getElem?_modify,h1]
 ·intro j hj;by_cases e:i=j
  ·subst e;simp[Qax,h2,hi]
  ·have:¬ j=i:=fun h=>e h.symm;simp[Qax,e,this,h3 j hj]
theorem Own.setw {w:World} {g T n:Nat} {f:Nat->Nat} (h:Own w g T n (wv f)) {i:Nat} (hi:i<n) (x:Nat):Own (w.setCell ⟨g,i,none⟩ (.int .u32 (x:Int))) g T n (wv (upd f i x)):=
 (h.set hi _).congr (fun j hj=>by unfold Qax wv upd;split <;> rfl)
theorem Own.drew {w:World} {g T n:Nat} {F:Nat->Value} (h:Own w g T n F):Own w.drew g T n F:=h
theorem Own.alloc {w:World} {g T n:Nat} {F:Nat->Value} (h:Own w g T n F) (o:Obj):Own (w.alloc o) g T n F:=
 h.block (by rw[Below.heap_alloc _ _ _ h.lt])
theorem Own.other {w:World} {g T n:Nat} {F:Nat->Value} (h:Own w g T n F) {a:Addr} (ha:a.block≠g) (v:Value):Own (w.setCell a v) g T n F:=
 h.block (Below.heap_setCell _ _ _ _ (fun e=>ha e.symm))
theorem Own.lit (w:World) (cs:Array Value) (T n:Nat) (F:Nat->Value) (hn:cs.size=n) (h:∀ i,i<n->cs[i]? = some (F i)):Own (w.alloc (.cells cs T)) w.heap.size T n F:=
 ⟨cs,Zk1 w _,hn,h⟩
theorem Own.made (w:World) (T n:Nat) (z:Value) (hz:z.cells = #[z]):Own (w.alloc (.cells (madeCells z.cells n) T)) w.heap.size T n (fun _=>z):=by
 refine Own.lit _ _ _ _ _ (size_madeCells _ _) (fun i hi=>?_);simp only[madeCells,hz];rw[Array.getElem?_map];simp[hi,Nat.mod_one]
theorem Own.zeros (w:World) (T n:Nat):Own (w.alloc (.cells (madeCells #[.int .u32 0] n) T)) w.heap.size T n (wv fun _=>0):=
 (Own.made w T n (.int .u32 0) rfl).congr (fun _ _=>rfl)
theorem QaS {w w':World} (h:Below w.heap.size w w') {b:Nat} (hb:b<w.heap.size) (o:Nat):w'.cell? ⟨b,o,none⟩=w.cell? ⟨b,o,none⟩:=h.cell (p:=⟨b,o,none⟩) hb
theorem Below.step {w w':World} {B:Nat} {a:World} (h:Below B a w) (hB:B<=w.heap.size) (h':Below w.heap.size w w'):Below B a w':=h.trans (h'.mono hB)
def Only (g:Nat) (w w':World):Prop:=(∀ b,b≠g->w'.heap[b]? = w.heap[b]?)/\(∀ B w0,Below B w0 w->B<=g->Below B w0 w')/\w'.heap.size=w.heap.size
theorem Only.refl (g:Nat) (w:World):Only g w w:=⟨fun _ _=>rfl,fun _ _ h _=>h,rfl⟩
theorem Only.set {g:Nat} {w w':World} (h:Only g w w') (i:Nat) (v:Value):Only g w (w'.setCell ⟨g,i,none⟩ v):=
 ⟨fun b hb=>(Below.heap_setCell _ _ _ _ hb).trans (h.1 b hb),fun B w0 hw hB=>(h.2.1 B w0 hw hB).setCell hB _,by rw[World.size_setCell];exact h.2.2⟩
theorem Only.drewN {g:Nat} {w w':World} (h:Only g w w') (n:Nat):Only g w (w'.drewN n):=
 ⟨h.1,fun B w0 hw hB=>⟨(h.2.1 B w0 hw hB).os,(h.2.1 B w0 hw hB).tape,(h.2.1 B w0 hw hB).output,(h.2.1 B w0 hw hB).size,(h.2.1 B w0 hw hB).block⟩,h.2.2⟩
theorem Only.trans {g:Nat} {a b c:World} (h:Only g a b) (h':Only g b c):Only g a c:=
 ⟨fun k hk=>(h'.1 k hk).trans (h.1 k hk),fun B w0 hw hB=>h'.2.1 B w0 (h.2.1 B w0 hw hB) hB,h'.2.2.trans h.2.2⟩
theorem Only.cell {g:Nat} {w w':World} (h:Only g w w') {b o:Nat} (hb:b≠g):w'.cell? ⟨b,o,none⟩=w.cell? ⟨b,o,none⟩:=World.cell?_of_block (w:=w) (h.1 b hb)
theorem Only.own {g:Nat} {w w':World} (h:Only g w w') {b T n:Nat} {F:Nat->Value} (hO:Own w b T n F) (hb:b≠g):Own w' b T n F:=hO.block (h.1 b hb)
def lst (n:Nat) (F:Nat->Value):List Value:=(List.range n).map F
theorem Qbp (n:Nat) (F:Nat->Value):(lst n F).length=n:=by simp[lst]
theorem Yw (n:Nat) (F:Nat->Value) (i:Nat) (hi:i<n):(lst n F)[i]? = some (F i):=by simp[lst,hi]
theorem Qf3 {n:Nat} {F:Nat->Value} {i:Nat} {v:Value} (h:(lst n F)[i]? = some v):i<n/\v=F i:=by
 simp only[lst,List.getElem?_map] at h;rcases Nat.lt_or_ge i n with hi|hi
 ·simp[hi] at h;exact⟨hi,h.symm⟩
 ·simp[hi] at h
theorem Qeg (n:Nat):Nat.min n n=n:=Nat.min_self n
theorem Qfx (b o j:Nat):(⟨b,o,none⟩:Addr).add j=⟨b,o+j,none⟩:=by unfold Addr.add;split <;> simp_all
theorem QbH {P:Program} (w:World) (dT sT ty elem S g dLen dCap:Nat) (sp:Option Addr) (sLen sCap T tot:Nat) (F G:Nat->Value)
  (hu:P.underlying dT=some (.slice elem)) (hs:(P.info? elem).map (·.size)=some S) (hO:Own w g T tot F) (hfit:Nat.min sLen dLen*S<=tot)
  (hG:Cl w sp (Nat.min sLen dLen*S) G) (h1:∀ i,i<Nat.min sLen dLen*S->(G i).oneCell'=true) :
  ∃ w',(Builtin.copy_ #[dT,sT] ty #[.slice (some ⟨g,0,none⟩) dLen dCap,.slice sp sLen sCap]).run P w=.ok (goInt (Nat.min sLen dLen)) w' /\
   Own w' g T tot (fun i=>if i<Nat.min sLen dLen*S then G i else F i)/\(∀ k,k≠g->w'.heap[k]? = w.heap[k]?)/\w'.heap.size=w.heap.size /\
   (∀ B w0,Below B w0 w->B<=g->Below B w0 w'):=by
 cases hq:P.info? elem with
 | none=>simp[hq] at hs
 | some i =>
   have hi:i.size=S:=by simpa [hq] using hs
   rcases hG with h0|⟨b,off,rfl,hb,hc⟩
   ·refine⟨w,?_,hO.congr (fun j _=>by rw[if_neg (by omega)]),fun _ _=>rfl,rfl,fun _ _ h _=>h⟩
    cases sp with
    | none=>simp[Builtin.copy_,run_underlying hu,Builtin.lenOf,Builtin.firstCells,sizeOf,typeInfo,hq,storeCells]
    | some a =>
      have hz:sLen.min dLen*i.size=0:=by rw[hi];exact h0
      simp[Builtin.copy_,run_underlying hu,Builtin.lenOf,Builtin.firstCells,sizeOf,typeInfo,hq,hz,loadCells,loadCellsFrom,storeCells]
   ·obtain⟨aA,hg,aC,hF⟩:=hO
    have hl:=run_loadCells_list (P:=P) w ⟨b,off,none⟩ (lst (Nat.min sLen dLen*S) G) (fun j v hv=>by
     obtain⟨hj,rfl⟩:=Qf3 hv;rw[Qfx];exact hc j hj)
    rw[Qbp] at hl
    have aB:=run_storeCells_at P g 0 T (lst (Nat.min sLen dLen*S) G) 0 aA w hg (by rw[Qbp];omega) (fun v hv=>by
     simp only[lst,List.mem_map,List.mem_range] at hv;obtain⟨j,hj,rfl⟩:=hv;exact h1 j hj)
    simp only[Nat.zero_add,List.take_zero,List.nil_append,Qbp] at aB;refine⟨w.setRow g (lst (Nat.min sLen dLen*S) G++List.drop (Nat.min sLen dLen*S) aA.toList).toArray,?_,⟨_,setRow_heap w g aA _ T _ hg,?_,?_⟩,fun k hk=>setRow_other w g k _ hk,size_setRow _ _ _,fun B w0 hb hB=>?_⟩
    ·simp[Builtin.copy_,run_underlying hu,Builtin.lenOf,Builtin.firstCells,sizeOf,typeInfo,hq,hi,hl,aB]
    ·simp[Qbp];omega
    ·intro j hj;simp only[List.getElem?_toArray];by_cases h:j<Nat.min sLen dLen*S
     ·rw[List.getElem?_append_left (by rw[Qbp];exact h),Yw _ _ _ h,if_pos h]
     ·rw[List.getElem?_append_right (by rw[Qbp];omega),if_neg h,Qbp,List.getElem?_drop,<- Array.getElem?_toList.symm];rw[show Nat.min sLen dLen*S+(j-Nat.min sLen dLen*S)=j by omega];exact hF j hj
    ·exact hb.trans ⟨rfl,rfl,rfl,by simp,fun k hk=>setRow_other w g k _ (by omega)⟩
def Nt (w:World) (v:Value) (x:Nat):Prop:=
 ∃ a n cap f,v=.slice a n cap/\n<=cap/\Wd w a n f/\Wf f n/\Can f n/\nv f n=x
def It (w:World) (v:Value) (z:Int):Prop:=
 ∃ a n cap f,v=.agg #[.bool (decide (z<0)),.slice a n cap]/\n<=cap/\Wd w a n f/\Wf f n/\Can f n/\nv f n=z.natAbs
theorem Nt.up {w w':World} {v:Value} {x:Nat} (h:Nt w v x) (hb:Below w.heap.size w w'):Nt w' v x:=by
 obtain⟨a,n,aA,f,h1,h2,h3,h4⟩:=h;exact⟨a,n,aA,f,h1,h2,h3.up hb,h4⟩
theorem It.up {w w':World} {v:Value} {x:Int} (h:It w v x) (hb:Below w.heap.size w w'):It w' v x:=by
 obtain⟨a,n,aA,f,h1,h2,h3,h4⟩:=h;exact⟨a,n,aA,f,h1,h2,h3.up hb,h4⟩
def tr (f:Nat->Nat):Nat->Nat
 | 0=>0
 | n+1=>if f n=0 then tr f n else n+1
theorem Qhj (f:Nat->Nat):∀ n,tr f n<=n
 | 0=>Nat.le_refl _
 | n+1=>by unfold tr;split;exact Qt (Qhj f n) (Nat.le_succ n);exact Nat.le_refl _
theorem Qe5 (f:Nat->Nat):∀ n,nv f (tr f n)=nv f n
 | 0=>rfl
 | n + 1 => by
   unfold tr;split
   ·rename_i h;rw[Qe5 f n];simp[nv,h]
   ·rfl
theorem QfR (f:Nat->Nat):∀ n,Can f (tr f n)
 | 0=>.inl rfl
 | n + 1 => by
   unfold tr;split
   ·exact QfR f n
   ·rename_i h;exact .inr h
theorem QcK (a:Option Addr) (n cap:Nat) (f:Nat->Nat) (w:World) (hn:n<=cap) (hN:n<=4611686018427387904) (hw:Wd w a n f) (hf:Wf f n) :
  Calls Tryz.prog 167 #[.slice a n cap] w fun e w'=>e=.returned (.slice a (tr f n) cap)/\w=w':=by
 go_enter Tryz.func167,Tryz.ntmps167
 go_wp2
 go_loop [0] (fun v=>∃ k:Nat,k<=n/\v=.slice a k cap/\tr f k=tr f n) (fun v=>QiH v)
 case atStart=>exact⟨n,Nat.le_refl _,rfl,rfl⟩
 case round=>
  obtain⟨k,hk,rfl,ht⟩:=hrel;have HT:=Qh ht;clear ht;rcases k with _|k
  ·go_wp2
   go_ret
   have ht:=HT.out;simp only[tr] at ht;exact⟨by rw[<- ht];rfl,rfl⟩
  ·obtain⟨b,aA,rfl,hb,hc⟩:=hw.at (i:=k) (by omega);have aC:=hc k (by omega);have aB:=hf k (by omega);go_wp2
   ·have h0:((f k:Int) == 0)=true:=by assumption
    have h1:f k=0:=by simpa using h0
    go_round
    case rel=>exact⟨k,by omega,rfl,by have ht:=HT.out;rw[tr,if_pos h1] at ht;exact ht⟩
    case measure=>simp[QiH]
   ·have h0:((f k:Int) == 0)=false:=by assumption
    have h1:¬ f k=0:=by simpa using h0
    have ht:=HT.out;rw[tr,if_neg h1] at ht;go_ret
    exact⟨by rw[<- ht];rfl,rfl⟩
theorem QcM {w:World} {a:Option Addr} {n cap:Nat} {f:Nat->Nat} (hn:n<=cap) (hw:Wd w a n f) (hf:Wf f n) :
  Nt w (.slice a (tr f n) cap) (nv f n):=by
 have aA:=Qhj f n;exact⟨a,tr f n,cap,f,rfl,by omega,hw.mono aA,hf.mono aA,QfR f n,Qe5 f n⟩
theorem Qb5 (a:Option Addr) (n cap:Nat) (f:Nat->Nat) (w:World) (hn:n<=cap) (hN:n<=4611686018427387904) (hw:Wd w a n f) (hf:Wf f n) :
  Calls Tryz.prog 167 #[.slice a n cap] w fun e w'=>∃ v,e=.returned v/\Nt w v (nv f n)/\w=w':=
 (QcK a n cap f w hn hN hw hf).mono fun e w' ⟨he,hw'⟩=>⟨_,he,QcM hn hw hf,hw'⟩
theorem Qa2 {v v':Value} (h:v=v'):Ending.returned v=Ending.returned v':=by rw[h]
theorem Qjz {P:Program} {f:FuncId} {args:Array Value} {w:World} {n:Nat} {v:Value}
  (h:Calls P f args (w.drewN n) fun e w'=>e=.returned v/\w.drewN n=w'):Calls P f args (w.drewN n) fun e w''=>e=.returned v/\∃ m,w''=w.drewN m:=
 h.mono fun _ _ ⟨he,hm⟩=>⟨he,n,hm.symm⟩
theorem Below.drewN {B:Nat} {a w:World} (h:Below B a w) (n:Nat):Below B a (w.drewN n):=⟨h.os,h.tape,h.output,h.size,h.block⟩
theorem Qgr:(Tryz.prog.info? 139).map (fun i=>(i.zero,i.size,i.bytes))=some (some (.int .u32 0),1,4):=by kernel_rfl
theorem Qcl (z:Int) (k:Nat) (hz:z=k) (hk:k<=4398046511104) (w:World) :
  (Instr.makeSlice 176 (.int .i64 z) (.int .i64 z)).run Tryz.prog w=.ok (.slice (some ⟨w.heap.size,0,none⟩) k k) (w.alloc (.cells (madeCells #[.int .u32 0] k) 139)):=by
 subst hz;obtain⟨i0,hi,aC,aB,aA⟩:=info_parts Qgr;have h:=run_make (P:=Tryz.prog) w 176 139 i0 (.int .u32 0) Tryz.underlying176 hi aC .i64 .i64 (k:Int) (k:Int) (by omega) (Int.le_refl _) (by rw[aA];omega) (by omega);simpa [aB,Value.cells] using h
theorem QbZ (x y c:Int) (w:World) (hx:0<=x) (hx2:x<4294967296) (hy:0<=y) (hy2:y<4294967296) (hc:0<=c) (hc2:c<=1) :
  Calls Tryz.prog 224 #[.int .u32 x,.int .u32 y,.int .u32 c] w fun e w'=>∃ r q:Nat,e=.returned (.tuple #[.int .u32 r,.int .u32 q])/\r<4294967296/\q<=1/\(r:Int)+q*4294967296=x+y+c/\w=w':=by
 go_enter Tryz.func224,Tryz.ntmps224
 go_wp2
 go_ret2
 refine⟨((x+y+c)%4294967296).toNat,((x+y+c)/4294967296).toNat,?_,by omega,by omega,by omega,rfl⟩;rw[Int.toNat_of_nonneg (by omega),Int.toNat_of_nonneg (by omega)];rfl
theorem QhP (X Y C D:Nat) (hX:X<4294967296) (hY:Y<4294967296) (hC:C<=1) (hD:((X:Int)-Y-C)%4294967296=D) :
  ∃ q:Nat,bits BinOp.or IntKind.u32 (bits BinOp.and IntKind.u32 (bits BinOp.xor IntKind.u32 IntKind.u32.max (X:Int)) (Y:Int))
    (bits BinOp.and IntKind.u32 (bits BinOp.xor IntKind.u32 IntKind.u32.max (bits BinOp.xor IntKind.u32 (X:Int) (Y:Int))) (D:Int))/2147483648=(q:Int) /\
   q<=1/\(D:Int)=(X:Int)-Y-C+q*4294967296:=by
 have hm:IntKind.u32.max=((4294967295:Nat):Int):=rfl;have aB:D<4294967296:=by omega
 rw[hm,u32_xor_nat _ _ (by decide) hX,u32_xor_nat _ _ hX hY];have x1:(4294967295 ^^^ X)<4294967296:=Nat.xor_lt_two_pow (n:=32) (by decide) hX;have x2:(X ^^^ Y)<4294967296:=Nat.xor_lt_two_pow (n:=32) hX hY;have x3:(4294967295 ^^^ (X ^^^ Y))<4294967296:=Nat.xor_lt_two_pow (n:=32) (by decide) x2;rw[u32_and_nat _ _ x1 hY,u32_xor_nat _ _ (by decide) x2,u32_and_nat _ _ x3 aB];have a1:((4294967295 ^^^ X) &&& Y)<4294967296:=Nat.and_lt_two_pow (n:=32) _ hY;have a2:((4294967295 ^^^ (X ^^^ Y)) &&& D)<4294967296:=Nat.and_lt_two_pow (n:=32) _ aB;rw[u32_or_nat _ _ a1 a2];have o1:(((4294967295 ^^^ X) &&& Y) ||| ((4294967295 ^^^ (X ^^^ Y)) &&& D))<4294967296:=Nat.or_lt_two_pow (n:=32) a1 a2;generalize hV:(((4294967295 ^^^ X) &&& Y) ||| ((4294967295 ^^^ (X ^^^ Y)) &&& D))=V at *
 have aA:∀ n:Nat,n<4294967296->n.testBit 31=decide (2147483648<=n):=by
  intro n hn;rw[Nat.testBit_eq_decide_div_mod_eq];congr 1
  apply propext
  show n/2147483648%2=1↔_
  omega
 have tV:V.testBit 31=((!X.testBit 31 && Y.testBit 31) || (!(Bool.xor (X.testBit 31) (Y.testBit 31)) && D.testBit 31)):=by
  rw[<- hV];simp only[Nat.testBit_or,Nat.testBit_and,Nat.testBit_xor];rw[show Nat.testBit 4294967295 31=true from rfl];simp
 rw[aA V o1,aA X hX,aA Y hY,aA D aB] at tV;refine⟨V/2147483648,rfl,by omega,?_⟩;by_cases h1:2147483648<=X <;> by_cases h2:2147483648<=Y <;> by_cases h3:2147483648<=D <;> simp[h1,h2,h3] at tV <;> omega
theorem Qct (x y c:Int) (w:World) (hx:0<=x) (hx2:x<4294967296) (hy:0<=y) (hy2:y<4294967296) (hc:0<=c) (hc2:c<=1) :
  Calls Tryz.prog 225 #[.int .u32 x,.int .u32 y,.int .u32 c] w fun e w'=>∃ r q:Nat,e=.returned (.tuple #[.int .u32 r,.int .u32 q])/\r<4294967296/\q<=1/\(r:Int)=x-y-c+q*4294967296/\w=w':=by
 go_enter Tryz.func225,Tryz.ntmps225
 go_wp2
 go_ret2
 obtain⟨X,rfl⟩:=Int.eq_ofNat_of_zero_le hx;obtain⟨Y,rfl⟩:=Int.eq_ofNat_of_zero_le hy;obtain⟨C,rfl⟩:=Int.eq_ofNat_of_zero_le hc;obtain⟨D,hD⟩:∃ D:Nat,((X:Int)-Y-C)%4294967296=D:=⟨(((X:Int)-Y-C)%4294967296).toNat,by omega⟩;have hq:=QhP X Y C D (by omega) (by omega) (by omega) hD;obtain⟨q,aC,aB,aA⟩:=hq;refine⟨D,q,?_,by omega,aB,aA,rfl⟩;apply Qa2
 simp only[Array.getD_eq_getD_getElem?,List.getElem?_toArray,List.getElem?_cons_succ,List.getElem?_cons_zero,Option.getD_some,hD];rw[<- aC]
theorem Qeb (hi lo:Int) (h0:0<=hi) (h1:hi<4294967296) (h2:0<=lo) (h3:lo<4294967296):bits BinOp.or IntKind.u64 (hi*4294967296) lo=hi*4294967296+lo:=by
 obtain⟨H,rfl⟩:=Int.eq_ofNat_of_zero_le h0;obtain⟨L,rfl⟩:=Int.eq_ofNat_of_zero_le h2;have e:(H:Int)*4294967296=((2 ^ 32*H:Nat):Int):=by omega
 rw[e,u64_or_nat _ _ (by omega) (by omega),<- Nat.two_pow_add_eq_or_of_lt (show L<2 ^ 32 by omega)];omega
theorem Qhi (hi lo y:Int) (w:World) (hx:0<=hi) (hx2:hi<y) (hy:0<=lo) (hy2:lo<4294967296) (hc:0<y) (hc2:y<4294967296) :
  Calls Tryz.prog 237 #[.int .u32 hi,.int .u32 lo,.int .u32 y] w fun e w'=>e=.returned (.tuple #[.int .u32 ((hi*4294967296+lo)/y),.int .u32 ((hi*4294967296+lo)%y)])/\∃ m,w'=w.drewN m:=by
 have h1:(y != 0)=true:=by rw[bne_iff_ne];omega
 have h2:decide (y<=hi)=false:=by simp;omega
 have aD:bits BinOp.or IntKind.u64 (hi*4294967296) lo=hi*4294967296+lo:=Qeb hi lo hx (by omega) hy hy2;have aE:hi*4294967296+lo<y*4294967296:=by omega
 have hq:(hi*4294967296+lo)/y<4294967296:=Int.ediv_lt_of_lt_mul hc (by omega);have aC:0<=(hi*4294967296+lo)/y:=Int.ediv_nonneg (by omega) (by omega);have aB:0<=(hi*4294967296+lo)%y:=Int.emod_nonneg _ (by omega);have aA:(hi*4294967296+lo)%y<y:=Int.emod_lt_of_pos _ hc;go_enter Tryz.func237,Tryz.ntmps237
 go_wp2
 go_quiet (fail)
 go_wp2
 go_ret2
 exact⟨rfl,_,rfl⟩
theorem QgL (x:Int) (w:World):Calls Tryz.prog 195 #[.int .i64 x] w fun e w'=>e=.returned (.bool false)/\w=w':=by
 go_enter Tryz.func195,Tryz.ntmps195
 go_wp2
 go_ret
 exact⟨by simp,rfl⟩
theorem Qhw (x:Int) (w:World):Calls Tryz.prog 223 #[.int .u32 x] w fun e w'=>e=.returned (.bool false)/\w=w':=by
 go_enter Tryz.func223,Tryz.ntmps223
 go_wp2
 go_ret
 exact⟨by simp,rfl⟩
def QaW (x y:Int):Int:=if x<y then -1 else if y<x then 1 else 0
theorem QbK (x y:Int) (w:World):Calls Tryz.prog 161 #[.int .i64 x,.int .i64 y] w fun e w'=>e=.returned (.int .i64 (QaW x y))/\w=w':=by
 go_enter Tryz.func161,Tryz.ntmps161
 go_wp2_with (first|(go_at_call 195;refine(QgL _ _).mono ?_;rintro e w' ⟨rfl,rfl⟩))
 ·go_ret;exact⟨Qa2 (by simp only[QaW];rw[if_pos (by assumption)];rfl),rfl⟩
 ·go_ret;exact⟨Qa2 (by simp only[QaW];rw[if_neg (by omega),if_pos (by assumption)];rfl),rfl⟩
 ·go_ret;exact⟨Qa2 (by simp only[QaW];rw[if_neg (by omega),if_neg (by omega)];rfl),rfl⟩
theorem QeW (x y:Int) (w:World):Calls Tryz.prog 196 #[.int .u32 x,.int .u32 y] w fun e w'=>e=.returned (.int .i64 (QaW x y))/\w=w':=by
 go_enter Tryz.func196,Tryz.ntmps196
 go_wp2_with (first|(go_at_call 223;refine(Qhw _ _).mono ?_;rintro e w' ⟨rfl,rfl⟩))
 ·go_ret;exact⟨Qa2 (by simp only[QaW];rw[if_pos (by assumption)];rfl),rfl⟩
 ·go_ret;exact⟨Qa2 (by simp only[QaW];rw[if_neg (by omega),if_pos (by assumption)];rfl),rfl⟩
 ·go_ret;exact⟨Qa2 (by simp only[QaW];rw[if_neg (by omega),if_neg (by omega)];rfl),rfl⟩
theorem Qjh (f:Nat->Nat) (i x:Nat):∀ {n:Nat},i<n->nv (upd f i x) n+f i*4294967296 ^ i=nv f n+x*4294967296 ^ i
 | 0,h=>absurd h (by omega)
 | n + 1, h => by
   by_cases e:i=n
   ·subst e;simp only[nv,QbN _ _ _ (Nat.le_refl _),QaZ];omega
   ·have ih:=Qjh f i x (n:=n) (by omega);simp only[nv,QaU _ _ _ _ (show n≠i by omega)];omega
theorem Wf.upd {f:Nat->Nat} {n:Nat} (h:Wf f n) (i x:Nat) (hx:x<4294967296):Wf (upd f i x) n:=by
 intro j hj;unfold Proofs.YteidokhjmbihlaaGreat.upd;split
 ·exact hx
 ·exact h j hj
theorem QfF (o0 o f h:Nat->Nat) (i k m c:Nat) (hkm:k<m)
  (e:nv o (i+m)+c*4294967296 ^ (i+k)=nv o0 (i+m)+f i*nv h k*4294967296 ^ i) :
  nv (upd o (i+k) ((f i*h k+o (i+k)+c)%4294967296)) (i+m)+(f i*h k+o (i+k)+c)/4294967296*4294967296 ^ (i+(k+1))=nv o0 (i+m)+f i*nv h (k+1)*4294967296 ^ i:=by
 have hs:=Qjh o (i+k) ((f i*h k+o (i+k)+c)%4294967296) (n:=i+m) (by omega);have hd:=Nat.div_add_mod (f i*h k+o (i+k)+c) 4294967296;generalize (f i*h k+o (i+k)+c)/4294967296=q at *;generalize (f i*h k+o (i+k)+c)%4294967296=r at *;have hp:4294967296 ^ (i+(k+1))=4294967296*4294967296 ^ (i+k):=by rw[<- Nat.add_assoc,Nat.pow_succ,Nat.mul_comm]
 have hq:4294967296 ^ (i+k)=4294967296 ^ k*4294967296 ^ i:=by rw[Nat.add_comm,Nat.pow_add]
 rw[hp,nv];have e1:(f i*h k+o (i+k)+c)*4294967296 ^ (i+k)=(4294967296*q+r)*4294967296 ^ (i+k):=by rw[hd]
 have e2:f i*(nv h k+h k*4294967296 ^ k)*4294967296 ^ i=f i*nv h k*4294967296 ^ i+f i*h k*4294967296 ^ (i+k):=by
  rw[hq,Nat.mul_add,Nat.add_mul];congr 1;simp only[Nat.mul_assoc]
 rw[e2];simp only[Nat.add_mul] at e1;have e3:q*(4294967296*4294967296 ^ (i+k))=4294967296*q*4294967296 ^ (i+k):=by simp only[Nat.mul_assoc,Nat.mul_left_comm]
 rw[e3];omega
theorem Qej (o f h:Nat->Nat) (i m c:Nat)
  (e:nv o (i+m)+c*4294967296 ^ (i+m)=nv f i*nv h m+f i*nv h m*4294967296 ^ i) :
  nv (upd o (i+m) c) (i+1+m)=nv f (i+1)*nv h m:=by
 rw[show i+1+m=i+m+1 by omega];simp only[nv,QaZ,QbN _ _ _ (Nat.le_refl _)];rw[e,Nat.add_mul];simp only[Nat.mul_assoc,Nat.mul_comm (nv h m)]
theorem Qb4 (x y z c:Nat) (hx:x<4294967296) (hy:y<4294967296) (hz:z<4294967296) (hc:c<4294967296):x*y+z+c<18446744073709551616:=by
 have:x*y<=4294967295*4294967295:=Nat.mul_le_mul (by omega) (by omega);omega
theorem Qf7 (a b:Option Addr) (n m ca cb:Nat) (f g:Nat->Nat) (w:World) (hca:n<=ca) (hcb:m<=cb) (hn:n<=2199023255552) (hm:m<=2199023255552)
  (hwf:Wd w a n f) (hwh:Wd w b m g) (hf:Wf f n) (hh:Wf g m) :
  Calls Tryz.prog 117 #[.slice a n ca,.slice b m cb] w fun e w'=>∃ v,e=.returned v/\Nt w' v (nv f n*nv g m)/\Below w.heap.size w w':=by
 have aZ:=Qcl (n+m:Int) (n+m) (by omega) (by omega);go_enter Tryz.func117,Tryz.ntmps117
 go_wp2_with fail
 go_loopw [20] (fun s wr=>∃ (i:Nat) (o:Nat->Nat),i<=n/\s=.int .i64 i/\Own wr w.heap.size 139 (n+m) (wv o)/\Wf o (n+m)/\nv o (i+m)=nv f i*nv g m/\Below w.heap.size w wr)
  (fun s _=>n-(intOf s).toNat)
 case atStart=>
  refine⟨0,fun _=>0,Nat.zero_le _,rfl,Own.zeros w _ _,fun _ _=>Nat.zero_lt_succ _,?_,(Below.refl _ _).alloc (Nat.le_refl _) _⟩;rw[QbR (fun _ _=>rfl)];simp[nv]
 case round=>
  obtain⟨i,o,hi,rfl,aC,aM,aE,aL⟩:=hrel;have HV:=Qh aE;clear aE;by_cases hlt:i<n
  ·obtain⟨ba,aG,rfl,aY,aK⟩:=hwf.at hlt;have a2:=(aL.cell (p:=⟨ba,aG+i,none⟩) aY).trans (aK i hlt);have aV:=hf i hlt;go_wp2_with fail
   go_loopw [8,27] (fun c s wq=>∃ (k cn:Nat) (o':Nat->Nat),k<=m/\s=.int .i64 k/\c=.int .u64 cn/\cn<4294967296/\Own wq w.heap.size 139 (n+m) (wv o')/\Wf o' (n+m) /\
     nv o' (i+m)+cn*4294967296 ^ (i+k)=nv o (i+m)+f i*nv g k*4294967296 ^ i/\Below w.heap.size w wq)
    (fun _ s _=>m-(intOf s).toNat)
   case atStart=>exact⟨0,0,o,Nat.zero_le _,rfl,rfl,by decide,aC,aM,by simp[nv],aL⟩
   case round=>
    obtain⟨k,cn,o',hk,rfl,rfl,aI,aA,aB,aO,aD⟩:=hrel;have aQ:=Qh aO;clear aO;by_cases hkm:k<m
    ·obtain⟨bb,aF,rfl,aX,aJ⟩:=hwh.at hkm;have a1:=(aD.cell (p:=⟨bb,aF+k,none⟩) aX).trans (aJ k hkm);have aP:=aA.cell (i:=i+k) (by omega);have aU:=aA.free (i+k);have aT:=hh k hkm;have aR:=aB (i+k) (by omega);have a3:=Qb4 (f i) (g k) (o' (i+k)) cn aV aT aR aI;unfold wv at aP;go_wp2_with fail;go_roundw
     case rel=>
      refine⟨k+1,(f i*g k+o' (i+k)+cn)/4294967296,upd o' (i+k) ((f i*g k+o' (i+k)+cn)%4294967296),by omega,by go_num,?_,by omega,aA.setw (by omega) _,aB.upd _ _ (by omega),QfF o o' f g i k m cn hkm aQ.out,aD.setCell (Nat.le_refl _) _⟩;congr 1
     case measure=>simp[intOf];omega
    ·have aH:k=m:=by omega
     subst aH;have aP:=aA.cell (i:=i+k) (by omega);have aU:=aA.free (i+k);have aW:=aI;go_wp2_with fail;go_roundw
     case rel=>
      refine⟨i+1,upd o' (i+k) cn,by omega,by go_num,?_,aB.upd _ _ aI,?_,aD.setCell (Nat.le_refl _) _⟩
      ·have:=aA.setw (i:=i+k) (by omega) cn;exact this
      ·exact Qej o' f g i k cn (by rw[aQ.out,HV.out])
     case measure=>simp[intOf];omega
  ·have aS:i=n:=by omega
   subst aS;have a0:=aC.lt;go_wp2_with fail;refine(Qb5 _ _ _ o _ (Nat.le_refl _) (by omega) aC.wd aM).mono ?_;rintro e w' ⟨v,rfl,hv,rfl⟩;go_wp2_with fail;go_ret
   exact⟨v,rfl,by rw[<- HV.out];exact hv,aL⟩
def pad (f:Nat->Nat) (n:Nat):Nat->Nat:=fun j=>if j<n then f j else 0
theorem Qdb {f:Nat->Nat} {n j:Nat} (h:j<n):pad f n j=f j:=by simp[pad,h]
theorem Qdo {f:Nat->Nat} {n j:Nat} (h:n<=j):pad f n j=0:=by simp[pad];omega
theorem Qbr {f:Nat->Nat} {n:Nat} (h:Wf f n) (m:Nat):Wf (pad f n) m:=by
 intro j _;unfold pad;split
 ·exact h j (by assumption)
 ·omega
theorem QbL (f:Nat->Nat) (n:Nat):∀ m,n<=m->nv (pad f n) m=nv f n:=by
 intro m h;obtain⟨k,rfl⟩:=Nat.exists_eq_add_of_le h;rw[Qc8,QbR (n:=k) (fun i _=>Qdo (by omega)),Nat.mul_zero,Nat.add_zero];exact Qbg (fun i hi=>Qdb hi)
theorem Qc0 (f:Nat->Nat) (n j:Nat):(if j<n*1 then wv f j else wv (fun _=>0) j)=wv (pad f n) j:=by
 unfold wv pad;split
 ·rw[if_pos (by omega)]
 ·rw[if_neg (by omega)]
theorem Qcr (o f h:Nat->Nat) (i c r q:Nat) (hc:r+q*4294967296=f i+h i+c) (e:nv o i+c*4294967296 ^ i=nv f i+nv h i) :
  nv (upd o i r) (i+1)+q*4294967296 ^ (i+1)=nv f (i+1)+nv h (i+1):=by
 simp only[nv,QaZ,QbN _ _ _ (Nat.le_refl _),Nat.pow_succ];have e1:(r+q*4294967296)*4294967296 ^ i=(f i+h i+c)*4294967296 ^ i:=by rw[hc]
 simp only[Nat.add_mul] at e1;have e2:q*(4294967296 ^ i*4294967296)=q*4294967296*4294967296 ^ i:=by rw[Nat.mul_assoc,Nat.mul_comm 4294967296]
 rw[e2];omega
theorem QhO (o f h:Nat->Nat) (n m c:Nat) (hf:Wf f n) (hh:Wf h m) (hm:m<=n)
  (e:nv o (n+1)+c*4294967296 ^ (n+1)=nv (pad f n) (n+1)+nv (pad h m) (n+1)):nv o (n+1)=nv f n+nv h m:=by
 rw[QbL _ _ _ (Nat.le_succ n),QbL _ _ _ (by omega)] at e;have h1:=Qbk hf;have h2:=Qbk hh;have h3:4294967296 ^ m<=4294967296 ^ n:=Nat.pow_le_pow_right (by decide) hm;rcases Nat.eq_zero_or_pos c with h0|h0
 ·subst h0;omega
 ·have h4:1*4294967296 ^ (n+1)<=c*4294967296 ^ (n+1):=Nat.mul_le_mul_right _ h0;rw[Nat.pow_succ] at *;omega
theorem QcJ (o f h:Nat->Nat) (i c r q:Nat) (hc:(r:Int)=f i-h i-c+q*4294967296) (e:nv o i+nv h i+c*1*0=nv f i+c*4294967296 ^ i) :
  nv (upd o i r) (i+1)+nv h (i+1)+q*1*0=nv f (i+1)+q*4294967296 ^ (i+1):=by
 simp only[nv,QaZ,QbN _ _ _ (Nat.le_refl _),Nat.pow_succ];have aA:r+h i+c=f i+q*4294967296:=by omega
 have e1:(r+h i+c)*4294967296 ^ i=(f i+q*4294967296)*4294967296 ^ i:=by rw[aA]
 simp only[Nat.add_mul] at e1;have e2:q*(4294967296 ^ i*4294967296)=q*4294967296*4294967296 ^ i:=by rw[Nat.mul_assoc,Nat.mul_comm 4294967296]
 rw[e2];omega
theorem Qhz (o f h:Nat->Nat) (n m c:Nat) (hc:c<=1) (ho:Wf o n) (hf:Wf f n) (hm:m<=n) (hle:nv h m<=nv f n)
  (e:nv o n+nv (pad h m) n+c*1*0=nv (pad f n) n+c*4294967296 ^ n):nv o n=nv f n-nv h m:=by
 rw[QbL _ _ _ (Nat.le_refl n),QbL _ _ _ hm] at e;have h1:=Qbk ho;rcases Nat.eq_zero_or_pos c with h0|h0
 ·subst h0;omega
 ·obtain rfl:c=1:=by omega
  omega
theorem Qib:(Tryz.prog.info? 139).map (·.size)=some 1:=by kernel_rfl
theorem Qb9 (n:Nat):Nat.min n (n+1)=n:=Nat.min_eq_left (Nat.le_succ n)
theorem QgE (a b:Option Addr) (n m ca cb:Nat) (f h:Nat->Nat) (w:World) (hca:n<=ca) (hcb:m<=cb) (hn:n<=2199023255552) (hm:m<=2199023255552)
  (hwf:Wd w a n f) (hwh:Wd w b m h) (Hf:Wf f n) (Hh:Wf h m) :
  Calls Tryz.prog 197 #[.slice a n ca,.slice b m cb] w fun e w'=>∃ v,e=.returned v/\Nt w' v (nv f n+nv h m)/\Below w.heap.size w w':=by
 by_cases hnm:n<m
 ·have aS:=Qcl (m+1:Int) (m+1) (by omega) (by omega);obtain⟨w1,aV,aA,_,aI,aE⟩:=QbH (P:=Tryz.prog) (w.alloc (.cells (madeCells #[.int .u32 0] (m+1)) 139)) 176 176 3 139 1 w.heap.size (m+1) (m+1) b m cb 139 (m+1) _ (wv h) Tryz.underlying176 Qib (Own.zeros w _ _) (by rw[Qb9];omega) (by rw[Qb9,Nat.mul_one];exact Cl.up hwh ((Below.refl _ _).alloc (Nat.le_refl _) _)) (fun _ _=>rfl);rw[Qb9] at aA;have aQ:Below w.heap.size w w1:=aE _ _ ((Below.refl _ _).alloc (Nat.le_refl _) _) (Nat.le_refl _);replace aA:=aA.congr (fun j _=>Qc0 h m j);clear aE aI;go_enter Tryz.func197,Tryz.ntmps197
  go_wp2_with fail
  go_loopw [6,25] (fun c s wr=>∃ (i cn:Nat) (o:Nat->Nat),i<=m+1/\s=.int .i64 i/\c=.int .u32 cn/\cn<=1/\Own wr w.heap.size 139 (m+1) (wv o)/\Wf o (m+1)/\(∀ j,i<=j->o j=pad h m j) /\
    nv o i+cn*4294967296 ^ i=nv (pad h m) i+nv (pad f n) i/\Below w.heap.size w wr)
   (fun _ s _=>m+1-(intOf s).toNat)
  case atStart=>exact⟨0,0,pad h m,Nat.zero_le _,rfl,rfl,Nat.zero_le _,aA,Qbr Hh _,fun _ _=>rfl,by simp[nv],aQ⟩
  case round=>
   obtain⟨i,cn,o,hi,rfl,rfl,aW,aB,aF,aH,aC,aG⟩:=hrel;have HV:=Qh aC;clear aC aA;have aJ:=aH i (Nat.le_refl _);have HT:=Qh aH;clear aH;by_cases hlt:i<m+1
   ·have aO:=aB.cell hlt;have aU:=aB.free i;have aR:=aF i hlt;have aM:=Qh aJ;clear aJ;unfold wv at aO;by_cases hlm:i<n
    ·obtain⟨bs,os,rfl,aP,aL⟩:=hwf.at hlm;have aX:=(aG.cell (p:=⟨bs,os+i,none⟩) aP).trans (aL i hlm);have aT:=Hf i hlm;clear aL;go_wp2_with (first|(go_at_call 224;refine(QbZ _ _ _ _ (by omega) (by omega) (by omega) (by omega) (by omega) (by omega)).mono ?_;rintro e w' ⟨r,q,rfl,hr,hq,aD,rfl⟩;have aK:=Qh aD;clear aD))
     go_roundw
     case rel=>
      refine⟨i+1,q,upd o i r,by omega,by go_num,rfl,hq,aB.setw hlt r,aF.upd _ _ hr,?_,?_,aG.setCell (Nat.le_refl _) _⟩
      ·intro j hj;rw[QaU _ _ _ _ (by omega)];exact HT.out j (by omega)
      ·refine Qcr o _ _ i cn r q ?_ HV.out;have h1:=aK.out;have h2:=aM.out;rw[Qdb (f:=f) (n:=n) hlm,<- h2];omega
     case measure=>simp[intOf];omega
    ·go_wp2_with (first|(go_at_call 224;refine(QbZ _ _ _ _ (by omega) (by omega) (by omega) (by omega) (by omega) (by omega)).mono ?_;rintro e w' ⟨r,q,rfl,hr,hq,aD,rfl⟩;have aK:=Qh aD;clear aD))
     go_roundw
     case rel=>
      refine⟨i+1,q,upd o i r,by omega,by go_num,rfl,hq,aB.setw hlt r,aF.upd _ _ hr,?_,?_,aG.setCell (Nat.le_refl _) _⟩
      ·intro j hj;rw[QaU _ _ _ _ (by omega)];exact HT.out j (by omega)
      ·refine Qcr o _ _ i cn r q ?_ HV.out;have h1:=aK.out;have h2:=aM.out;rw[Qdo (f:=f) (n:=n) (by omega),<- h2];omega
     case measure=>simp[intOf];omega
   ·obtain rfl:i=m+1:=by omega
    clear aJ;go_wp2_with fail;refine(Qb5 _ _ _ o _ (Nat.le_refl _) (by omega) aB.wd aF).mono ?_;rintro e w' ⟨v,rfl,hv,rfl⟩;go_wp2_with fail;go_ret
    exact⟨v,rfl,by rw[Nat.add_comm,<- QhO o h f m n cn Hh Hf (by omega) HV.out];exact hv,aG⟩
 ·have aS:=Qcl (n+1:Int) (n+1) (by omega) (by omega);obtain⟨w1,aV,aA,_,aI,aE⟩:=QbH (P:=Tryz.prog) (w.alloc (.cells (madeCells #[.int .u32 0] (n+1)) 139)) 176 176 3 139 1 w.heap.size (n+1) (n+1) a n ca 139 (n+1) _ (wv f) Tryz.underlying176 Qib (Own.zeros w _ _) (by rw[Qb9];omega) (by rw[Qb9,Nat.mul_one];exact Cl.up hwf ((Below.refl _ _).alloc (Nat.le_refl _) _)) (fun _ _=>rfl);rw[Qb9] at aA;have aQ:Below w.heap.size w w1:=aE _ _ ((Below.refl _ _).alloc (Nat.le_refl _) _) (Nat.le_refl _);replace aA:=aA.congr (fun j _=>Qc0 f n j);clear aE aI;go_enter Tryz.func197,Tryz.ntmps197
  go_wp2_with fail
  go_loopw [6,25] (fun c s wr=>∃ (i cn:Nat) (o:Nat->Nat),i<=n+1/\s=.int .i64 i/\c=.int .u32 cn/\cn<=1/\Own wr w.heap.size 139 (n+1) (wv o)/\Wf o (n+1)/\(∀ j,i<=j->o j=pad f n j) /\
    nv o i+cn*4294967296 ^ i=nv (pad f n) i+nv (pad h m) i/\Below w.heap.size w wr)
   (fun _ s _=>n+1-(intOf s).toNat)
  case atStart=>exact⟨0,0,pad f n,Nat.zero_le _,rfl,rfl,Nat.zero_le _,aA,Qbr Hf _,fun _ _=>rfl,by simp[nv],aQ⟩
  case round=>
   obtain⟨i,cn,o,hi,rfl,rfl,aW,aB,aF,aH,aC,aG⟩:=hrel;have HV:=Qh aC;clear aC aA;have aJ:=aH i (Nat.le_refl _);have HT:=Qh aH;clear aH;by_cases hlt:i<n+1
   ·have aO:=aB.cell hlt;have aU:=aB.free i;have aR:=aF i hlt;have aM:=Qh aJ;clear aJ;unfold wv at aO;by_cases hlm:i<m
    ·obtain⟨bs,os,rfl,aP,aL⟩:=hwh.at hlm;have aX:=(aG.cell (p:=⟨bs,os+i,none⟩) aP).trans (aL i hlm);have aT:=Hh i hlm;clear aL;go_wp2_with (first|(go_at_call 224;refine(QbZ _ _ _ _ (by omega) (by omega) (by omega) (by omega) (by omega) (by omega)).mono ?_;rintro e w' ⟨r,q,rfl,hr,hq,aD,rfl⟩;have aK:=Qh aD;clear aD))
     go_roundw
     case rel=>
      refine⟨i+1,q,upd o i r,by omega,by go_num,rfl,hq,aB.setw hlt r,aF.upd _ _ hr,?_,?_,aG.setCell (Nat.le_refl _) _⟩
      ·intro j hj;rw[QaU _ _ _ _ (by omega)];exact HT.out j (by omega)
      ·refine Qcr o _ _ i cn r q ?_ HV.out;have h1:=aK.out;have h2:=aM.out;rw[Qdb (f:=h) (n:=m) hlm,<- h2];omega
     case measure=>simp[intOf];omega
    ·go_wp2_with (first|(go_at_call 224;refine(QbZ _ _ _ _ (by omega) (by omega) (by omega) (by omega) (by omega) (by omega)).mono ?_;rintro e w' ⟨r,q,rfl,hr,hq,aD,rfl⟩;have aK:=Qh aD;clear aD))
     go_roundw
     case rel=>
      refine⟨i+1,q,upd o i r,by omega,by go_num,rfl,hq,aB.setw hlt r,aF.upd _ _ hr,?_,?_,aG.setCell (Nat.le_refl _) _⟩
      ·intro j hj;rw[QaU _ _ _ _ (by omega)];exact HT.out j (by omega)
      ·refine Qcr o _ _ i cn r q ?_ HV.out;have h1:=aK.out;have h2:=aM.out;rw[Qdo (f:=h) (n:=m) (by omega),<- h2];omega
     case measure=>simp[intOf];omega
   ·obtain rfl:i=n+1:=by omega
    clear aJ;go_wp2_with fail;refine(Qb5 _ _ _ o _ (Nat.le_refl _) (by omega) aB.wd aF).mono ?_;rintro e w' ⟨v,rfl,hv,rfl⟩;go_wp2_with fail;go_ret
    exact⟨v,rfl,by rw[<- QhO o f h n m cn Hf Hh (by omega) HV.out];exact hv,aG⟩
theorem Qgx (a b r:Nat) (ha:a<2 ^ r) (hb:2 ^ r*b<4294967296) (hr:r<32):bits BinOp.or IntKind.u32 (a:Int) ((2 ^ r*b:Nat):Int)=((a+2 ^ r*b:Nat):Int):=by
 have h1:2 ^ r<=2 ^ 32:=Nat.pow_le_pow_right (by decide) (by omega);have aA:a<4294967296:=Nat.lt_of_lt_of_le ha h1;rw[u32_or_nat _ _ aA hb,Nat.or_comm,<- Nat.two_pow_add_eq_or_of_lt ha,Nat.add_comm]
theorem QiM (x a r:Nat) (hx:x<4294967296) (ha:a<2 ^ r) (hr:r<32) :
  bits BinOp.or IntKind.u32 (a:Int) (IntKind.u64.wrap ((x:Int)*2 ^ r)%4294967296)=((a+x*2 ^ r%4294967296:Nat):Int) /\
  IntKind.u64.wrap ((x:Int)*2 ^ r)/4294967296%4294967296=((x*2 ^ r/4294967296:Nat):Int)/\x*2 ^ r/4294967296<2 ^ r/\a+x*2 ^ r%4294967296<4294967296/\x*2 ^ r/4294967296<4294967296:=by
 have e0:(x:Int)*2 ^ r=((x*2 ^ r:Nat):Int):=by simp
 have aD:2 ^ r<=2147483648:=Nat.pow_le_pow_right (n:=2) (by decide) (show r<=31 by omega);have hp:0<2 ^ r:=Nat.pow_pos (by decide);have hb:x*2 ^ r<=4294967295*2147483648:=Nat.mul_le_mul (by omega) aD
 have aC:x*2 ^ r%4294967296=2 ^ r*(x%2 ^ (32-r)):=by
  have:4294967296=2 ^ r*2 ^ (32-r):=by rw[<- Nat.pow_add,show r+(32-r)=32 by omega]
  rw[this,Nat.mul_comm x,Nat.mul_mod_mul_left]
 have hm:x%2 ^ (32-r)+1<=2 ^ (32-r):=Nat.mod_lt _ (Nat.pow_pos (by decide));have aB:2 ^ r*(x%2 ^ (32-r)+1)<=2 ^ r*2 ^ (32-r):=Nat.mul_le_mul_left _ hm;rw[<- Nat.pow_add,show r+(32-r)=32 by omega,Nat.mul_add,Nat.mul_one] at aB
 have aA:x*2 ^ r/4294967296<2 ^ r:=by
  apply Nat.div_lt_of_lt_mul
  exact Nat.mul_lt_mul_of_pos_right hx hp
 rw[e0,IntWalk.u64_in _ (by omega)];refine⟨?_,by omega,aA,by omega,by omega⟩;have e1:((x*2 ^ r:Nat):Int)%4294967296=((x*2 ^ r%4294967296:Nat):Int):=by omega
 rw[e1,aC];exact Qgx a _ r ha (by omega) hr
theorem Qie (o f:Nat->Nat) (i d r A B:Nat) (hA:A=o (i+d)+f i*2 ^ r%4294967296) (hB:B=f i*2 ^ r/4294967296)
  (e:nv o (i+d+1)=nv f i*2 ^ (32*d+r)):nv (upd (upd o (i+d) A) (i+d+1) B) (i+1+d+1)=nv f (i+1)*2 ^ (32*d+r):=by
 rw[show i+1+d+1=i+d+1+1 by omega];simp only[nv,QaZ,QbN _ _ _ (Nat.le_refl _),QbN _ _ _ (Nat.le_succ _),QaU _ _ _ _ (show i+d≠i+d+1 by omega)] at e |-;have hd:=Nat.div_add_mod (f i*2 ^ r) 4294967296;have hp:2 ^ (32*d+r)=4294967296 ^ d*2 ^ r:=by rw[Nat.pow_add,Nat.pow_mul]
 have hq:4294967296 ^ (i+d)=4294967296 ^ i*4294967296 ^ d:=Nat.pow_add _ _ _
 have e1:(nv f i+f i*4294967296 ^ i)*2 ^ (32*d+r)=nv f i*2 ^ (32*d+r)+f i*2 ^ r*4294967296 ^ (i+d):=by
  rw[Nat.add_mul,hp,hq];congr 1;simp only[Nat.mul_assoc,Nat.mul_comm,Nat.mul_left_comm]
 generalize f i*2 ^ r/4294967296=q at *;generalize f i*2 ^ r%4294967296=m at *;rw[e1,<- e,hA,hB,<- hd,Nat.pow_succ];simp only[Nat.add_mul];have e2:q*(4294967296 ^ (i+d)*4294967296)=4294967296*q*4294967296 ^ (i+d):=by simp only[Nat.mul_assoc,Nat.mul_comm,Nat.mul_left_comm]
 rw[e2];omega
theorem Qcz (a:Option Addr) (n ca s:Nat) (f:Nat->Nat) (w:World) (hca:n<=ca) (hn:n<=2199023255552) (hs:s<=35184372088832)
  (hwf:Wd w a n f) (Hf:Wf f n) :
  Calls Tryz.prog 220 #[.slice a n ca,.int .i64 s] w fun e w'=>∃ v,e=.returned v/\Nt w' v (nv f n*2 ^ s)/\Below w.heap.size w w':=by
 have aP:=Qcl ((n:Int)+(s:Int)/32+1) (n+s/32+1) (by omega) (by omega);go_enter Tryz.func220,Tryz.ntmps220
 go_wp2_with fail
 go_loopw [18] (fun c wr=>∃ (i:Nat) (o:Nat->Nat),i<=n/\c=.int .i64 i/\Own wr w.heap.size 139 (n+s/32+1) (wv o)/\Wf o (n+s/32+1)/\(∀ j,i+s/32<j->o j=0)/\o (i+s/32)<2 ^ (s%32) /\
   nv o (i+s/32+1)=nv f i*2 ^ s/\Below w.heap.size w wr)
  (fun c _=>n-(intOf c).toNat)
 case atStart=>
  refine⟨0,fun _=>0,Nat.zero_le _,rfl,Own.zeros w _ _,fun _ _=>Nat.zero_lt_succ _,fun _ _=>rfl,Nat.pow_pos (by decide),?_,(Below.refl _ _).alloc (Nat.le_refl _) _⟩;rw[QbR (fun _ _=>rfl)];simp[nv]
 case round=>
  obtain⟨i,o,hi,rfl,aA,aF,hz,aJ,aB,aE⟩:=hrel;have HV:=Qh aB;have HZ:=Qh hz;clear aB hz;by_cases hlt:i<n
  ·obtain⟨ba,aC,rfl,aO,aD⟩:=hwf.at hlt;have aS:=(aE.cell (p:=⟨ba,aC+i,none⟩) aO).trans (aD i hlt);have aK:=Hf i hlt;have aM:=aA.cell (i:=i+s/32) (by omega);have aL:=aA.cell (i:=i+s/32+1) (by omega);have aR:=aA.free (i+s/32);have aQ:=aA.free (i+s/32+1);unfold wv at aM aL;have aI:s%32<32:=by omega
   obtain⟨q1,q2,q3,q4,q5⟩:=QiM (f i) (o (i+s/32)) (s%32) aK aJ aI;have Q1:=Qh q1;have Q2:=Qh q2;clear q1 q2;have aG:2 ^ s=2 ^ (32*(s/32)+s%32):=by rw[Nat.div_add_mod]
   have aH:=Qh aG;clear aG;go_wp2_with fail;go_roundw
   case rel=>
    rw[Q1.out,Q2.out];refine⟨i+1,upd (upd o (i+s/32) (o (i+s/32)+f i*2 ^ (s%32)%4294967296)) (i+s/32+1) (f i*2 ^ (s%32)/4294967296),by omega,by go_num,(aA.setw (by omega) _).setw (by omega) _,(aF.upd _ _ q4).upd _ _ q5,?_,?_,?_,(aE.setCell (Nat.le_refl _) _).setCell (Nat.le_refl _) _⟩
    ·intro j hj;rw[QaU _ _ _ _ (by omega),QaU _ _ _ _ (by omega)];exact HZ.out j (by omega)
    ·rw[show i+1+s/32=i+s/32+1 by omega,QaZ];exact q3
    ·rw[aH.out];exact Qie o f i (s/32) (s%32) _ _ rfl rfl (by rw[<- aH.out];exact HV.out)
   case measure=>simp[intOf];omega
  ·obtain rfl:i=n:=by omega
   go_wp2_with fail;refine(Qb5 _ _ _ o _ (Nat.le_refl _) (by omega) aA.wd aF).mono ?_;rintro e w' ⟨v,rfl,hv,rfl⟩;go_wp2_with fail;go_ret
   exact⟨v,rfl,by rw[<- HV.out];exact hv,aE⟩
def hv (f:Nat->Nat) (k n:Nat):Nat:=nv (fun i=>f (k+i)) (n-k)
theorem Qff (f:Nat->Nat) (n:Nat):hv f 0 n=nv f n:=by simp[hv]
theorem Qfd (f:Nat->Nat) (n:Nat):hv f n n=0:=by simp[hv,nv]
theorem Qcy (f:Nat->Nat) (k n:Nat) (h:k<n):hv f k n=f k+4294967296*hv f (k+1) n:=by
 unfold hv;rw[show n-k=n-(k+1)+1 by omega,QhK];simp only[Nat.add_zero];congr 2
 exact Qbg (fun i _=>by rw[show k+1+i=k+(i+1) by omega])
theorem QdR {f g:Nat->Nat} {k n:Nat} (h:∀ j,k<=j->j<n->f j=g j):hv f k n=hv g k n:=
 Qbg (fun i hi=>h (k+i) (by omega) (by omega))
theorem Qcs (f:Nat->Nat) (k n:Nat) (h:k<=n):nv f n=nv f k+4294967296 ^ k*hv f k n:=by
 have:=Qc8 f k (n-k);rw[show k+(n-k)=n by omega] at this;exact this
theorem QcY (f:Nat->Nat) (i n s:Nat) (hi:i<n) (Hf:Wf f n) (hs:s<32) :
  nv f n/2 ^ s/4294967296 ^ i%4294967296=(f i+4294967296*(if i+1<n then f (i+1) else 0))/2 ^ s%4294967296:=by
 have h1:=Qbk (Hf.mono (m:=i) (by omega))
 have e:nv f n/4294967296 ^ i=hv f i n:=by
  rw[Qcs f i n (by omega),Nat.add_mul_div_left _ _ (QdE i),Nat.div_eq_of_lt h1,Nat.zero_add]
 rw[Nat.div_div_eq_div_mul,Nat.mul_comm,<- Nat.div_div_eq_div_mul,e,Qcy f i n hi]
 have aA:∀ a b:Nat,(a+4294967296*(4294967296*b))/2 ^ s%4294967296=a/2 ^ s%4294967296:=by
  intro a b
  have:4294967296*(4294967296*b)=2 ^ s*(4294967296*(2 ^ (32-s)*b)):=by
   have:4294967296=2 ^ s*2 ^ (32-s):=by rw[<- Nat.pow_add,show s+(32-s)=32 by omega]
   rw[show 4294967296*(4294967296*b)=4294967296*((2 ^ s*2 ^ (32-s))*b) by rw[<- this]];simp only[Nat.mul_assoc,Nat.mul_comm,Nat.mul_left_comm]
  rw[this,Nat.add_mul_div_left _ _ (Nat.pow_pos (by decide)),Nat.add_mul_mod_self_left]
 by_cases h:i+1<n
 ·rw[if_pos h,Qcy f (i+1) n h,Nat.mul_add,<- Nat.add_assoc,aA]
 ·rw[if_neg h];have:i+1=n:=by omega
  rw[this,Qfd]
theorem Qci (X i:Nat) (o:Nat->Nat) (e:nv o i=X%4294967296 ^ i) (r:Nat) (hr:r=X/4294967296 ^ i%4294967296):nv (upd o i r) (i+1)=X%4294967296 ^ (i+1):=by
 simp only[nv,QaZ,QbN _ _ _ (Nat.le_refl _)];rw[e,hr,Nat.pow_succ,Nat.mod_mul,Nat.mul_comm]
theorem QfH (x s:Nat):(x:Int)/2 ^ s%4294967296=((x/2 ^ s%4294967296:Nat):Int):=by
 have h:(2:Int) ^ s=((2 ^ s:Nat):Int):=(Int.natCast_pow 2 s).symm;rw[h,<- Int.natCast_ediv];omega
theorem Qg5 (r x d:Nat):((r:Int)*4294967296+x)/d=(((r*4294967296+x)/d:Nat):Int):=by
 rw[Int.natCast_ediv];congr 1
theorem QhW (r x d:Nat):((r:Int)*4294967296+x)%d=(((r*4294967296+x)%d:Nat):Int):=by
 rw[Int.natCast_emod];congr 1
theorem Qif (x y s:Nat) (hx:x<4294967296) (hy:y<4294967296) :
  bits BinOp.or IntKind.u64 (x:Int) ((y:Int)*4294967296)/2 ^ s%4294967296=(((x+4294967296*y)/2 ^ s%4294967296:Nat):Int):=by
 have e:(y:Int)*4294967296=((2 ^ 32*y:Nat):Int):=by omega
 rw[e,u64_or_nat _ _ (by omega) (by omega),Nat.or_comm,<- Nat.two_pow_add_eq_or_of_lt (show x<2 ^ 32 by omega),Nat.add_comm (2 ^ 32*y)];exact QfH (x+2 ^ 32*y) s
theorem QgJ (x s:Nat):(x:Int)/2 ^ s%4294967296=(((x+4294967296*0)/2 ^ s%4294967296:Nat):Int):=by
 exact QfH x s
theorem Qge (a:Option Addr) (n ca s:Nat) (f:Nat->Nat) (w:World) (hca:n<=ca) (hn:n<=2199023255552) (hs:s<32)
  (hwf:Wd w a n f) (Hf:Wf f n) :
  Calls Tryz.prog 233 #[.slice a n ca,.int .i64 s] w fun e w'=>∃ v,e=.returned v/\Nt w' v (nv f n/2 ^ s)/\Below w.heap.size w w':=by
 have aK:=Qcl (n:Int) n rfl (by omega);go_enter Tryz.func233,Tryz.ntmps233
 go_wp2_with fail
 go_loopw [13] (fun c wr=>∃ (i:Nat) (o:Nat->Nat),i<=n/\c=.int .i64 i/\Own wr w.heap.size 139 n (wv o)/\Wf o n /\
   nv o i=nv f n/2 ^ s%4294967296 ^ i/\Below w.heap.size w wr)
  (fun c _=>n-(intOf c).toNat)
 case atStart=>exact⟨0,fun _=>0,Nat.zero_le _,rfl,Own.zeros w _ _,fun _ _=>Nat.zero_lt_succ _,by simp[nv,Nat.mod_one],(Below.refl _ _).alloc (Nat.le_refl _) _⟩
 case round=>
  obtain⟨i,o,hi,rfl,aA,aF,aD,aE⟩:=hrel;have HV:=Qh aD;clear aD;by_cases hlt:i<n
  ·obtain⟨ba,aC,rfl,aH,aB⟩:=hwf.at hlt;have aO:=(aE.cell (p:=⟨ba,aC+i,none⟩) aH).trans (aB i hlt);have aI:=Hf i hlt;have aJ:=aA.cell (i:=i) (by omega);have aL:=aA.free i;unfold wv at aJ;by_cases hl2:i+1<n
   ·have aM:=(aE.cell (p:=⟨ba,aC+(i+1),none⟩) aH).trans (aB (i+1) hl2);have aG:=Hf (i+1) hl2;clear aB;have q:=Qif (f i) (f (i+1)) s aI aG;have QQ:=Qh q;clear q;go_wp2_with fail;go_roundw
    case rel=>
     rw[QQ.out];refine⟨i+1,upd o i _,by omega,by go_num,aA.setw hlt _,aF.upd _ _ (Nat.mod_lt _ (by decide)),Qci _ i o HV.out _ ?_,aE.setCell (Nat.le_refl _) _⟩;rw[QcY f i n s hlt Hf hs,if_pos hl2]
    case measure=>simp[intOf];omega
   ·clear aB;have q:=QgJ (f i) s;have QQ:=Qh q;clear q;go_wp2_with fail;go_roundw
    case rel=>
     rw[QQ.out];refine⟨i+1,upd o i _,by omega,by go_num,aA.setw hlt _,aF.upd _ _ (Nat.mod_lt _ (by decide)),Qci _ i o HV.out _ ?_,aE.setCell (Nat.le_refl _) _⟩;rw[QcY f i n s hlt Hf hs,if_neg hl2]
    case measure=>simp[intOf];omega
  ·obtain rfl:i=n:=by omega
   go_wp2_with fail;refine(Qb5 _ _ _ o _ (Nat.le_refl _) (by omega) aA.wd aF).mono ?_;rintro e w' ⟨v,rfl,hv,rfl⟩;go_wp2_with fail;go_ret
   refine⟨v,rfl,?_,aE⟩;have:=HV.out;rw[Nat.mod_eq_of_lt (Nat.lt_of_le_of_lt (Nat.div_le_self _ _) (Qbk Hf))] at this;rw[<- this];exact hv
theorem Qfe (a:Option Addr) (n ca d:Nat) (f:Nat->Nat) (w:World) (hca:n<=ca) (hn:n<=2199023255552) (hd:0<d) (hd2:d<4294967296)
  (hwf:Wd w a n f) (Hf:Wf f n) :
  Calls Tryz.prog 231 #[.slice a n ca,.int .u32 d] w fun e w'=>∃ v,e=.returned (.tuple #[v,.int .u32 ((nv f n%d:Nat):Int)])/\Nt w' v (nv f n/d)/\Below w.heap.size w w':=by
 have aJ:=Qcl (n:Int) n rfl (by omega);go_enter Tryz.func231,Tryz.ntmps231
 go_wp2_with fail
 go_loopw [7,8] (fun r c wr=>∃ (k rn:Nat) (o:Nat->Nat),k<=n/\c=.int .i64 ((k:Int)-1)/\r=.int .u32 rn/\rn<d/\Own wr w.heap.size 139 n (wv o)/\Wf o n /\
   hv f k n=hv o k n*d+rn/\Below w.heap.size w wr)
  (fun _ c _=>(intOf c+1).toNat)
 case atStart=>exact⟨n,0,fun _=>0,Nat.le_refl _,rfl,rfl,hd,Own.zeros w _ _,fun _ _=>Nat.zero_lt_succ _,by simp[Qfd],(Below.refl _ _).alloc (Nat.le_refl _) _⟩
 case round=>
  obtain⟨k,rn,o,hk,rfl,rfl,aE,aA,aG,aB,aF⟩:=hrel;have HV:=Qh aB;clear aB;rcases k with _|k
  ·go_wp2_with fail;refine(Qb5 _ _ _ o _ (Nat.le_refl _) (by omega) aA.wd aG).mono ?_;rintro e w' ⟨v,rfl,hv,rfl⟩;go_wp2_with fail;go_ret2
   have h1:=HV.out;rw[Qff,Qff] at h1;have hq:nv f n/d=nv o n:=by rw[h1,Nat.mul_comm,Nat.mul_add_div hd,Nat.div_eq_of_lt aE,Nat.add_zero]
   have hr:nv f n%d=rn:=by rw[h1,Nat.mul_comm,Nat.mul_add_mod,Nat.mod_eq_of_lt aE]
   exact⟨v,by rw[hr];rfl,by rw[hq];exact hv,aF⟩
  ·obtain⟨ba,aD,rfl,aI,aC⟩:=hwf.at (i:=k) (by omega);have aO:=(aF.cell (p:=⟨ba,aD+k,none⟩) aI).trans (aC k (by omega));have aK:=Hf k (by omega);have aH:=aA.cell (i:=k) (by omega);have aL:=aA.free k;unfold wv at aH;clear aC;rw[show ((k+1:Nat):Int)-1=(k:Int) by omega];have p1:(0:Int)<=(k:Int):=by omega
   have p2:(k:Int)<(n:Int):=by omega
   go_wp2_with (go_at_call 237;refine(Qhi _ _ _ _ (by omega) (by omega) (by omega) (by omega) (by omega) (by omega)).mono ?_;rintro e w' ⟨rfl,nd,rfl⟩)
   go_roundw
   case rel=>
    have e1:((rn:Int)*4294967296+f k)/d=(((rn*4294967296+f k)/d:Nat):Int):=Qg5 _ _ _;have e2:((rn:Int)*4294967296+f k)%d=(((rn*4294967296+f k)%d:Nat):Int):=QhW _ _ _
    have hq:(rn*4294967296+f k)/d<4294967296:=by
     apply Nat.div_lt_of_lt_mul
     have:(rn+1)*4294967296<=d*4294967296:=Nat.mul_le_mul_right _ aE;omega
    rw[e1,e2];refine⟨k,_,upd o k _,by omega,rfl,rfl,Nat.mod_lt _ hd,Own.setw (Own.block aA rfl) (by omega) _,aG.upd _ _ hq,?_,(Below.drewN aF nd).setCell (Nat.le_refl _) _⟩;rw[Qcy f k n (by omega),Qcy _ k n (by omega),HV.out,QaZ,QdR (f:=upd o k _) (g:=o) (fun j a b=>QaU _ _ _ _ (by omega))];have aM:=Nat.div_add_mod (rn*4294967296+f k) d;generalize (rn*4294967296+f k)/d=q at *;generalize (rn*4294967296+f k)%d=r at *;rw[Nat.add_mul,Nat.mul_add,Nat.mul_assoc,Nat.mul_comm q];omega
   case measure=>simp[intOf]
theorem QdD (a b:Option Addr) (n m ca cb:Nat) (f h:Nat->Nat) (w:World) (hca:n<=ca) (hcb:m<=cb) (hn:n<=2199023255552) (hm:m<=n) (hle:nv h m<=nv f n)
  (hwf:Wd w a n f) (hwh:Wd w b m h) (Hf:Wf f n) (Hh:Wf h m) :
  Calls Tryz.prog 198 #[.slice a n ca,.slice b m cb] w fun e w'=>∃ v,e=.returned v/\Nt w' v (nv f n-nv h m)/\Below w.heap.size w w':=by
 have aU:=Qcl (n:Int) n rfl (by omega);obtain⟨w1,aX,aA,_,aI,aF⟩:=QbH (P:=Tryz.prog) (w.alloc (.cells (madeCells #[.int .u32 0] n) 139)) 176 176 3 139 1 w.heap.size n n a n ca 139 n _ (wv f) Tryz.underlying176 Qib (Own.zeros w _ _) (by rw[Qeg];omega) (by rw[Qeg,Nat.mul_one];exact Cl.up hwf ((Below.refl _ _).alloc (Nat.le_refl _) _)) (fun _ _=>rfl);rw[Qeg] at aA;have aR:Below w.heap.size w w1:=aF _ _ ((Below.refl _ _).alloc (Nat.le_refl _) _) (Nat.le_refl _);replace aA:=aA.congr (fun j _=>Qc0 f n j);clear aF aI;have aS:=Qh hle;clear hle;go_enter Tryz.func198,Tryz.ntmps198
 go_wp2_with fail
 go_loopw [6,17] (fun c s wr=>∃ (i cn:Nat) (o:Nat->Nat),i<=n/\s=.int .i64 i/\c=.int .u32 cn/\cn<=1/\Own wr w.heap.size 139 n (wv o)/\Wf o n/\(∀ j,i<=j->o j=pad f n j) /\
   nv o i+nv (pad h m) i+cn*1*0=nv (pad f n) i+cn*4294967296 ^ i/\Below w.heap.size w wr)
  (fun _ s _=>n-(intOf s).toNat)
 case atStart=>exact⟨0,0,pad f n,Nat.zero_le _,rfl,rfl,Nat.zero_le _,aA,Qbr Hf _,fun _ _=>rfl,by simp[nv],aR⟩
 case round=>
  obtain⟨i,cn,o,hi,rfl,rfl,aO,aB,aC,aH,aD,aG⟩:=hrel;have HV:=Qh aD;clear aD aA;have aJ:=aH i (Nat.le_refl _);have HT:=Qh aH;clear aH;by_cases hlt:i<n
  ·have aP:=aB.cell hlt;have aW:=aB.free i;have aT:=aC i hlt;have aM:=Qh aJ;clear aJ;unfold wv at aP;by_cases hlm:i<m
   ·obtain⟨bs,os,rfl,aQ,aL⟩:=hwh.at hlm;have aY:=(aG.cell (p:=⟨bs,os+i,none⟩) aQ).trans (aL i hlm);have aV:=Hh i hlm;clear aL;go_wp2_with (first|(go_at_call 225;refine(Qct _ _ _ _ (by omega) (by omega) (by omega) (by omega) (by omega) (by omega)).mono ?_;rintro e w' ⟨r,q,rfl,hr,hq,aE,rfl⟩;have aK:=Qh aE;clear aE))
    go_roundw
    case rel=>
     refine⟨i+1,q,upd o i r,by omega,by go_num,rfl,hq,aB.setw hlt r,aC.upd _ _ hr,?_,?_,aG.setCell (Nat.le_refl _) _⟩
     ·intro j hj;rw[QaU _ _ _ _ (by omega)];exact HT.out j (by omega)
     ·refine QcJ o _ _ i cn r q ?_ HV.out;have h1:=aK.out;have h2:=aM.out;rw[Qdb (f:=h) (n:=m) hlm,<- h2];omega
    case measure=>simp[intOf];omega
   ·go_wp2_with (first|(go_at_call 225;refine(Qct _ _ _ _ (by omega) (by omega) (by omega) (by omega) (by omega) (by omega)).mono ?_;rintro e w' ⟨r,q,rfl,hr,hq,aE,rfl⟩;have aK:=Qh aE;clear aE))
    go_roundw
    case rel=>
     refine⟨i+1,q,upd o i r,by omega,by go_num,rfl,hq,aB.setw hlt r,aC.upd _ _ hr,?_,?_,aG.setCell (Nat.le_refl _) _⟩
     ·intro j hj;rw[QaU _ _ _ _ (by omega)];exact HT.out j (by omega)
     ·refine QcJ o _ _ i cn r q ?_ HV.out;have h1:=aK.out;have h2:=aM.out;rw[Qdo (f:=h) (n:=m) (by omega),<- h2];omega
    case measure=>simp[intOf];omega
  ·obtain rfl:i=n:=by omega
   clear aJ;go_wp2_with fail;refine(Qb5 _ _ _ o _ (Nat.le_refl _) (by omega) aB.wd aC).mono ?_;rintro e w' ⟨v,rfl,hv,rfl⟩;go_wp2_with fail;go_ret
   exact⟨v,rfl,by rw[<- Qhz o f h i m cn aO aC Hf hm aS.out HV.out];exact hv,aG⟩
theorem Qbb {x y:Int} (h:x<y):QaW x y = -1:=by simp[QaW,h]
theorem Qbc {x y:Int} (h:y<x):QaW x y=1:=by unfold QaW;rw[if_neg (by omega),if_pos h]
theorem Qbx {x y:Int} (h:x=y):QaW x y=0:=by unfold QaW;rw[if_neg (by omega),if_neg (by omega)]
theorem Qa4 {x y:Int}:QaW x y=0↔x=y:=by unfold QaW;split <;> (try split) <;> omega
theorem QbC {f g:Nat->Nat} {n m:Nat} (hf:Wf f n) (hg:Wf g m) (cg:Can g m) (h:n<m):nv f n<nv g m:=by
 have h1:=Qbk hf;rcases cg with cg|cg
 ·omega
 ·have h2:=QbS (f:=g) (n:=m) (i:=m-1) (by omega);have h3:1*4294967296 ^ (m-1)<=g (m-1)*4294967296 ^ (m-1):=Nat.mul_le_mul_right _ (by omega);have h4:4294967296 ^ n<=4294967296 ^ (m-1):=Nat.pow_le_pow_right (by decide) (by omega);omega
theorem Qfc {f g:Nat->Nat} {n k:Nat} (hk:k<=n) (h:∀ j,k<=j->j<n->f j=g j):∃ t,nv f n=nv f k+t/\nv g n=nv g k+t:=by
 obtain⟨d,rfl⟩:=Nat.exists_eq_add_of_le hk;refine⟨4294967296 ^ k*nv (fun i=>f (k+i)) d,Qc8 f k d,?_⟩;rw[Qc8 g k d,Qbg (f:=fun i=>g (k+i)) (g:=fun i=>f (k+i)) (fun i hi=>(h (k+i) (by omega) (by omega)).symm)]
theorem Qem {f g:Nat->Nat} {n k:Nat} (hf:Wf f n) (hg:Wf g n) (hk:k<n) (h:∀ j,k<j->j<n->f j=g j) (hlt:f k<g k):nv f n<nv g n:=by
 obtain⟨t,h1,h2⟩:=Qfc (f:=f) (g:=g) (n:=n) (k:=k+1) hk (fun j a b=>h j a b);have a1:=Qbk (hf.mono (m:=k) (by omega));simp only[nv] at h1 h2;have:(f k+1)*4294967296 ^ k<=g k*4294967296 ^ k:=Nat.mul_le_mul_right _ hlt;rw[Nat.add_mul] at this;omega
theorem Qhd (f g:Nat->Nat) (n k:Nat) (hf:Wf f n) (hg:Wf g n) (hk:k<n) (h:∀ j,k<j->j<n->f j=g j) (hne:QaW (f k:Int) (g k:Int)≠0) :
  QaW (nv f n:Int) (nv g n:Int)=QaW (f k:Int) (g k:Int):=by
 rcases Nat.lt_trichotomy (f k) (g k) with c|c|c
 ·have:=Qem hf hg hk h c;rw[Qbb (by omega),Qbb (by omega)]
 ·exact absurd (Qbx (by omega)) hne
 ·have:=Qem hg hf hk (fun j a b=>(h j a b).symm) c;rw[Qbc (by omega),Qbc (by omega)]
theorem Qbw (a b:Option Addr) (n m ca cb:Nat) (f h:Nat->Nat) (w:World) (hn:n<=4611686018427387904) (hm:m<=4611686018427387904)
  (hwf:Wd w a n f) (hwh:Wd w b m h) (Hf:Wf f n) (Hh:Wf h m) (Cf:Can f n) (Ch:Can h m) :
  Calls Tryz.prog 162 #[.slice a n ca,.slice b m cb] w fun e w'=>e=.returned (.int .i64 (QaW (nv f n) (nv h m)))/\∃ k,w'=w.drewN k:=by
 rcases Nat.lt_trichotomy n m with hnm|hnm|hnm
 ·have aG:=QbC Hf Hh Ch hnm;have h1:QaW (n:Int) (m:Int) = -1:=Qbb (by omega);go_enter Tryz.func162,Tryz.ntmps162
  go_wp2_with (first|(go_at_call 161;refine(QbK _ _ _).mono ?_;rintro e w' ⟨rfl,rfl⟩))
  go_ret
  exact⟨Qa2 (by rw[Qbb (x:=(nv f n:Int)) (by omega)];rfl),0,rfl⟩
 ·subst hnm;have h1:QaW (n:Int) (n:Int)=0:=Qbx rfl;go_enter Tryz.func162,Tryz.ntmps162
  go_wp2_with (first|(go_at_call 161;refine(QbK _ _ _).mono ?_;rintro e w' ⟨rfl,rfl⟩))
  go_loopw [6] (fun s wr=>∃ k q:Nat,k<=n/\s=.int .i64 ((k:Int)-1)/\(∀ j,k<=j->j<n->f j=h j)/\wr=w.drewN q) (fun s _=>(intOf s+1).toNat)
  case atStart=>exact⟨n,0,Nat.le_refl _,rfl,fun j a b=>by omega,rfl⟩
  case round=>
   obtain⟨k,q,hk,rfl,aC,aB⟩:=hrel;have aA:=Qh aB;clear aB;have HE:=Qh aC;clear aC;rcases k with _|k
   ·go_wp2_with fail;go_ret
    exact⟨Qa2 (by rw[Qbx (by rw[Qbg (fun i hi=>HE.out i (Nat.zero_le _) hi)])];rfl),q,aA.out⟩
   ·obtain⟨ba,oa,rfl,aI,aE⟩:=hwf.at (i:=k) (by omega);obtain⟨bb,ob,rfl,aH,aD⟩:=hwh.at (i:=k) (by omega);have c1:wr.cell? ⟨ba,oa+k,none⟩=some (.int .u32 (f k:Int)):=by rw[aA.out];exact aE k (by omega)
    have c2:wr.cell? ⟨bb,ob+k,none⟩=some (.int .u32 (h k:Int)):=by rw[aA.out];exact aD k (by omega)
    have b1:=Hf k (by omega);have b2:=Hh k (by omega);clear aE aD;rw[show ((k+1:Nat):Int)-1=(k:Int) by omega];have p1:(0:Int)<=(k:Int):=by omega
    have p2:(k:Int)<(n:Int):=by omega
    go_wp2_with fail;go_quiet ((go_at_call 196;exact Qjz (QeW _ _ _)))
    by_cases hz:(f k:Int)=(h k:Int)
    ·have aF:(QaW (f k:Int) (h k:Int) != 0)=false:=by rw[Qbx hz];rfl
     have HZ:=Qh hz;clear hz;go_wp2_with fail;go_roundw
     case rel=>
      refine⟨k,q+nq,by omega,rfl,?_,by rw[aA.out,World.drewN_drewN]⟩;intro j a b;by_cases e:j=k
      ·subst e;have:=HZ.out;omega
      ·exact HE.out j (by omega) b
     case measure=>simp[intOf]
    ·have aF:(QaW (f k:Int) (h k:Int) != 0)=true:=by rw[bne_iff_ne];intro e;exact hz (Qa4.1 e)
     go_wp2_with fail;go_ret
     exact⟨Qa2 (by rw[Qhd f h n k Hf Hh (by omega) (fun j a b=>HE.out j (by omega) b) (fun e=>hz (Qa4.1 e))];rfl),q+nq,by rw[aA.out,World.drewN_drewN]⟩
 ·have aG:=QbC Hh Hf Cf hnm;have h1:QaW (n:Int) (m:Int)=1:=Qbc (by omega);go_enter Tryz.func162,Tryz.ntmps162
  go_wp2_with (first|(go_at_call 161;refine(QbK _ _ _).mono ?_;rintro e w' ⟨rfl,rfl⟩))
  go_ret
  exact⟨Qa2 (by rw[Qbc (x:=(nv f n:Int)) (by omega)];rfl),0,rfl⟩
