/-
  What the walk of Make needs.
-/
import Derived.Test.YteidokhjmbihlaaGreatDL
import Derived.Test.YteidokhjmbihlaaGreatDN
import Derived.Test.YteidokhjmbihlaaGreatFQ1
set_option linter.all false
namespace Go.Proofs.YteidokhjmbihlaaGreat
open Go.RowKit
attribute [local go_sem ↓] Go.wp_at_zero Go.wp_at_succ
theorem Sc.n {w:World} {b off:Nat} {l:List Int} (h:Sc J1 w b off l) {i:Nat} (hi:i<l.length):w.cell? ⟨b,off+i,none⟩=some (.int .i64 (l.getD i 0)):=by
 obtain⟨cs,hc,h2⟩:=h i hi;have e:l.getD i 0=l[i]:=by simp[Zk3,Zk4 hi]
 have aB:cs=[.int .i64 l[i]]:=hc;have:=h2 0 (.int .i64 l[i]) (by rw[aB];rfl);have aA:(J1:Elt Int).k=1:=rfl;rw[aA,Nat.mul_one,Nat.add_zero] at this;rw[e];exact this
theorem Qhl (va:Value) (l:List Int) (x:Int) (w:World) (h:Sr J1 w va l) (hl:l.length<=1099511627776) :
  Calls Tryz.prog 137 #[va,.int .i64 x] w fun e w'=>∃ k:Int,e=.returned (.int .i64 k)/\(0<=k↔x∈l)/\w'=w:=by
 obtain⟨aL,cL,rfl,-⟩:=id h;go_enter Tryz.func137,Tryz.ntmps137
 go_wp2_with fail
 go_loopw [5,8] (fun _ s8 wr=>∃ i:Nat,s8=.int .i64 (i:Int)/\i<=l.length/\Hid (∀ j,j<i->l.getD j 0≠x)/\wr=w)
  (fun _ s8 _=>l.length-(intOf s8).toNat)
 case atStart=>exact⟨0,rfl,Nat.zero_le _,Qh (fun j h=>absurd h (Nat.not_lt_zero _)),rfl⟩
 case round=>
  obtain⟨i,rfl,hi,HN,rfl⟩:=hrel;by_cases hlt:i<l.length
  ·obtain⟨b,aC,rfl,-,hc⟩:=h.at hlt;have p0:=hc.n hlt;have hm:=Ji hlt 0;have i0:(0:Int)<=(i:Int):=by omega
   have i1:(i:Int)<(l.length:Int):=by omega
   obtain⟨y,hy⟩:∃ y,l.getD i 0=y:=⟨_,rfl⟩;rw[hy] at p0 hm;have HY:=Qh hy;have HM:=Qh hm;clear hc hy hm h;by_cases e:x=y
   ·have e1:(x == y)=true:=by rw[beq_iff_eq];exact e
    have aA:=Qh (show x∈l by rw[e];exact HM.out);clear e;go_wp2_with fail;go_ret
    exact⟨(i:Int),rfl,⟨fun _=>aA.out,fun _=>i0⟩,rfl⟩
   ·have e1:(x == y)=false:=by rw[beq_eq_false_iff_ne];exact e
    have aB:=Qh (show ∀ j,j<i+1->l.getD j 0≠x from fun j hj=>by
     by_cases e2:j=i
     ·subst e2;rw[HY.out];exact fun e3=>e e3.symm
     ·exact HN.out j (by omega))
    clear e;go_wp2_with fail;go_roundw
    case rel=>exact⟨i+1,by go_num,by omega,aB,by first|rfl|trivial⟩
    case measure=>simp[intOf];omega
  ·have HX:=Qh (show ¬ x∈l from fun hx=>by
    obtain⟨j,hj,e⟩:=List.mem_iff_getElem.1 hx;have:=HN.out j (by omega);rw[Zk3,Zk4 hj] at this;exact this e)
   go_wp2_with fail;go_ret
   exact⟨-1,rfl,⟨fun h=>by omega,fun h=>absurd h HX.out⟩,rfl⟩
theorem QcB (va:Value) (l:List Int) (x:Int) (w:World) (h:Sr J1 w va l) (hl:l.length<=1099511627776) :
  Calls Tryz.prog 90 #[va,.int .i64 x] w fun e w'=>e=.returned (.bool (decide (x∈l)))/\w'=w:=by
 go_enter Tryz.func90,Tryz.ntmps90
 go_wp2_with fail;refine(Qhl va l x w h hl).mono ?_;rintro e w1 ⟨k,rfl,hk,rfl⟩;have HE:=Qh (show decide (x∈l)=decide (k>=0) from decide_eq_decide.2 hk.symm);clear hk;go_wp2_with fail;go_ret
 exact⟨by rw[HE.out];rfl,rfl⟩
theorem QfK (w:World) (B T:Nat) (fr:Nat×Nat) (x0 x1 x2 x3 x4 x5 x6 x7:Value) (h:w.heap[B]? = some (.cells #[x0,x1,x2,x3,x4,x5,x6,x7] T fr)):(loadVar 87 ⟨B,0,none⟩).run Tryz.prog w=.ok (.agg #[x0,x1,x2,x3,x4,x5,x6,x7]) w:=by
 simp[go_sem,World.cell?,h]
theorem Qlc {w:World} {B T:Nat} {fr:Nat×Nat} {s1 s2:Bool} {a1 a2:Option Addr} {n1 n2 c1 c2:Nat} {x4 x5 x6 x7:Value} (h:w.heap[B]? = some (.cells #[.bool s1,.slice a1 n1 c1,.bool s2,.slice a2 n2 c2,x4,x5,x6,x7] T fr))
  (h4:noW x4=true) (h5:noW x5=true) (h6:noW x6=true) (h7:noW x7=true):∀ g,g=B->NoW w g:=by
 rintro g rfl o y hy;simp only[World.cell?,h] at hy;rcases o with _|_|_|_|_|_|_|_|o <;> simp at hy
 ·subst hy;simp[noW] at h4
 ·subst hy;simp[noW] at h5
 ·subst hy;simp[noW] at h6
 ·subst hy;simp[noW] at h7
theorem So.noW {α : Type} {E:Elt α} {w:World} {base:Nat} {v:Value} {l:List α} (h:So E w base v l):noW v=true:=by
 obtain⟨a,c,rfl,-⟩:=h.slice;rfl
theorem So.typ {α : Type} {E:Elt α} {w:World} {base:Nat} {v:Value} {l:List α} (h:So E w base v l):∀ g,v.ownBlock=some g->∃ cs,w.heap[g]? = some (.cells cs E.T (0,0)):=by
 obtain⟨xs,⟨-,h1⟩,-⟩:=h;rcases h1 with ⟨rfl,-⟩|⟨g,cap,cur,rfl,h4,h5,-⟩
 ·intro g hg;cases hg
 ·intro g' aA;have:g=g':=by simpa [Value.ownBlock] using aA
  subst this;exact⟨cur,h5⟩
theorem So.disj {α β : Type} {E:Elt α} {E':Elt β} {w:World} {b b':Nat} {v v':Value} {l:List α} {l':List β} (h:So E w b v l) (h':So E' w b' v' l') (hT:E.T≠E'.T):∀ g,v.ownBlock=some g->¬ v'.ownBlock=some g:=fun g h1 h2=>by
 obtain⟨cs,k1⟩:=h.typ g h1;obtain⟨cs',k2⟩:=h'.typ g h2;rw[k1] at k2;injection k2 with k2;injection k2 with _ k2;exact hT k2
theorem So.not_blk {α : Type} {E:Elt α} {w:World} {b:Nat} {v:Value} {l:List α} (h:So E w b v l) {B:Nat} {cs:Array Value} {T:Nat} {fr:Nat×Nat} (hB:w.heap[B]? = some (.cells cs T fr)) (hT:E.T≠T):∀ g,v.ownBlock=some g->g≠B:=fun g h1 e=>by
 subst e;obtain⟨cs',k1⟩:=h.typ g h1;rw[k1] at hB;injection hB with hB;injection hB with _ k2;exact hT k2
theorem Qkx {w:World} {B B':Nat} {cs cs':Array Value} {T T':Nat} {fr fr':Nat×Nat} (h:w.heap[B]? = some (.cells cs T fr)) (h':w.heap[B']? = some (.cells cs' T' fr')) (hT:T≠T'):B≠B':=fun e=>by
 rw[e,h'] at h;injection h with h;injection h with _ k2;exact hT k2.symm
theorem Kq.sx {D:Nat->Prop} (v:Value) (x y z:Int):Kq D fun w=>Sx w v x y z:=⟨by
 rintro S w w' ⟨s1,a1,n1,c1,s2,a2,n2,c2,s3,a3,n3,c3,e,h1,h2,h3⟩ hb hn -;exact⟨s1,a1,n1,c1,s2,a2,n2,c2,s3,a3,n3,c3,e,h1.fr hb hn,h2.fr hb hn,h3.fr hb hn⟩⟩
theorem Ins.up {w w':World} {v:Value} {b:Int} {p k:Nat} (h:Ins w v b p k) (hb:Below w.heap.size w w'):Ins w' v b p k:=by
 obtain⟨s1,a1,n1,c1,e,h1⟩:=h;exact⟨s1,a1,n1,c1,e,h1.up hb⟩
theorem Qk2 {w:World} {s:Bool} {a:Option Addr} {n c:Nat} {b:Int} {p k:Nat} {u v:Value} (h:Ins w (.agg #[.bool s,.slice a n c,u,v]) b p k):It w (Qlv s a n c) b:=by
 obtain⟨s1,a1,n1,c1,e,h1⟩:=h;simp only[Value.agg.injEq,Array.mk.injEq,List.cons.injEq,and_true,Value.bool.injEq,Value.slice.injEq] at e;obtain⟨rfl,⟨rfl,rfl,rfl⟩,-,-⟩:=e;exact h1
theorem Kq.all {D:Nat->Prop} {ι : Type} {c : ι -> Prop} {P : ι -> World->Prop} (h:∀ i,c i->Kq D (P i)):Kq D fun w=>∀ i,c i->P i w:=⟨fun a hb hn hd i hi=>(h i hi).fr (a i hi) hb hn hd⟩
theorem QjI {w:World} {B T:Nat} {fr:Nat×Nat} {x0 x1 x2 x3:Value} {h g:Nat->Value} (hb:w.heap[B]? = some (.cells #[x0,x1,x2,x3,h 0,h 1,g 0,g 1] T fr)) {i:Nat} (hi:i<2) (v:Value) :
  (w.setCell ⟨B,4+i,none⟩ v).heap[B]? = some (.cells #[x0,x1,x2,x3,Qn h i v 0,Qn h i v 1,g 0,g 1] T fr):=by
 have:i=0\/i=1:=by omega
 rcases this with rfl|rfl <;> simp[World.setCell,Array.getElem?_modify,hb,Qn]
theorem Qj3 {w:World} {B T:Nat} {fr:Nat×Nat} {x0 x1 x2 x3:Value} {h g:Nat->Value} (hb:w.heap[B]? = some (.cells #[x0,x1,x2,x3,h 0,h 1,g 0,g 1] T fr)) {i:Nat} (hi:i<2) (v:Value) :
  (w.setCell ⟨B,6+i,none⟩ v).heap[B]? = some (.cells #[x0,x1,x2,x3,h 0,h 1,Qn g i v 0,Qn g i v 1] T fr):=by
 have:i=0\/i=1:=by omega
 rcases this with rfl|rfl <;> simp[World.setCell,Array.getElem?_modify,hb,Qn]
theorem Qca {w:World} {B T:Nat} {x0 x1 x2 x3:Value} {h g:Nat->Value} (hb:w.heap[B]? = some (.cells #[x0,x1,x2,x3,h 0,h 1,g 0,g 1] T (0,0))) {i:Nat} (hi:i<2) :
  (w.cell? ⟨B,4+i,none⟩=some (h i)/\w.cell? ⟨B,6+i,none⟩=some (g i))/\w.frozen? ⟨B,4+i,none⟩=false/\w.frozen? ⟨B,6+i,none⟩=false:=by
 have:i=0\/i=1:=by omega
 rcases this with rfl|rfl <;> simp[World.cell?,World.frozen?,hb]
theorem Qhc (l:List Nat):∀ ps:List Nat,(l.foldl prS ps).length<=ps.length+l.length:=by
 induction l with
 | nil=>intro ps;simp
 | cons x l ih =>
   intro ps;have h1:=ih (prS ps x)
   have h2:(prS ps x).length<=ps.length+1:=by
    unfold prS;split
    ·simp
    ·omega
   simp only[List.foldl_cons,List.length_cons];omega
theorem Qic {l:List Nat} {i:Nat} (hi:i<l.length):(l.take (i+1)).foldl prS [2]=prS ((l.take i).foldl prS [2]) (l.getD i 0):=by
 have e:l.getD i 0=l[i]:=by rw[Zk3,Zk4 hi];rfl
 rw[e,<- List.take_append_getElem hi,List.foldl_append];rfl
theorem Qjt {l:List Nat} {p:Nat}:((p:Nat):Int)∈zI l↔p∈l:=by
 unfold zI;rw[List.mem_map]
 exact ⟨fun ⟨x, hx, e⟩ => by have : x = p := by omega
                             exact this▸hx,fun h=>⟨p,h,rfl⟩⟩
theorem QhG {N:Nat} {P:List (Nat×Nat)} (h:Facs N P) (hN:N<1099511627776) {p:Nat} (hp:p∈P.map Prod.fst):2<=p/\p<1099511627776:=by
 have h1:=(h.prs.2 p).1 hp
 have h2:1<=N:=by
  rw[h.2.2]
  exact(Facs.len h |> fun _=>by
   obtain⟨c,-,-⟩:=h.cls.2.2;have:=h.cls.pos;rw[h.2.2] at this;exact this)
 exact⟨h1.1.1,Nat.lt_of_le_of_lt (Nat.le_of_dvd h2 h1.2) hN⟩
theorem Qla {w:World} {B T:Nat} {fr:Nat×Nat} {x0 x1 x2:Value} (h:w.heap[B]? = some (.cells #[x0,x1,x2] T fr)):w.cell? ⟨B,0,none⟩=some x0/\w.cell? ⟨B,1,none⟩=some x1/\w.cell? ⟨B,2,none⟩=some x2/\True:=by
 refine⟨?_,?_,?_,trivial⟩ <;> simp[World.cell?,h]
theorem So.n1 {w:World} {base g:Nat} {x:Int} (hg:w.heap[g]? = some (.cells #[.int .i64 x] 3 (0,0))) (hb:base<=g):So J1 w base (.slice (some ⟨g,0,none⟩) 1 1) [x]:=by
 refine So.ofCells (E:=J1) (l:=[x]) hg hb (by show 1<=maxLen;decide) rfl (fun i hi=>?_) (fun u hU=>?_)
 ·have:i=0:=by simpa using hi
  subst this
  exact⟨[.int .i64 x],rfl,fun j u e=>by
   rcases j with _|j
   ·simpa using e
   ·simp at e⟩
 ·simp only[List.mem_cons,List.not_mem_nil,or_false] at hU;subst hU;rfl
theorem QeI {α : Type} (f:Nat -> α) (i:Nat):Qn f i (f i)=f:=by
 funext j
 by_cases e:j=i
 ·subst e;exact Qb _ _ _
 ·exact Qa _ _ e
theorem QeO {α : Type} (f:Nat -> α) (i:Nat) (u v : α):Qn (Qn f i u) i v=Qn f i v:=by
 funext j
 by_cases e:j=i
 ·subst e;rw[Qb,Qb]
 ·rw[Qa _ _ e,Qa _ _ e,Qa _ _ e]
structure MkJ (G:World->Prop) (B n:Nat) (x0 x1 x2 x3:Value) (h g:Nat->Value) (i:Nat) (w:World) (vh vg:Value) (lh:List (Int×Int×Int×Int)) (lg:List (Int×Int×Int)):Prop where
 G:G w
 blk:w.heap[B]? = some (.cells #[x0,x1,x2,x3,Qn h i vh 0,Qn h i vh 1,Qn g i vg 0,Qn g i vg 1] 87 (0,0))
 sh:So eFd w n vh lh
 sg:So eIs w n vg lg
 nw:NoW w B
theorem MkJ.up {G:World->Prop} {B n:Nat} {x0 x1 x2 x3:Value} {h g:Nat->Value} {i:Nat} {w w':World} {vh vg:Value} {lh:List (Int×Int×Int×Int)} {lg:List (Int×Int×Int)} (J:MkJ G B n x0 x1 x2 x3 h g i w vh vg lh lg) (k:Kp G) (hb:Below w.heap.size w w'):MkJ G B n x0 x1 x2 x3 h g i w' vh vg lh lg:=
 ⟨k.up J.G hb,(Kp.blk _ _).up J.blk hb,J.sh.up hb,J.sg.up hb,J.nw.fr (ButS.of hb (fun _=>False)) (Ql J.blk).1 (fun h=>h)⟩
theorem MkJ.has {G:World->Prop} {B n:Nat} {x0 x1 x2 x3:Value} {h g:Nat->Value} {i:Nat} {w w':World} {vh vg vh':Value} {lh lh':List (Int×Int×Int×Int)} {lg:List (Int×Int×Int)} (J:MkJ G B n x0 x1 x2 x3 h g i w vh vg lh lg) {D:Nat->Prop} (k:Kq D G) (hDo:∀ g,D g->g≠B/\¬ vh.ownBlock=some g) (hi:i<2)
  (h8:So eFd w' n vh' lh') (hb:ButS (fun k=>vh.ownBlock=some k) w w'):MkJ G B n x0 x1 x2 x3 h g i (w'.setCell ⟨B,4+i,none⟩ vh') vh' vg lh' lg:=by
 have aG:=(Ql J.blk).1;have aE:¬ vh.ownBlock=some B:=fun e=>J.sh.not_blk J.blk (by decide) B e rfl;have aD:∀ g,vh.ownBlock=some g->NoW w g:=fun g hg=>J.sh.nw g hg;have hG:=k.fr J.G hb aD (fun g hg hs=>(hDo g hg).2 hs);have hB:=(hb.block B aG aE).trans J.blk;have aC:=J.sg.fr hb aD (fun g hg hs=>J.sg.disj J.sh (by decide) g hg hs);have aF:=J.nw.fr hb aG aE;have aB:=ButS.set w' B (4+i) vh';have aA:∀ g,g=B->NoW w' g:=fun g e=>by subst e;exact aF
 refine⟨k.fr hG aB aA (fun g hg hs=>(hDo g hg).1 hs),?_,h8.fr aB aA (fun g hg=>h8.not_blk hB (by decide) g hg),aC.fr aB aA (fun g hg=>aC.not_blk hB (by decide) g hg),aF.set _ _ h8.noW⟩;have:=QjI hB hi vh';rwa [QeO] at this
theorem MkJ.no {G:World->Prop} {B n:Nat} {x0 x1 x2 x3:Value} {h g:Nat->Value} {i:Nat} {w w':World} {vh vg vg':Value} {lh:List (Int×Int×Int×Int)} {lg lg':List (Int×Int×Int)} (J:MkJ G B n x0 x1 x2 x3 h g i w vh vg lh lg) {D:Nat->Prop} (k:Kq D G) (hDo:∀ g,D g->g≠B/\¬ vg.ownBlock=some g) (hi:i<2)
  (h8:So eIs w' n vg' lg') (hb:ButS (fun k=>vg.ownBlock=some k) w w'):MkJ G B n x0 x1 x2 x3 h g i (w'.setCell ⟨B,6+i,none⟩ vg') vh vg' lh lg':=by
 have aG:=(Ql J.blk).1;have aE:¬ vg.ownBlock=some B:=fun e=>J.sg.not_blk J.blk (by decide) B e rfl;have aD:∀ g,vg.ownBlock=some g->NoW w g:=fun g hg=>J.sg.nw g hg;have hG:=k.fr J.G hb aD (fun g hg hs=>(hDo g hg).2 hs);have hB:=(hb.block B aG aE).trans J.blk;have aC:=J.sh.fr hb aD (fun g hg hs=>J.sh.disj J.sg (by decide) g hg hs);have aF:=J.nw.fr hb aG aE;have aB:=ButS.set w' B (6+i) vg';have aA:∀ g,g=B->NoW w' g:=fun g e=>by subst e;exact aF
 refine⟨k.fr hG aB aA (fun g hg hs=>(hDo g hg).1 hs),?_,aC.fr aB aA (fun g hg=>aC.not_blk hB (by decide) g hg),h8.fr aB aA (fun g hg=>h8.not_blk hB (by decide) g hg),aF.set _ _ h8.noW⟩;have:=Qj3 hB hi vg';rwa [QeO] at this
theorem MkJ.map {G G':World->Prop} {B n:Nat} {x0 x1 x2 x3:Value} {h g:Nat->Value} {i:Nat} {w:World} {vh vg:Value} {lh:List (Int×Int×Int×Int)} {lg:List (Int×Int×Int)} (J:MkJ G B n x0 x1 x2 x3 h g i w vh vg lh lg) (k:G' w):MkJ G' B n x0 x1 x2 x3 h g i w vh vg lh lg:=⟨k,J.blk,J.sh,J.sg,J.nw⟩
def cA (a:Int) (k:Nat):Int:=if k=0 then a else -2*a
def cB (b D:Int) (k:Nat):Int:=if k=0 then b else D
def MkQ (a b D:Int) (bd:Nat) (ps:List Nat) (k:Nat) (l:List (Int×Int×Int×Int)) (m:List (Int×Int×Int)):Prop:=∃ C,Cand (cB b D k).natAbs C/\LsTo (HasR (cA a k) (cB b D k) bd) C l/\LsTo (NotR (cA a k) (cB b D k) ps) C m
structure MkO (B n:Nat) (Qs:Nat->List (Int×Int×Int×Int)->List (Int×Int×Int)->Prop) (x0 x1 x2 x3:Value) (i:Nat) (h g:Nat->Value) (L:Nat->List (Int×Int×Int×Int)) (M:Nat->List (Int×Int×Int)) (w:World):Prop where
 blk:w.heap[B]? = some (.cells #[x0,x1,x2,x3,h 0,h 1,g 0,g 1] 87 (0,0))
 so:∀ k,k<2->So eFd w n (h k) (L k)/\So eIs w n (g k) (M k)
 nil:∀ k,i<=k->h k=.slice none 0 0/\L k=[]/\g k=.slice none 0 0/\M k=[]
 nw:NoW w B
 ls:∀ k,k<i->Qs k (L k) (M k)
section
variable {B n:Nat} {Qs:Nat->List (Int×Int×Int×Int)->List (Int×Int×Int)->Prop} {x0 x1 x2 x3:Value} {i:Nat} {h g:Nat->Value} {L:Nat->List (Int×Int×Int×Int)} {M:Nat->List (Int×Int×Int)} {w w':World}
theorem MkO.up (O:MkO B n Qs x0 x1 x2 x3 i h g L M w) (hb:Below w.heap.size w w'):MkO B n Qs x0 x1 x2 x3 i h g L M w':=
 ⟨(Kp.blk _ _).up O.blk hb,fun k hk=>⟨(O.so k hk).1.up hb,(O.so k hk).2.up hb⟩,O.nil,O.nw.fr (ButS.of hb (fun _=>False)) (Ql O.blk).1 (fun h=>h),O.ls⟩
theorem MkO.enter (O:MkO B n Qs x0 x1 x2 x3 i h g L M w) {G:World->Prop} (hG:G w) (n':Nat):MkJ G B n' x0 x1 x2 x3 h g i w (h i) (g i) [] []:=by
 obtain⟨e1,-,e3,-⟩:=O.nil i (Nat.le_refl _);refine⟨hG,by rw[QeI,QeI];exact O.blk,by rw[e1];exact So.nil _ _ _,by rw[e3];exact So.nil _ _ _,O.nw⟩
theorem MkO.next (O:MkO B n Qs x0 x1 x2 x3 i h g L M w) {G:World->Prop} {n':Nat} {vh vg:Value} {lh:List (Int×Int×Int×Int)} {lg:List (Int×Int×Int)} (J:MkJ G B n' x0 x1 x2 x3 h g i w' vh vg lh lg) (hn:n<=n')
  (hs:∀ k,(k<2/\k≠i)->So eFd w' n (h k) (L k)/\So eIs w' n (g k) (M k)) (hq:Qs i lh lg) :
  MkO B n Qs x0 x1 x2 x3 (i+1) (Qn h i vh) (Qn g i vg) (Qn L i lh) (Qn M i lg) w':=by
 refine⟨J.blk,fun k hk=>?_,fun k hk=>?_,J.nw,fun k hk=>?_⟩
 ·by_cases e:k=i
  ·subst e;rw[Qb,Qb,Qb,Qb];exact⟨J.sh.base hn,J.sg.base hn⟩
  ·rw[Qa _ _ e,Qa _ _ e,Qa _ _ e,Qa _ _ e];exact hs k ⟨hk,e⟩
 ·have e:k≠i:=by omega
  rw[Qa _ _ e,Qa _ _ e,Qa _ _ e,Qa _ _ e];exact O.nil k (by omega)
 ·by_cases e:k=i
  ·subst e;rw[Qb,Qb];exact hq
  ·rw[Qa _ _ e,Qa _ _ e];exact O.ls k (by omega)
theorem MkO.fr (O:MkO B n Qs x0 x1 x2 x3 i h g L M w) {B3:Nat} {cs:Array Value} {fr:Nat×Nat} (hc:w.heap[B3]? = some (.cells cs 125 fr)) (hne:B3≠B) (hb:ButS (fun k=>k=B3) w w') (hn:∀ g,g=B3->NoW w g):MkO B n Qs x0 x1 x2 x3 i h g L M w':=
 ⟨(hb.block B (Ql O.blk).1 (fun e=>hne e.symm)).trans O.blk,fun k hk=>⟨(O.so k hk).1.fr hb hn (fun g hg=>(O.so k hk).1.not_blk hc (by decide) g hg),(O.so k hk).2.fr hb hn (fun g hg=>(O.so k hk).2.not_blk hc (by decide) g hg)⟩,O.nil,O.nw.fr hb (Ql O.blk).1 (fun e=>hne e.symm),O.ls⟩
end
theorem ObTo.cls {x y z:Int} {ps:List Nat} {b:Int} {p k:Nat} (h:ObTo x y z ps b p k true):b=x:=by
 rcases h with ⟨-,h,-⟩|⟨-,h,-⟩|⟨-,-,-,-,h,-⟩
 ·exact h
 ·exact h
 ·cases h
theorem QgZ {α : Type} {R:Int->Option α -> Prop} {C:List Int} {l:List α} {j:Nat} (h:LsTo R (C.take j) l) (hj:j<C.length) (hr:R (C.getD j 0) none):LsTo R (C.take (j+1)) l:=by
 have:=h.snoc hr;have e:C.getD j 0=C[j]:=by rw[Zk3,Zk4 hj];rfl
 rw[e,List.take_append_getElem hj] at this;simpa using this
theorem Qhh {α : Type} {R:Int->Option α -> Prop} {C:List Int} {l:List α} {j:Nat} (h:LsTo R (C.take j) l) (hj:j<C.length) {q : α} (hr:R (C.getD j 0) (some q)):LsTo R (C.take (j+1)) (l++[q]):=by
 have:=h.snoc hr;have e:C.getD j 0=C[j]:=by rw[Zk3,Zk4 hj];rfl
 rw[e,List.take_append_getElem hj] at this;exact this
